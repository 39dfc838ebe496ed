/- Green, GreenB, GreenC, GreenD, GreenE, GreenF, GreenG, GreenH, GreenI, GreenJ, GreenK, Mult, MultB, MultC, MultD, MultE, MultF, MultG, MultH, MultI, MultJ, MultK, MultL, MultM, MultN, MultO, PPart, PSame, PWord, merged. -/
import Derived.Test.YtdcibmiaiijjpaaFns
import Derived.Test.YtdcibmiaiijjpaaGen
namespace Sg
open Go
set_option linter.unusedVariables false
set_option linter.unusedSimpArgs false
theorem ref03_Same_ok {a b : List Int} {K : Bool → Prop} (h : K (decide (a = b))) : ref03_Same a b K := by
  unfold ref03_Same
  intro ha hb
  split
  · rename_i hl
    have hl' : a.length = b.length := by omega
    refine LoopWP.to a.length (fun k : Nat => k) (fun k => k ≤ a.length ∧ ∀ j : Nat, j < k → ix a j = ix b j) ⟨by omega, fun j hj => by omega⟩ (fun s h => h.1) ?_
    rintro k X ⟨hk, hI⟩ hX
    show ref03_Same_L1 a b K X k
    unfold ref03_Same_L1
    split
    · refine ⟨by omega, by omega, by omega, by omega, ?_⟩
      split
      · rename_i he
        refine hX (k + 1) ⟨by omega, fun j hj => ?_⟩ rfl
        by_cases hjk : j = k
        · subst hjk; exact he
        · exact hI j (by omega)
      · rename_i hne
        have : a ≠ b := fun h => hne (by rw [h])
        simpa [this] using h
    · have : a = b := list_ix hl' fun j hj => hI j (by omega)
      simpa [this] using h
  · rename_i hl
    have : a ≠ b := fun h => hl (by rw [h])
    simpa [this] using h

end Sg
namespace Sg
open Go
set_option linter.unusedVariables false
set_option linter.unusedSimpArgs false
end Sg
namespace Sg
open Go
set_option linter.unusedVariables false
set_option linter.unusedSimpArgs false

/-- The product. -/
def mu (t : List (List Int)) (x y : Int) : Int := ix (ix t x) y
def rowB (n : Nat) (row : List Int) : Bool := decide (row.length = n) && row.all fun x => decide (0 ≤ x) && decide (x < n)
/-- A table of the right shape. -/
def SH (t : List (List Int)) : Bool := decide (1 ≤ t.length) && decide (t.length ≤ 400) && t.all (rowB t.length)
theorem rowB_iff {n : Nat} {row : List Int} : rowB n row = true ↔ row.length = n ∧ ∀ j : Nat, j < row.length → 0 ≤ ix row j ∧ ix row j < n := by
  have : (∀ x ∈ row, 0 ≤ x ∧ x < (n : Int)) ↔ ∀ j : Nat, j < row.length → 0 ≤ ix row j ∧ ix row j < n := forall_mem_ix (p := fun x : Int => 0 ≤ x ∧ x < (n : Int))
  simp only [rowB, Bool.and_eq_true, decide_eq_true_eq, List.all_eq_true, ← this]
theorem SH_iff {t : List (List Int)} : SH t = true ↔ 1 ≤ t.length ∧ t.length ≤ 400 ∧ ∀ j : Nat, j < t.length → rowB t.length (ix t j) = true := by
  have : (∀ x ∈ t, rowB t.length x = true) ↔ ∀ j : Nat, j < t.length → rowB t.length (ix t j) = true := forall_mem_ix (p := fun x => rowB t.length x = true)
  simp only [SH, Bool.and_eq_true, decide_eq_true_eq, List.all_eq_true, ← this, and_assoc]
structure Tb (t : List (List Int)) (n : Nat) : Prop where
  len : t.length = n
  n1 : 1 ≤ n
  n4 : n ≤ 400
  row : ∀ x : Int, 0 ≤ x → x < n → (ix t x).length = n
  lo : ∀ x y : Int, 0 ≤ x → x < n → 0 ≤ y → y < n → 0 ≤ ix (ix t x) y
  hi : ∀ x y : Int, 0 ≤ x → x < n → 0 ≤ y → y < n → ix (ix t x) y < n
theorem SH.tb {t : List (List Int)} (h : SH t = true) : Tb t t.length := by
  obtain ⟨h1, h2, h3⟩ := SH_iff.1 h
  have hr : ∀ x : Int, 0 ≤ x → x < t.length → rowB t.length (ix t x) = true := fun x h0 hx => by
    obtain ⟨m, rfl⟩ := Int.eq_ofNat_of_zero_le h0; exact h3 m (by omega)
  have hl : ∀ x : Int, 0 ≤ x → x < t.length → (ix t x).length = t.length := fun x h0 hx => (rowB_iff.1 (hr x h0 hx)).1
  have he : ∀ x y : Int, 0 ≤ x → x < t.length → 0 ≤ y → y < t.length → 0 ≤ ix (ix t x) y ∧ ix (ix t x) y < t.length := fun x y h0 hx k0 ky => by
    obtain ⟨m, rfl⟩ := Int.eq_ofNat_of_zero_le k0
    exact (rowB_iff.1 (hr x h0 hx)).2 m (by have := hl x h0 hx; omega)
  exact ⟨rfl, h1, h2, hl, fun x y a b c d => (he x y a b c d).1, fun x y a b c d => (he x y a b c d).2⟩
theorem Tb.mu {t : List (List Int)} {n : Nat} (h : Tb t n) {x y : Int} (h0 : 0 ≤ x) (h1 : x < n) (k0 : 0 ≤ y) (k1 : y < n) : 0 ≤ mu t x y ∧ mu t x y < n := ⟨h.lo x y h0 h1 k0 k1, h.hi x y h0 h1 k0 k1⟩
def shC (t : List (List Int)) : Int := if 400 < t.length then 3 else if SH t = true then 0 else 4
theorem SH_false {t : List (List Int)} (h : ¬ (1 ≤ t.length ∧ t.length ≤ 400 ∧ ∀ j : Nat, j < t.length → rowB t.length (ix t j) = true)) : SH t = false := by
  rw [Bool.eq_false_iff, ne_eq, SH_iff]; exact h
theorem shC4 {t : List (List Int)} (h : ¬ 400 < t.length) (h2 : SH t = false) : shC t = 4 := by rw [shC, if_neg h, h2]; rfl
theorem mult_shape_ok {t : List (List Int)} {K : Int → Prop} (h : K (shC t)) : mult_shape t K := by
  unfold mult_shape
  intro _
  split
  · rw [shC, if_pos (by omega)] at h; exact h
  · split
    · rw [shC4 (by omega) (SH_false (by omega))] at h; exact h
    · refine LoopWP.to t.length (fun k : Nat => k) (fun k => k ≤ t.length ∧ ∀ j : Nat, j < k → rowB t.length (ix t j) = true) ⟨by omega, fun j hj => by omega⟩ (fun s h => h.1) ?_
      rintro k X ⟨hk, hI⟩ hX
      show mult_shape_L1 t K X k
      unfold mult_shape_L1
      split
      · refine ⟨by omega, by omega, fun _ => ?_⟩
        split
        · rename_i hrl
          refine LoopWP.to (ix t (k : Int)).length (fun m : Nat => m) (fun m => m ≤ (ix t (k : Int)).length ∧ ∀ j : Nat, j < m → 0 ≤ ix (ix t (k : Int)) j ∧ ix (ix t (k : Int)) j < t.length) ⟨by omega, fun j hj => by omega⟩ (fun s h => h.1) ?_
          rintro m X2 ⟨hm, hJ⟩ hX2
          show mult_shape_L2 t k X K X2 m
          unfold mult_shape_L2
          split
          · refine ⟨by omega, by omega, ?_⟩
            split
            · rw [shC4 (by omega) (SH_false fun hs => by have := (rowB_iff.1 (hs.2.2 k (by omega))).2 m (by omega); omega)] at h; exact h
            · split
              · rw [shC4 (by omega) (SH_false fun hs => by have := (rowB_iff.1 (hs.2.2 k (by omega))).2 m (by omega); omega)] at h; exact h
              · refine hX2 (m + 1) ⟨by omega, fun j hj => ?_⟩ rfl
                by_cases hjm : j = m
                · subst hjm; omega
                · exact hJ j (by omega)
          · refine hX (k + 1) ⟨by omega, fun j hj => ?_⟩ rfl
            by_cases hjk : j = k
            · subst hjk; exact rowB_iff.2 ⟨by omega, fun i hi => hJ i (by omega)⟩
            · exact hI j (by omega)
        · rw [shC4 (by omega) (SH_false fun hs => by have := (rowB_iff.1 (hs.2.2 k (by omega))).1; omega)] at h; exact h
      · rw [shC, if_neg (by omega), if_pos (SH_iff.2 ⟨by omega, by omega, fun j hj => hI j (by omega)⟩)] at h; exact h
theorem ref14_Shape_ok {t : List (List Int)} {K : Int → Prop} (h : K (shC t)) : ref14_Shape t K := mult_shape_ok h
theorem shC0 {t : List (List Int)} : shC t = 0 ↔ SH t = true := by
  unfold shC
  constructor
  · intro h; split at h
    · omega
    · split at h
      · assumption
      · omega
  · intro h
    have := (SH_iff.1 h).2.1
    rw [if_neg (by omega), if_pos h]
/-- Are the numbers elements? -/
def inB (n : Nat) (l : List Int) : Bool := l.all fun x => decide (0 ≤ x) && decide (x < n)
theorem inB_iff {n : Nat} {l : List Int} : inB n l = true ↔ ∀ j : Nat, j < l.length → 0 ≤ ix l j ∧ ix l j < n := by
  have : (∀ x ∈ l, 0 ≤ x ∧ x < (n : Int)) ↔ ∀ j : Nat, j < l.length → 0 ≤ ix l j ∧ ix l j < n := forall_mem_ix (p := fun x : Int => 0 ≤ x ∧ x < (n : Int))
  simp only [inB, Bool.and_eq_true, decide_eq_true_eq, List.all_eq_true, ← this]
theorem inB_mem {n : Nat} {l : List Int} : inB n l = true ↔ ∀ x ∈ l, 0 ≤ x ∧ x < (n : Int) := by
  simp only [inB, Bool.and_eq_true, decide_eq_true_eq, List.all_eq_true]
theorem inB_false {n : Nat} {l : List Int} (h : ¬ ∀ j : Nat, j < l.length → 0 ≤ ix l j ∧ ix l j < n) : inB n l = false := by
  rw [Bool.eq_false_iff, ne_eq, inB_iff]; exact h
theorem mult_areElements_ok {t : List (List Int)} {l : List Int} {K : Bool → Prop} (h : K (inB t.length l)) : mult_areElements t l K := by
  unfold mult_areElements
  intro _
  refine LoopWP.to l.length (fun k : Nat => k) (fun k => k ≤ l.length ∧ ∀ j : Nat, j < k → 0 ≤ ix l j ∧ ix l j < t.length) ⟨by omega, fun j hj => by omega⟩ (fun s h => h.1) ?_
  rintro k X ⟨hk, hI⟩ hX
  show mult_areElements_L1 t l K X k
  unfold mult_areElements_L1
  split
  · refine ⟨by omega, by omega, ?_⟩
    split
    · rw [inB_false (fun hh => by have := hh k (by omega); omega)] at h; exact h
    · intro _
      split
      · rw [inB_false (fun hh => by have := hh k (by omega); omega)] at h; exact h
      · refine hX (k + 1) ⟨by omega, fun j hj => ?_⟩ rfl
        by_cases hjk : j = k
        · subst hjk; omega
        · exact hI j (by omega)
  · rw [inB_iff.2 fun j hj => hI j (by omega)] at h; exact h
theorem ref14_In_ok {t : List (List Int)} {l : List Int} {K : Bool → Prop} (h : K (inB t.length l)) : ref14_In t l K := mult_areElements_ok h

/-! ### Light's test -/
def lgB (t : List (List Int)) (g : Int) : Bool := (iota t.length).all fun x => (iota t.length).all fun y => decide (mu t (mu t x g) y = mu t x (mu t g y))
theorem mem_iota {n : Nat} {x : Int} : x ∈ iota n ↔ 0 ≤ x ∧ x < n := by
  simp only [iota, List.mem_map, List.mem_range]
  constructor
  · rintro ⟨a, h, rfl⟩; omega
  · rintro ⟨h0, h1⟩; exact ⟨x.toNat, by omega, by omega⟩
theorem lgB_iff {t : List (List Int)} {g : Int} : lgB t g = true ↔ ∀ x y : Nat, x < t.length → y < t.length → mu t (mu t x g) y = mu t x (mu t g y) := by
  simp only [lgB, List.all_eq_true, mem_iota, decide_eq_true_eq]
  constructor
  · intro h x y hx hy; exact h x (by omega) y (by omega)
  · intro h x hx y hy
    obtain ⟨a, rfl⟩ := Int.eq_ofNat_of_zero_le hx.1
    obtain ⟨b, rfl⟩ := Int.eq_ofNat_of_zero_le hy.1
    exact h a b (by omega) (by omega)
theorem lgB_false {t : List (List Int)} {g : Int} (h : ¬ ∀ x y : Nat, x < t.length → y < t.length → mu t (mu t x g) y = mu t x (mu t g y)) : lgB t g = false := by
  rw [Bool.eq_false_iff, ne_eq, lgB_iff]; exact h
theorem all_false {α : Type} [Inhabited α] {p : α → Bool} {l : List α} {k : Nat} (hk : k < l.length) (h : p (ix l k) = false) : l.all p = false := by
  rw [Bool.eq_false_iff, ne_eq, List.all_eq_true]
  intro hh; have := hh _ (ix_mem (i := (k : Int)) (by omega) (by omega)); rw [h] at this; cases this
theorem all_ix {α : Type} [Inhabited α] {p : α → Bool} {l : List α} (h : ∀ j : Nat, j < l.length → p (ix l j) = true) : l.all p = true := by
  rw [List.all_eq_true]; exact (forall_mem_ix (p := fun x => p x = true)).2 h
theorem mult_associates_ok {t : List (List Int)} (ht : SH t = true) {gens : List Int} (hg : inB t.length gens = true) {K : Bool → Prop} (h : K (gens.all (lgB t))) : mult_associates t gens K := by
  unfold mult_associates
  have T := SH.tb ht
  have n4 := T.n4
  refine fun _ => ⟨by omega, by omega, fun _ => ?_⟩
  have hgi := inB_iff.1 hg
  refine LoopWP.to gens.length (fun s : Nat × List Bool => s.1) (fun s => s.1 ≤ gens.length ∧ s.2.length = t.length ∧ (∀ j : Nat, j < s.1 → lgB t (ix gens j) = true) ∧ ∀ x : Nat, x < t.length → ix s.2 x = true → lgB t x = true)
    ⟨by simp, by simp, fun j hj => by simp at hj, fun x hx hh => by rw [ix_replicate _ _ hx] at hh; cases hh⟩ (fun s h => h.1) ?_
  rintro ⟨k, tr⟩ X ⟨hk, hl, hI, hT⟩ hX
  simp only at hk hl hI hT
  show mult_associates_L1 t gens K _ k tr
  unfold mult_associates_L1
  split
  · have hgk := hgi k (by omega)
    obtain ⟨g, hgg⟩ := Int.eq_ofNat_of_zero_le hgk.1
    rw [hgg] at hgk ⊢
    refine ⟨by omega, by omega, by omega, by omega, ?_⟩
    split
    · rename_i htr
      refine hX (k + 1, tr) ⟨by simp only; omega, hl, fun j hj => ?_, hT⟩ rfl
      simp only at hj
      by_cases hjk : j = k
      · subst hjk; rw [hgg]; exact hT g (by omega) htr
      · exact hI j (by omega)
    · refine ⟨by omega, by omega, ?_⟩
      refine LoopWP.to t.length (fun x : Nat => x) (fun x => x ≤ t.length ∧ ∀ a b : Nat, a < x → b < t.length → mu t (mu t a g) b = mu t a (mu t g b)) ⟨by omega, fun a b ha => by omega⟩ (fun s h => h.1) ?_
      rintro x X2 ⟨hx, hJ⟩ hX2
      show mult_associates_L2 t gens k tr _ K X2 x
      unfold mult_associates_L2
      rw [hgg]
      split
      · have hxn : (x : Int) < t.length := by omega
        have r1 := T.row x (by omega) hxn
        have m1 := T.mu (x := x) (y := g) (by omega) hxn (by omega) hgk.2
        unfold mu at m1
        have r2 := T.row g (by omega) hgk.2
        have r3 := T.row _ m1.1 m1.2
        refine ⟨by omega, by omega, by omega, by omega, m1.1, m1.2, by omega, by omega, fun _ => ?_⟩
        refine LoopWP.to t.length (fun y : Nat => y) (fun y => y ≤ t.length ∧ ∀ b : Nat, b < y → mu t (mu t x g) b = mu t x (mu t g b)) ⟨by omega, fun b hb => by omega⟩ (fun s h => h.1) ?_
        rintro y X3 ⟨hy, hL⟩ hX3
        show mult_associates_L3 t gens k x X2 K X3 y
        unfold mult_associates_L3
        rw [hgg]
        split
        · have hyn : (y : Int) < t.length := by omega
          have m2 := T.mu (x := g) (y := y) (by omega) hgk.2 (by omega) hyn
          unfold mu at m2
          refine ⟨by omega, by omega, by omega, by omega, m2.1, by omega, ?_⟩
          split
          · rename_i he
            refine hX3 (y + 1) ⟨by omega, fun b hb => ?_⟩ rfl
            by_cases hby : b = y
            · subst hby; exact he
            · exact hL b (by omega)
          · rename_i he
            rw [all_false (k := k) (by omega) (lgB_false fun hh => he (by rw [hgg] at hh; exact hh x y (by omega) (by omega)))] at h; exact h
        · refine hX2 (x + 1) ⟨by omega, fun a b ha hb => ?_⟩ rfl
          by_cases hax : a = x
          · subst hax; exact hL b (by omega)
          · exact hJ a b (by omega) hb
      · have hlg : lgB t g = true := lgB_iff.2 fun a b ha hb => hJ a b (by omega) hb
        refine hX (k + 1, _) ⟨by simp only; omega, by simpa using hl, fun j hj => ?_, fun a ha hh => ?_⟩ rfl
        · simp only at hj
          by_cases hjk : j = k
          · subst hjk; rw [hgg]; exact hlg
          · exact hI j (by omega)
        · simp only at hh
          rw [ix_st _ (by omega) (by omega) (by omega)] at hh
          split at hh
          · rename_i hag; rw [hag]; exact hlg
          · exact hT a ha hh
  · rw [all_ix fun j hj => hI j (by omega)] at h; exact h
/-! ### What spans -/
inductive Clo (t : List (List Int)) (G : List Int) : Int → Prop
  | gen {x : Int} : x ∈ G → Clo t G x
  | mul {x y : Int} : Clo t G x → Clo t G y → Clo t G (mu t x y)
theorem Clo.mono {t : List (List Int)} {G G' : List Int} (h : ∀ x ∈ G, x ∈ G') {x : Int} (hx : Clo t G x) : Clo t G' x := by
  induction hx with
  | gen hg => exact .gen (h _ hg)
  | mul _ _ ih1 ih2 => exact .mul ih1 ih2
theorem Clo.in_ {t : List (List Int)} {n : Nat} (T : Tb t n) {G : List Int} (hG : ∀ x ∈ G, 0 ≤ x ∧ x < (n : Int)) {x : Int} (hx : Clo t G x) : 0 ≤ x ∧ x < (n : Int) := by
  induction hx with
  | gen hg => exact hG _ hg
  | mul _ _ ih1 ih2 => exact T.mu ih1.1 ih1.2 ih2.1 ih2.2
theorem nodup_le {l : List Int} (hn : l.Nodup) {n : Nat} (hl : ∀ x ∈ l, 0 ≤ x ∧ x < (n : Int)) : l.length ≤ n := by
  rcases Nat.lt_or_ge n l.length with hlt | hge
  · exfalso
    obtain ⟨a, b, hab, hb, he⟩ := pigeon n (fun m => ix l m) fun m hm => hl _ (ix_mem (by omega) (by omega))
    rw [ix_lt (by omega), ix_lt (by omega)] at he
    exact (List.pairwise_iff_getElem.1 hn) a b (by omega) (by omega) hab he
  · exact hge
/-- What has been made: once each, marked, out of the generators. -/
structure MI (t : List (List Int)) (n : Nat) (G made : List Int) (mk : List Bool) : Prop where
  nd : made.Nodup
  len : mk.length = n
  inn : ∀ x ∈ made, 0 ≤ x ∧ x < (n : Int)
  mkd : ∀ x : Nat, x < n → (ix mk x = true ↔ (x : Int) ∈ made)
  clo : ∀ x ∈ made, Clo t G x
theorem MI.add {t : List (List Int)} {n : Nat} {G made : List Int} {mk : List Bool} (h : MI t n G made mk) {x : Int} (h0 : 0 ≤ x) (h1 : x < n) (hc : Clo t G x) (hx : ¬ ix mk x = true) : MI t n G (made ++ [x]) (st mk x true) := by
  obtain ⟨m, rfl⟩ := Int.eq_ofNat_of_zero_le h0
  have hnm : (m : Int) ∉ made := fun hh => hx ((h.mkd m (by omega)).2 hh)
  refine ⟨List.nodup_append.2 ⟨h.nd, by simp, fun a ha b hb hab => ?_⟩, by simpa using h.len, fun x hx => ?_, fun x hxn => ?_, fun x hx => ?_⟩
  · rw [List.mem_singleton] at hb; subst hab; subst hb; exact hnm ha
  · rcases List.mem_append.1 hx with hx | hx
    · exact h.inn x hx
    · rw [List.mem_singleton] at hx; subst hx; omega
  · rw [ix_st _ (by omega) (by have := h.len; omega) (by omega), List.mem_append, List.mem_singleton]
    split
    · rename_i he; exact ⟨fun _ => .inr he, fun _ => rfl⟩
    · rename_i he
      rw [h.mkd x hxn]
      exact ⟨.inl, fun hh => hh.resolve_right he⟩
  · rcases List.mem_append.1 hx with hx | hx
    · exact h.clo x hx
    · rw [List.mem_singleton] at hx; subst hx; exact hc
theorem MI.mono {t : List (List Int)} {n : Nat} {G G' made : List Int} {mk : List Bool} (h : MI t n G made mk) (hG : ∀ x ∈ G, x ∈ G') : MI t n G' made mk := ⟨h.nd, h.len, h.inn, h.mkd, fun x hx => (h.clo x hx).mono hG⟩
/-- What is kept while products are added: marks and members, and that all up to g are there. -/
structure SI (t : List (List Int)) (n : Nat) (G : List Int) (g : Nat) (made : List Int) (mk : List Bool) : Prop where
  mi : MI t n G made mk
  up : ∀ j : Nat, j < g → (j : Int) ∈ made
theorem SI.add {t : List (List Int)} {n : Nat} {G : List Int} {g : Nat} {made : List Int} {mk : List Bool} (h : SI t n G g made mk) {x : Int} (h0 : 0 ≤ x) (h1 : x < n) (hc : Clo t G x) (hx : ¬ ix mk x = true) : SI t n G g (made ++ [x]) (st mk x true) :=
  ⟨h.mi.add h0 h1 hc hx, fun j hj => List.mem_append_left _ (h.up j hj)⟩
theorem SI.le {t : List (List Int)} {n : Nat} {G : List Int} {g : Nat} {made : List Int} {mk : List Bool} (h : SI t n G g made mk) : made.length ≤ n := nodup_le h.mi.nd h.mi.inn
theorem mult_spanning_ok {t : List (List Int)} (ht : SH t = true) {K : List Int → Prop} (h : ∀ G, inB t.length G = true → (∀ x : Nat, x < t.length → Clo t G x) → K G) : mult_spanning t K := by
  unfold mult_spanning
  have T := SH.tb ht
  have n4 := T.n4
  refine fun _ => ⟨by omega, by omega, ?_⟩
  refine LoopWP.to t.length (fun s : Nat × Nat × List Int × List Int × List Bool => s.2.1)
    (fun s => s.2.1 ≤ t.length ∧ s.1 ≤ s.2.2.1.length ∧ s.2.2.2.1.length ≤ s.2.1 ∧ (∀ x ∈ s.2.2.2.1, 0 ≤ x ∧ x < (t.length : Int)) ∧ SI t t.length s.2.2.2.1 s.2.1 s.2.2.1 s.2.2.2.2)
    ⟨by simp, by simp, by simp, by simp, ⟨⟨List.nodup_nil, by simp, by simp, fun x hx => by simp [ix_replicate _ _ hx], by simp⟩, fun j hj => by simp at hj⟩⟩ (fun s h => h.1) ?_
  rintro ⟨m, g, made, gens, mk⟩ X ⟨hg, hm, hgl, hG, hI⟩ hX
  simp only at hg hm hgl hG hI
  show mult_spanning_L1 t K _ m g made gens mk
  unfold mult_spanning_L1
  have hml := hI.mi.len
  split
  · refine ⟨by omega, by omega, ?_⟩
    split
    · rename_i hmk
      refine hX (m, g + 1, made, gens, mk) ⟨by simp only; omega, hm, by simp only; omega, hG, ⟨hI.mi, fun j hj => ?_⟩⟩ rfl
      by_cases hjg : j = g
      · subst hjg; exact (hI.mi.mkd j (by omega)).1 hmk
      · exact hI.up j (by simp only at hj; omega)
    · rename_i hmk
      refine ⟨by simp; omega, by omega, by omega, by omega, by omega, by have := hI.le; simp; omega, ?_⟩
      have hI2 : SI t t.length (gens ++ [(g : Int)]) (g + 1) (made ++ [(g : Int)]) (st mk (g : Int) true) := by
        have h1 : SI t t.length (gens ++ [(g : Int)]) g made mk := ⟨hI.mi.mono fun x hx => List.mem_append_left _ hx, hI.up⟩
        have h2 := h1.add (x := (g : Int)) (by omega) (by omega) (.gen (by simp)) hmk
        refine ⟨h2.mi, fun j hj => ?_⟩
        by_cases hjg : j = g
        · subst hjg; simp
        · exact h2.up j (by omega)
      have hG2 : ∀ x ∈ gens ++ [(g : Int)], 0 ≤ x ∧ x < (t.length : Int) := by
        intro x hx
        rcases List.mem_append.1 hx with hx | hx
        · exact hG x hx
        · rw [List.mem_singleton] at hx; subst hx; omega
      have hgl2 : (gens ++ [(g : Int)]).length ≤ g + 1 := by simp; omega
      generalize hGe : gens ++ [(g : Int)] = G2 at *
      refine LoopWP.to t.length (fun s : Nat × List Int × List Bool => s.1) (fun s => s.1 ≤ s.2.1.length ∧ SI t t.length G2 (g + 1) s.2.1 s.2.2) ⟨by simp; omega, hI2⟩ (fun s h => Nat.le_trans h.1 h.2.le) ?_
      rintro ⟨a, md, mk2⟩ X2 ⟨ha, hJ⟩ hX2
      simp only at ha hJ
      show mult_spanning_L2 t g gens _ K _ a md mk2
      unfold mult_spanning_L2
      split
      · rename_i hal
        refine ⟨by omega, by omega, by omega, by omega, ?_⟩
        have hjl := hJ.le
        have e1 : (((a + 1 : Nat) : Int)).toNat = a + 1 := by omega
        have hax := hJ.mi.inn _ (ix_mem (xs := md) (i := (a : Int)) (by omega) (by omega))
        have hac := hJ.mi.clo _ (ix_mem (xs := md) (i := (a : Int)) (by omega) (by omega))
        refine LoopWP.to (a + 1) (fun s : Nat × List Int × List Bool => s.1) (fun s => s.1 ≤ a + 1 ∧ a + 1 ≤ s.2.1.length ∧ SI t t.length G2 (g + 1) s.2.1 s.2.2) ⟨by simp, by simp only; omega, hJ⟩ (fun s h => h.1) ?_
        rintro ⟨b, md3, mk3⟩ X3 ⟨hb, hl3, hL⟩ hX3
        simp only at hb hl3 hL
        show mult_spanning_L3 t a md _ K _ b md3 mk3
        unfold mult_spanning_L3
        have e2 : (((a : Int) + 1)).toNat = a + 1 := by omega
        have htl : (md.take (a + 1)).length = a + 1 := by rw [List.length_take]; omega
        simp only [e2, htl]
        split
        · rename_i hb1
          have e3 : ix (md.take (a + 1)) (b : Int) = ix md (b : Int) := by
            rw [ix_lt (by omega), ix_lt (by omega), List.getElem_take]
          rw [e3]
          have hbx := hJ.mi.inn _ (ix_mem (xs := md) (i := (b : Int)) (by omega) (by omega))
          have hbc := hJ.mi.clo _ (ix_mem (xs := md) (i := (b : Int)) (by omega) (by omega))
          generalize ix md (a : Int) = x at *
          generalize ix md (b : Int) = y at *
          have r1 := T.row x hax.1 hax.2
          have r2 := T.row y hbx.1 hbx.2
          have m1 := T.mu hax.1 hax.2 hbx.1 hbx.2
          have m2 := T.mu hbx.1 hbx.2 hax.1 hax.2
          have c1 := Clo.mul hac hbc
          have c2 := Clo.mul hbc hac
          unfold mu at m1 m2 c1 c2
          have l3 := hL.mi.len
          have le3 := hL.le
          refine ⟨by omega, by omega, hax.1, hax.2, hbx.1, by omega, m1.1, by omega, ?_⟩
          split
          · refine ⟨hbx.1, hbx.2, hax.1, by omega, m2.1, by omega, ?_⟩
            split
            · exact ⟨⟨by omega, by omega⟩, hX3 (b + 1, md3, mk3) ⟨by simp only; omega, hl3, hL⟩ rfl⟩
            · rename_i hn
              exact ⟨m2.1, by omega, by simp; omega, ⟨by omega, by omega⟩, hX3 (b + 1, _, _) ⟨by simp only; omega, by simp; omega, hL.add m2.1 m2.2 c2 hn⟩ rfl⟩
          · rename_i hn
            have hL2 := hL.add m1.1 m1.2 c1 hn
            have l4 := hL2.mi.len
            have le4 := hL2.le
            refine ⟨m1.1, by omega, by simp; omega, hbx.1, hbx.2, hax.1, by omega, m2.1, by omega, ?_⟩
            split
            · exact ⟨⟨by omega, by omega⟩, hX3 (b + 1, _, _) ⟨by simp only; omega, by simp; omega, hL2⟩ rfl⟩
            · rename_i hn2
              exact ⟨m2.1, by omega, by simp at le4 ⊢; omega, ⟨by omega, by omega⟩, hX3 (b + 1, _, _) ⟨by simp only; omega, by simp; omega, hL2.add m2.1 m2.2 c2 hn2⟩ rfl⟩
        · exact ⟨⟨by omega, by omega⟩, hX2 (a + 1, md3, mk3) ⟨by simp only; omega, hL⟩ rfl⟩
      · refine hX (a, g + 1, md, _, mk2) ⟨by simp only; omega, ha, ?_, ?_, ?_⟩ rfl
        · simp only [hGe]; omega
        · simp only [hGe]; exact hG2
        · simp only [hGe]; exact hJ
  · exact h gens (inB_mem.2 hG) fun x hx => hI.mi.clo _ (hI.up x (by omega))

/-! ### Validity -/
/-- All triples associate. -/
def AS (t : List (List Int)) : Prop := ∀ x y z : Nat, x < t.length → y < t.length → z < t.length → mu t (mu t x y) z = mu t x (mu t y z)
instance (t : List (List Int)) : Decidable (AS t) := decidable_of_iff ((iota t.length).all fun y => lgB t y) (by
  simp only [List.all_eq_true, mem_iota, lgB_iff]
  constructor
  · intro h x y z hx hy hz; exact h y (by omega) x z hx hz
  · intro h y hy x z hx hz
    obtain ⟨b, rfl⟩ := Int.eq_ofNat_of_zero_le hy.1
    exact h x b z hx (by omega) hz)
theorem AS.all {t : List (List Int)} (h : AS t) {x y z : Int} (hx : 0 ≤ x ∧ x < t.length) (hy : 0 ≤ y ∧ y < t.length) (hz : 0 ≤ z ∧ z < t.length) : mu t (mu t x y) z = mu t x (mu t y z) := by
  obtain ⟨a, rfl⟩ := Int.eq_ofNat_of_zero_le hx.1
  obtain ⟨b, rfl⟩ := Int.eq_ofNat_of_zero_le hy.1
  obtain ⟨c, rfl⟩ := Int.eq_ofNat_of_zero_le hz.1
  exact h a b c (by omega) (by omega) (by omega)
theorem lgB_all {t : List (List Int)} {g : Int} (h : lgB t g = true) {x y : Int} (hx : 0 ≤ x ∧ x < t.length) (hy : 0 ≤ y ∧ y < t.length) : mu t (mu t x g) y = mu t x (mu t g y) := by
  obtain ⟨a, rfl⟩ := Int.eq_ofNat_of_zero_le hx.1
  obtain ⟨b, rfl⟩ := Int.eq_ofNat_of_zero_le hy.1
  exact lgB_iff.1 h a b (by omega) (by omega)
theorem lgB_mu {t : List (List Int)} (T : Tb t t.length) {g k : Int} (hg : 0 ≤ g ∧ g < t.length) (hk : 0 ≤ k ∧ k < t.length) (h1 : lgB t g = true) (h2 : lgB t k = true) : lgB t (mu t g k) = true := by
  refine lgB_iff.2 fun x y hx hy => ?_
  have hx' : 0 ≤ (x : Int) ∧ (x : Int) < t.length := by omega
  have hy' : 0 ≤ (y : Int) ∧ (y : Int) < t.length := by omega
  rw [← lgB_all h1 hx' hk, lgB_all h2 (T.mu hx'.1 hx'.2 hg.1 hg.2) hy', lgB_all h1 hx' (T.mu hk.1 hk.2 hy'.1 hy'.2), ← lgB_all h2 hg hy']
/-- Light's test decides. -/
theorem light {t : List (List Int)} (T : Tb t t.length) {G : List Int} (hG : inB t.length G = true) (hc : ∀ x : Nat, x < t.length → Clo t G x) : G.all (lgB t) = decide (AS t) := by
  have hin := inB_mem.1 hG
  by_cases h : AS t
  · rw [decide_eq_true h, List.all_eq_true]
    exact fun g hg => lgB_iff.2 fun x y hx hy => h.all (by omega) (hin g hg) (by omega)
  · rw [decide_eq_false h, Bool.eq_false_iff]
    intro ha
    rw [List.all_eq_true] at ha
    have key : ∀ x, Clo t G x → lgB t x = true := fun x hx => by
      induction hx with
      | gen hg => exact ha _ hg
      | mul h1 h2 i1 i2 => exact lgB_mu T (h1.in_ T hin) (h2.in_ T hin) i1 i2
    exact h fun x y z hx hy hz => lgB_iff.1 (key y (hc y hy)) x z hx hz
/-- Valid: the right shape, and associative. -/
def VT (t : List (List Int)) : Bool := SH t && decide (AS t)
def vaC (t : List (List Int)) : Int := if SH t = true then (if AS t then 0 else 5) else shC t
theorem vaC0 {t : List (List Int)} : vaC t = 0 ↔ VT t = true := by
  unfold vaC VT
  by_cases h : SH t = true
  · rw [if_pos h, h]
    by_cases h2 : AS t
    · simp [h2]
    · simp [h2]
  · rw [if_neg h]
    have : shC t ≠ 0 := fun hh => h (shC0.1 hh)
    simp [h, this]
theorem VT.sh {t : List (List Int)} (h : VT t = true) : SH t = true := by simp only [VT, Bool.and_eq_true] at h; exact h.1
theorem VT.as {t : List (List Int)} (h : VT t = true) : AS t := by simp only [VT, Bool.and_eq_true, decide_eq_true_eq] at h; exact h.2
theorem mult_Validate_ok {t : List (List Int)} {K : Int → Prop} (h : K (vaC t)) : mult_Validate t K := by
  unfold mult_Validate
  refine mult_shape_ok ?_
  split
  · rename_i h0
    have ht := shC0.1 h0
    rw [vaC, if_pos ht] at h
    refine mult_spanning_ok ht fun G hG hc => mult_associates_ok ht hG ?_
    rw [light (SH.tb ht) hG hc]
    by_cases ha : AS t
    · simpa [ha] using h
    · simpa [ha] using h
  · rename_i h0
    rw [vaC, if_neg (fun hh => h0 (shC0.2 hh))] at h; exact h
theorem validIf_ok {t : List (List Int)} {K : Bool → Prop} (h : K (VT t)) : mult_Validate t fun r => (if r = (0 : Int) then (K true) else (K false)) := by
  refine mult_Validate_ok ?_
  by_cases hv : VT t = true
  · rw [if_pos (vaC0.2 hv)]; rw [hv] at h; exact h
  · rw [if_neg (fun hh => hv (vaC0.1 hh))]; rw [Bool.eq_false_iff.2 hv] at h; exact h
end Sg
namespace Sg
open Go
set_option linter.unusedVariables false
set_option linter.unusedSimpArgs false

/-! ### The least triple that is not associative -/
def bad (t : List (List Int)) (x y z : Nat) : Prop := mu t (mu t x y) z ≠ mu t x (mu t y z)
def Fst (t : List (List Int)) (x y z : Nat) : Prop := x < t.length ∧ y < t.length ∧ z < t.length ∧ bad t x y z ∧ (∀ a b c : Nat, a < x → b < t.length → c < t.length → ¬ bad t a b c) ∧ (∀ b c : Nat, b < y → c < t.length → ¬ bad t x b c) ∧ ∀ c : Nat, c < z → ¬ bad t x y c
def AsR (t : List (List Int)) (x y z f : Int) : Prop := (f = 5 ∧ vaC t = 5 ∧ ∃ a b c : Nat, x = a ∧ y = b ∧ z = c ∧ Fst t a b c) ∨ (f ≠ 5 ∧ f = vaC t ∧ x = 0 ∧ y = 0 ∧ z = 0)
theorem Fst.uniq {t : List (List Int)} {x y z x' y' z' : Nat} (h : Fst t x y z) (k : Fst t x' y' z') : x = x' ∧ y = y' ∧ z = z' := by
  obtain ⟨h1, h2, h3, h4, h5, h6, h7⟩ := h
  obtain ⟨k1, k2, k3, k4, k5, k6, k7⟩ := k
  rcases Nat.lt_trichotomy x x' with hx | hx | hx
  · exact absurd h4 (k5 _ _ _ hx h2 h3)
  · subst hx
    rcases Nat.lt_trichotomy y y' with hy | hy | hy
    · exact absurd h4 (k6 _ _ hy h3)
    · subst hy
      rcases Nat.lt_trichotomy z z' with hz | hz | hz
      · exact absurd h4 (k7 _ hz)
      · exact ⟨rfl, rfl, hz⟩
      · exact absurd k4 (h7 _ hz)
    · exact absurd k4 (h6 _ _ hy k3)
  · exact absurd k4 (h5 _ _ _ hx k2 k3)
theorem AsR.uniq {t : List (List Int)} {x y z f x' y' z' f' : Int} (h : AsR t x y z f) (k : AsR t x' y' z' f') : x = x' ∧ y = y' ∧ z = z' ∧ f = f' := by
  rcases h with ⟨h1, h2, a, b, c, rfl, rfl, rfl, hf⟩ | ⟨h1, h2, rfl, rfl, rfl⟩ <;> rcases k with ⟨k1, k2, a', b', c', rfl, rfl, rfl, kf⟩ | ⟨k1, k2, rfl, rfl, rfl⟩
  · obtain ⟨rfl, rfl, rfl⟩ := hf.uniq kf
    exact ⟨rfl, rfl, rfl, by omega⟩
  · omega
  · omega
  · exact ⟨rfl, rfl, rfl, by omega⟩
theorem AsR.code {t : List (List Int)} {x y z f : Int} (h : AsR t x y z f) : f = vaC t := by
  rcases h with ⟨h1, h2, _⟩ | ⟨h1, h2, _⟩ <;> omega
theorem vaC_sh {t : List (List Int)} (h : vaC t = 5) : SH t = true := by
  unfold vaC at h
  by_cases hs : SH t = true
  · exact hs
  · rw [if_neg hs] at h; unfold shC at h; split at h
    · omega
    · simp at h
theorem vaC5 {t : List (List Int)} (ht : SH t = true) (h : ∃ x y z : Nat, x < t.length ∧ y < t.length ∧ z < t.length ∧ bad t x y z) : vaC t = 5 := by
  obtain ⟨x, y, z, hx, hy, hz, hb⟩ := h
  rw [vaC, if_pos ht, if_neg (fun ha => hb (ha x y z hx hy hz))]
theorem vaC_as {t : List (List Int)} (ht : SH t = true) (h : ∀ x y z : Nat, x < t.length → y < t.length → z < t.length → ¬ bad t x y z) : vaC t = 0 := by
  rw [vaC, if_pos ht, if_pos (show AS t from fun x y z hx hy hz => Classical.not_not.1 (h x y z hx hy hz))]
theorem ref14_Associative_ok {t : List (List Int)} {K : Int → Int → Int → Int → Prop} (h : ∀ x y z f, AsR t x y z f → K x y z f) : ref14_Associative t K := by
  unfold ref14_Associative
  refine ref14_Shape_ok ?_
  split
  · rename_i h0
    have ht := shC0.1 h0
    have T := SH.tb ht
    have n4 := T.n4
    refine fun _ => LoopWP.scan t.length (fun a => ∀ b c : Nat, b < t.length → c < t.length → ¬ bad t a b c) ?_
    intro x X hx hI hX
    show ref14_Associative_L1 t K _ x
    unfold ref14_Associative_L1
    split
    · have hxn : (x : Int) < t.length := by omega
      have r1 := T.row x (by omega) hxn
      refine LoopWP.scan t.length (fun b => ∀ c : Nat, c < t.length → ¬ bad t x b c) ?_
      intro y X2 hy hJ hX2
      show ref14_Associative_L2 t x _ K _ y
      unfold ref14_Associative_L2
      split
      · have hyn : (y : Int) < t.length := by omega
        have r2 := T.row y (by omega) hyn
        have m1 := T.mu (x := x) (y := y) (by omega) hxn (by omega) hyn
        unfold mu at m1
        have r3 := T.row _ m1.1 m1.2
        refine LoopWP.scan t.length (fun c => ¬ bad t x y c) ?_
        intro z X3 hz hL hX3
        show ref14_Associative_L3 t x y _ K _ z
        unfold ref14_Associative_L3
        split
        · have hzn : (z : Int) < t.length := by omega
          have m2 := T.mu (x := y) (y := z) (by omega) hyn (by omega) hzn
          unfold mu at m2
          refine ⟨by omega, by omega, by omega, by omega, m1.1, m1.2, by omega, by omega, by omega, by omega, by omega, by omega, by omega, by omega, m2.1, by omega, ?_⟩
          split
          · rename_i he
            exact hX3 (by omega) fun hb => hb he
          · rename_i he
            have hF : Fst t x y z := ⟨by omega, by omega, by omega, he, fun a b c ha => hI a ha b c, fun b c hb => hJ b hb c, hL⟩
            exact h _ _ _ _ (.inl ⟨rfl, vaC5 ht ⟨x, y, z, by omega, by omega, by omega, he⟩, x, y, z, rfl, rfl, rfl, hF⟩)
        · exact hX2 (by omega) fun c hc => hL c (by omega)
      · exact hX (by omega) fun b c hb hc => hJ b (by omega) c hc
    · have h5 := vaC_as ht fun a b c ha hb hc => hI a (by omega) b c hb hc
      exact h _ _ _ _ (.inr ⟨by omega, h5.symm, rfl, rfl, rfl⟩)
  · rename_i h0
    have hs : ¬ SH t = true := fun hh => h0 (shC0.2 hh)
    have e : vaC t = shC t := by rw [vaC, if_neg hs]
    exact h _ _ _ _ (.inr ⟨fun h5 => hs (vaC_sh (e.trans h5)), e.symm, rfl, rfl, rfl⟩)
theorem ref14_Validate_ok {t : List (List Int)} {K : Int → Prop} (h : K (vaC t)) : ref14_Validate t K := by
  unfold ref14_Validate
  exact ref14_Associative_ok fun x y z f hf => by rw [hf.code]; exact h
theorem ref14_Valid_ok {t : List (List Int)} {K : Bool → Prop} (h : K (VT t)) : ref14_Valid t K := by
  unfold ref14_Valid
  refine ref14_Validate_ok ?_
  by_cases hv : VT t = true
  · rw [if_pos (vaC0.2 hv)]; rw [hv] at h; exact h
  · rw [if_neg (fun hh => hv (vaC0.1 hh))]; rw [Bool.eq_false_iff.2 hv] at h; exact h
/-! ### Identity and zero -/
def isI (t : List (List Int)) (e : Nat) : Prop := ∀ x : Nat, x < t.length → mu t e x = x ∧ mu t x e = x
/-- The first place where p holds, or -1. -/
def FR (n : Nat) (p : Nat → Prop) (r : Int) : Prop := (∃ e : Nat, e < n ∧ r = e ∧ p e ∧ ∀ j : Nat, j < e → ¬ p j) ∨ (r = -1 ∧ ∀ j : Nat, j < n → ¬ p j)
theorem FR.uniq {n : Nat} {p : Nat → Prop} {r r' : Int} (h : FR n p r) (k : FR n p r') : r = r' := by
  rcases h with ⟨e, h1, rfl, h2, h3⟩ | ⟨rfl, h⟩ <;> rcases k with ⟨e', k1, rfl, k2, k3⟩ | ⟨rfl, k⟩
  · rcases Nat.lt_trichotomy e e' with hx | hx | hx
    · exact absurd h2 (k3 _ hx)
    · rw [hx]
    · exact absurd k2 (h3 _ hx)
  · exact absurd h2 (k _ h1)
  · exact absurd k2 (h _ k1)
  · rfl
theorem FR.ex (p : Nat → Prop) (n : Nat) : ∃ r, FR n p r := by
  by_cases h : ∃ e, e < n ∧ p e
  · obtain ⟨e, he, hp⟩ := h
    obtain ⟨m, hm, hme, hmin⟩ := least_of p e hp
    exact ⟨m, .inl ⟨m, by omega, rfl, hm, hmin⟩⟩
  · exact ⟨-1, .inr ⟨rfl, fun j hj hp => h ⟨j, hj, hp⟩⟩⟩
def idR (t : List (List Int)) (r : Int) : Prop := FR t.length (isI t) r
end Sg
namespace Sg
open Go
set_option linter.unusedVariables false
set_option linter.unusedSimpArgs false

/-- The powers of an element: at k the one with the exponent k + 1. -/
def pow (t : List (List Int)) (x : Int) : Nat → Int
  | 0 => x
  | k + 1 => mu t (pow t x k) x
theorem pow_in {t : List (List Int)} {n : Nat} (T : Tb t n) {x : Int} (hx : 0 ≤ x ∧ x < n) : ∀ k, 0 ≤ pow t x k ∧ pow t x k < n
  | 0 => hx
  | k + 1 => T.mu (pow_in T hx k).1 (pow_in T hx k).2 hx.1 hx.2
section
variable {t : List (List Int)} (hv : VT t = true) {x : Int} (hx : 0 ≤ x ∧ x < t.length)
include hv hx
theorem pow_mu (a b : Nat) : mu t (pow t x a) (pow t x b) = pow t x (a + b + 1) := by
  have T := SH.tb (VT.sh hv)
  induction b with
  | zero => rfl
  | succ b ih =>
    show mu t (pow t x a) (mu t (pow t x b) x) = mu t (pow t x (a + b + 1)) x
    rw [← ih, (VT.as hv).all (pow_in T hx a) (pow_in T hx b) hx]
theorem pow_pow (a b : Nat) : pow t (pow t x a) b = pow t x ((a + 1) * (b + 1) - 1) := by
  induction b with
  | zero => simp [pow]
  | succ b ih =>
    show mu t (pow t (pow t x a) b) (pow t x a) = _
    rw [ih, pow_mu hv hx]
    congr 1
    rw [Nat.mul_add (a + 1) (b + 1) 1]
    have : 1 ≤ (a + 1) * (b + 1) := Nat.mul_pos (by omega) (by omega)
    omega
end
/-- The values come again: at m the value of at, none before. -/
structure RP (g : Nat → Int) (a m : Nat) : Prop where
  lt : a < m
  eq : g m = g a
  inj : ∀ i j, i < j → j < m → g i ≠ g j
theorem RP.uniq {g : Nat → Int} {a m a' m' : Nat} (h : RP g a m) (k : RP g a' m') : a = a' ∧ m = m' := by
  have hm : m = m' := by
    rcases Nat.lt_trichotomy m m' with hx | hx | hx
    · exact absurd h.eq.symm (k.inj _ _ h.lt hx)
    · exact hx
    · exact absurd k.eq.symm (h.inj _ _ k.lt hx)
  subst hm
  refine ⟨?_, rfl⟩
  have e := h.eq.symm.trans k.eq
  rcases Nat.lt_trichotomy a a' with hx | hx | hx
  · exact absurd e (h.inj _ _ hx k.lt)
  · exact hx
  · exact absurd e.symm (h.inj _ _ hx h.lt)
theorem inj_le {g : Nat → Int} {n m : Nat} (hg : ∀ k, 0 ≤ g k ∧ g k < (n : Int)) (h : ∀ i j, i < j → j < m → g i ≠ g j) : m ≤ n := by
  rcases Nat.lt_or_ge n m with hlt | hge
  · obtain ⟨a, b, hab, hb, he⟩ := pigeon n g fun k _ => hg k
    exact absurd he (h a b hab (by omega))
  · exact hge
theorem RP.le {g : Nat → Int} {n a m : Nat} (h : RP g a m) (hg : ∀ k, 0 ≤ g k ∧ g k < (n : Int)) : m ≤ n := inj_le hg h.inj
/-- Powers from the index on come again with the period. -/
theorem pow_shift {t : List (List Int)} {x : Int} {a m : Nat} (h : RP (pow t x) a m) : ∀ k, a ≤ k → pow t x (k + (m - a)) = pow t x k := by
  intro k hk
  obtain ⟨d, rfl⟩ := Nat.exists_eq_add_of_le hk
  induction d with
  | zero => rw [Nat.add_zero, show a + (m - a) = m from by have := h.lt; omega]; exact h.eq
  | succ d ih =>
    have := ih (by omega)
    show pow t x (a + (d + 1) + (m - a)) = mu t (pow t x (a + d)) x
    rw [← this]
    show _ = pow t x (a + d + (m - a) + 1)
    congr 1; omega
theorem pow_shift_mul {t : List (List Int)} {x : Int} {a m : Nat} (h : RP (pow t x) a m) (q k : Nat) (hk : a ≤ k) : pow t x (k + q * (m - a)) = pow t x k := by
  induction q with
  | zero => simp
  | succ q ih => rw [Nat.succ_mul, ← Nat.add_assoc, pow_shift h _ (by omega), ih]
/-- What the program and the reference say of a power: index and period, as numbers. -/
def ipR (t : List (List Int)) (x i p : Int) : Prop := ∃ a m : Nat, RP (pow t x) a m ∧ i = (a : Int) + 1 ∧ p = (m : Int) - a
theorem ipR.uniq {t : List (List Int)} {x i p i' p' : Int} (h : ipR t x i p) (k : ipR t x i' p') : i = i' ∧ p = p' := by
  obtain ⟨a, m, h1, rfl, rfl⟩ := h
  obtain ⟨b, l, k1, rfl, rfl⟩ := k
  obtain ⟨rfl, rfl⟩ := h1.uniq k1
  exact ⟨rfl, rfl⟩
/-- The idempotent power. -/
def omR (t : List (List Int)) (x r : Int) : Prop := ∃ j, r = pow t x j ∧ mu t r r = r
theorem omR.uniq {t : List (List Int)} (hv : VT t = true) {x : Int} (hx : 0 ≤ x ∧ x < t.length) {r r' : Int} (h : omR t x r) (k : omR t x r') : r = r' := by
  obtain ⟨a, rfl, ha⟩ := h
  obtain ⟨b, rfl, hb⟩ := k
  have id_pow : ∀ y : Int, mu t y y = y → ∀ c, pow t y c = y := fun y hy c => by
    induction c with
    | zero => rfl
    | succ c ih => show mu t (pow t y c) y = y; rw [ih, hy]
  have e1 := pow_pow hv hx a b
  have e2 := pow_pow hv hx b a
  rw [id_pow _ ha b] at e1
  rw [id_pow _ hb a, Nat.mul_comm] at e2
  rw [e1, e2]
/-- There is one among the powers up to the first that comes again. -/
theorem omR.mul {t : List (List Int)} (hv : VT t = true) {x : Int} (hx : 0 ≤ x ∧ x < t.length) {a m q : Nat} (h : RP (pow t x) a m) (hq : a + 1 ≤ q * (m - a)) : mu t (pow t x (q * (m - a) - 1)) (pow t x (q * (m - a) - 1)) = pow t x (q * (m - a) - 1) := by
  rw [pow_mu hv hx]
  have := pow_shift_mul h q (q * (m - a) - 1) (by omega)
  rw [← this]
  congr 1; omega
end Sg
namespace Sg
open Go
set_option linter.unusedVariables false
set_option linter.unusedSimpArgs false

end Sg
namespace Sg
open Go
set_option linter.unusedVariables false
set_option linter.unusedSimpArgs false

/-- The image of a letter. -/
def lt (im : List Int) (b : UInt8) : Int := ix im ((b.toNat : Int) - 97)
/-- The product of the images of a word that is not empty. -/
def val (t : List (List Int)) (im : List Int) : Str → Int
  | [] => 0
  | b :: w => w.foldl (fun x b => mu t x (lt im b)) (lt im b)
/-- The value of a word, as program and reference have it. -/
def vaR (t : List (List Int)) (im : List Int) (w : Str) (r : Int) : Prop :=
  if 1 ≤ im.length ∧ WV w im.length = true ∧ inB t.length im = true ∧ VT t = true then (if w = [] then idR t r else r = val t im w) else r = -1
theorem vaR.uniq {t : List (List Int)} {im : List Int} {w : Str} {r r' : Int} (h : vaR t im w r) (k : vaR t im w r') : r = r' := by
  unfold vaR at h k
  split at h
  · rename_i hc
    rw [if_pos hc] at k
    split at h
    · rename_i hw; rw [if_pos hw] at k; exact h.uniq k
    · rename_i hw; rw [if_neg hw] at k; rw [h, k]
  · rename_i hc
    rw [if_neg hc] at k; rw [h, k]
end Sg
namespace Sg
open Go
set_option linter.unusedVariables false
set_option linter.unusedSimpArgs false

section
variable {t u : List (List Int)} (T : Tb t t.length) (U : Tb u u.length)
include T U
end
end Sg
namespace Sg
open Go
set_option linter.unusedVariables false
set_option linter.unusedSimpArgs false

theorem iota_succ (k : Nat) : iota (k + 1) = iota k ++ [(k : Int)] := by simp [iota, List.range_succ]
/-- An ascending list of what has a property. -/
def AscOf (p : Int → Prop) (l : List Int) : Prop := l.Pairwise (· < ·) ∧ ∀ x, x ∈ l ↔ p x
theorem AscOf.uniq {p : Int → Prop} {l l' : List Int} (h : AscOf p l) (k : AscOf p l') : l = l' := by
  have key : ∀ l l' : List Int, l.Pairwise (· < ·) → l'.Pairwise (· < ·) → (∀ x, x ∈ l ↔ x ∈ l') → l = l' := by
    intro l
    induction l with
    | nil =>
      intro l' _ _ hm
      cases l' with
      | nil => rfl
      | cons b l' => exact absurd ((hm b).2 (by simp)) (by simp)
    | cons a l ih =>
      intro l' h1 h2 hm
      cases l' with
      | nil => exact absurd ((hm a).1 (by simp)) (by simp)
      | cons b l' =>
        rw [List.pairwise_cons] at h1 h2
        have hab : a = b := by
          have ha := (hm a).1 (by simp)
          have hb := (hm b).2 (by simp)
          rcases List.mem_cons.1 ha with e | ha
          · exact e
          · rcases List.mem_cons.1 hb with e | hb
            · exact e.symm
            · have := h1.1 b hb; have := h2.1 a ha; omega
        subst hab
        rw [ih l' h1.2 h2.2 fun x => ?_]
        constructor
        · intro hx
          rcases List.mem_cons.1 ((hm x).1 (by simp [hx])) with e | hx'
          · have := h1.1 x hx; omega
          · exact hx'
        · intro hx
          rcases List.mem_cons.1 ((hm x).2 (by simp [hx])) with e | hx'
          · have := h2.1 x hx; omega
          · exact hx'
  exact key l l' h.1 k.1 fun x => (h.2 x).trans (k.2 x).symm
theorem AscOf.nodup {p : Int → Prop} {l : List Int} (h : AscOf p l) : l.Nodup := h.1.imp fun hlt => Int.ne_of_lt hlt
theorem AscOf.all {p : Int → Prop} {l : List Int} {n : Nat} (h : AscOf p l) (hp : ∀ x, p x → 0 ≤ x ∧ x < (n : Int)) (hl : l.length = n) {x : Int} (hx : 0 ≤ x ∧ x < (n : Int)) : p x := by
  rw [← h.2]
  refine Classical.byContradiction fun hn => ?_
  have h1 : (x :: l).Nodup := List.nodup_cons.2 ⟨hn, h.nodup⟩
  have := nodup_le h1 (n := n) fun y hy => by
    rcases List.mem_cons.1 hy with e | hy
    · subst e; exact hx
    · exact hp y ((h.2 y).1 hy)
  simp at this; omega
/-- What is marked lies in the closure, and the generators are marked. -/
structure GI (t : List (List Int)) (G : List Int) (b : List Bool) : Prop where
  len : b.length = t.length
  gen : ∀ x ∈ G, ix b x = true
  clo : ∀ x : Int, 0 ≤ x → x < t.length → ix b x = true → Clo t G x
theorem GI.st {t : List (List Int)} {G : List Int} {b : List Bool} (h : GI t G b) (hG : ∀ x ∈ G, 0 ≤ x ∧ x < (t.length : Int)) {x : Int} (h0 : 0 ≤ x) (h1 : x < t.length) (hc : Clo t G x) : GI t G (st b x true) := by
  have hl := h.len
  refine ⟨by simpa using hl, fun y hy => ?_, fun y y0 y1 hy => ?_⟩
  · rw [ix_st _ h0 (by omega) (hG y hy).1]
    split
    · rfl
    · exact h.gen y hy
  · rw [ix_st _ h0 (by omega) y0] at hy
    split at hy
    · rename_i e; subst e; exact hc
    · exact h.clo y y0 y1 hy
end Sg
namespace Sg
open Go
set_option linter.unusedVariables false
set_option linter.unusedSimpArgs false

/-! ### What DeleteFunc keeps -/
/-- Of the first numbers those up to j that are wanted lie ahead, behind j all lie as they did. -/
structure DI (p : Int → Bool) (n i j : Nat) (s : List Int) : Prop where
  len : s.length = n
  ij : i ≤ j
  jn : j ≤ n
  hd : s.take i = (iota j).filter p
  tl : ∀ k : Nat, j ≤ k → k < n → ix s (k : Int) = k
theorem DI.start {p : Int → Bool} {n k : Nat} (hk : k < n) (h : ∀ j : Nat, j < k → p j = true) (hn : p k = false) : DI p n k (k + 1) (iota n) := by
  refine ⟨by simp, by omega, by omega, ?_, fun m _ hm => ix_iota hm⟩
  have e1 : (iota n).take k = iota k := by
    unfold iota; rw [← List.map_take, List.take_range, Nat.min_eq_left (by omega)]
  rw [e1, iota_succ, List.filter_append, List.filter_eq_self.2 fun x hx => ?_]
  · simp [hn]
  · obtain ⟨h0, h1⟩ := mem_iota.1 hx
    obtain ⟨m, rfl⟩ := Int.eq_ofNat_of_zero_le h0
    exact h m (by omega)
theorem DI.drop {p : Int → Bool} {n i j : Nat} {s : List Int} (h : DI p n i j s) (hj : j < n) (hp : p j = false) : DI p n i (j + 1) s :=
  ⟨h.len, by have := h.ij; omega, by omega, by rw [h.hd, iota_succ, List.filter_append]; simp [hp], fun k hk hkn => h.tl k (by omega) hkn⟩
theorem DI.keep {p : Int → Bool} {n i j : Nat} {s : List Int} (h : DI p n i j s) (hj : j < n) (hp : p j = true) : DI p n (i + 1) (j + 1) (st s (i : Int) (ix s (j : Int))) := by
  have hij := h.ij
  have hl := h.len
  refine ⟨by simpa using hl, by omega, by omega, ?_, fun k hk hkn => ?_⟩
  · rw [h.tl j (Nat.le_refl _) hj, iota_succ, List.filter_append, ← h.hd]
    simp only [st, Int.toNat_natCast]
    rw [List.take_set, List.take_succ_eq_append_getElem (by omega), List.set_append_right _ _ (by simp; omega)]
    have h5 : i - min i s.length = 0 := by omega
    simp [hp, h5]
  · rw [ix_st _ (by omega) (by omega) (by omega), if_neg (by omega)]
    exact h.tl k (by omega) hkn
theorem DI.fin {p : Int → Bool} {n i : Nat} {s : List Int} (h : DI p n i n s) (q : List Int) : (s.take i ++ q).take i = (iota n).filter p := by
  have := h.ij
  have := h.len
  rw [List.take_append_of_le_length (by simp; omega), List.take_take, Nat.min_self, h.hd]
end Sg
namespace Sg
open Go
set_option linter.unusedVariables false
set_option linter.unusedSimpArgs false

/-! ### The center -/
/-! ### Products -/
/-- Is it a product of two elements? -/
def prB (t : List (List Int)) (z : Int) : Prop := ∃ x y : Nat, x < t.length ∧ y < t.length ∧ mu t x y = z
open Classical in
noncomputable def indF (t : List (List Int)) : List Int := (iota t.length).filter fun z => decide (¬ prB t z)
end Sg
namespace Sg
open Go
set_option linter.unusedVariables false
set_option linter.unusedSimpArgs false

/-- A list that is closed under its generators. -/
structure CL (t : List (List Int)) (n : Nat) (G L : List Int) (mk : List Bool) : Prop where
  mi : MI t n G L mk
  gen : ∀ h ∈ G, h ∈ L
  rt : ∀ x ∈ L, ∀ h ∈ G, mu t x h ∈ L
theorem CL.all {t : List (List Int)} (hv : VT t = true) {G L : List Int} {mk : List Bool} (h : CL t t.length G L mk) (x : Int) : x ∈ L ↔ Clo t G x := by
  have T := SH.tb (VT.sh hv)
  have hG : ∀ y ∈ G, 0 ≤ y ∧ y < (t.length : Int) := fun y hy => h.mi.inn y (h.gen y hy)
  refine ⟨h.mi.clo x, fun hx => ?_⟩
  have mulr : ∀ z, Clo t G z → ∀ y ∈ L, mu t y z ∈ L := fun z hz => by
    induction hz with
    | gen hg => exact fun y hy => h.rt y hy _ hg
    | mul h1 h2 i1 i2 =>
      intro y hy
      rw [← (VT.as hv).all (h.mi.inn y hy) (h1.in_ T hG) (h2.in_ T hG)]
      exact i2 _ (i1 y hy)
  induction hx with
  | gen hg => exact h.gen _ hg
  | mul h1 h2 i1 i2 => exact mulr _ h2 _ i1
/-- A generator is being added: what the list holds when i elements are done. -/
structure GS (t : List (List Int)) (n : Nat) (G : List Int) (g : Int) (L0 : List Int) (i : Nat) (L : List Int) (mk : List Bool) : Prop where
  mi : MI t n (G ++ [g]) L mk
  pre : ∃ r, L = L0 ++ g :: r
  le : i ≤ L.length
  old : ∀ a : Nat, a < i → a < L0.length → mu t (ix L a) g ∈ L
  new : ∀ a : Nat, a < i → L0.length ≤ a → ∀ h ∈ G ++ [g], mu t (ix L a) h ∈ L
theorem GS.start {t : List (List Int)} {n : Nat} {G : List Int} {g : Int} {L0 : List Int} {mk : List Bool} (h : CL t n G L0 mk) (h0 : 0 ≤ g) (h1 : g < n) (hg : ¬ ix mk g = true) : GS t n G g L0 0 (L0 ++ [g]) (st mk g true) :=
  ⟨(h.mi.mono fun x hx => List.mem_append_left _ hx).add h0 h1 (.gen (by simp)) hg, ⟨[], rfl⟩, Nat.zero_le _, fun a ha => absurd ha (Nat.not_lt_zero _), fun a ha => absurd ha (Nat.not_lt_zero _)⟩
theorem ix_app {α : Type} [Inhabited α] {L r : List α} {a : Nat} (h : a < L.length) : ix (L ++ r) (a : Int) = ix L (a : Int) := by
  rw [ix_lt (by simp; omega), ix_lt h, List.getElem_append_left]
theorem GS.fin {t : List (List Int)} {n : Nat} {G : List Int} {g : Int} {L0 L : List Int} {mk0 mk : List Bool} (h0 : CL t n G L0 mk0) (h : GS t n G g L0 L.length L mk) : CL t n (G ++ [g]) L mk := by
  obtain ⟨r, hr⟩ := h.pre
  have sub : ∀ x ∈ L0, x ∈ L := fun x hx => by rw [hr]; simp [hx]
  refine ⟨h.mi, fun y hy => ?_, fun x hx y hy => ?_⟩
  · rcases List.mem_append.1 hy with hy | hy
    · exact sub y (h0.gen y hy)
    · rw [List.mem_singleton] at hy; subst hy; rw [hr]; simp
  · obtain ⟨a, ha, rfl⟩ := mem_ix.1 hx
    by_cases hal : a < L0.length
    · rcases List.mem_append.1 hy with hy | hy
      · have e1 : ix L (a : Int) = ix L0 (a : Int) := by rw [hr]; exact ix_app hal
        rw [e1]
        exact sub _ (h0.rt _ (ix_mem (by omega) (by omega)) y hy)
      · rw [List.mem_singleton] at hy; subst hy; exact h.old a ha hal
    · exact h.new a ha (by omega) y hy
theorem GS.grow {t : List (List Int)} {n : Nat} {G : List Int} {g : Int} {L0 : List Int} {i : Nat} {L : List Int} {mk : List Bool} (h : GS t n G g L0 i L mk) {x : Int} (x0 : 0 ≤ x) (x1 : x < n) (hc : Clo t (G ++ [g]) x) (hx : ¬ ix mk x = true) : GS t n G g L0 i (L ++ [x]) (st mk x true) := by
  obtain ⟨r, hr⟩ := h.pre
  have hle := h.le
  refine ⟨h.mi.add x0 x1 hc hx, ⟨r ++ [x], by rw [hr]; simp⟩, by simp; omega, fun a ha hal => ?_, fun a ha hal y hy => ?_⟩
  · rw [ix_app (by omega)]; exact List.mem_append_left _ (h.old a ha hal)
  · rw [ix_app (by omega)]; exact List.mem_append_left _ (h.new a ha hal y hy)
theorem GS.mem {t : List (List Int)} {n : Nat} {G : List Int} {g : Int} {L0 : List Int} {i : Nat} {L : List Int} {mk : List Bool} (h : GS t n G g L0 i L mk) {x : Int} (x0 : 0 ≤ x) (x1 : x < n) (hx : ix mk x = true) : x ∈ L := by
  obtain ⟨m, rfl⟩ := Int.eq_ofNat_of_zero_le x0
  exact (h.mi.mkd m (by omega)).1 hx
open Classical in
/-- The greedy choice. -/
noncomputable def gre (t : List (List Int)) : Nat → List Int
  | 0 => []
  | k + 1 => if Clo t (gre t k) k then gre t k else gre t k ++ [(k : Int)]
end Sg
namespace Sg
open Go
set_option linter.unusedVariables false
set_option linter.unusedSimpArgs false

def oRow (t : List (List Int)) (x : Nat) : List Int := t.map fun row => ix row (x : Int)
def opp (t : List (List Int)) : List (List Int) := (List.range t.length).map (oRow t)
@[simp] theorem oRow_len {t : List (List Int)} {x : Nat} : (oRow t x).length = t.length := by simp [oRow]
@[simp] theorem opp_len {t : List (List Int)} : (opp t).length = t.length := by simp [opp]
/-! ### A new identity -/
def aRows (t : List (List Int)) (k : Nat) : List (List Int) := (List.range k).map fun (x : Nat) => ix t (x : Int) ++ [(x : Int)]
def adj (t : List (List Int)) : List (List Int) := aRows t t.length ++ [iota t.length ++ [(t.length : Int)]]
@[simp] theorem aRows_len {t : List (List Int)} (k : Nat) : (aRows t k).length = k := by simp [aRows]
@[simp] theorem adj_len {t : List (List Int)} : (adj t).length = t.length + 1 := by simp [adj]
end Sg
namespace Sg
open Go
set_option linter.unusedVariables false
set_option linter.unusedSimpArgs false

/-! ### The opposite -/
/-! ### The adjoined identity -/
/-! ### Products -/
section
variable {t u : List (List Int)} (T : Tb t t.length) (U : Tb u u.length)
include T U
end
end Sg
namespace Sg
open Go
set_option linter.unusedVariables false
set_option linter.unusedSimpArgs false

end Sg
namespace Sg
open Go
set_option linter.unusedVariables false
set_option linter.unusedSimpArgs false

/-- Where x lies among the first k of the set; -1: nowhere. -/
def posR (s : List Int) : Nat → Int → Int
  | 0, _ => -1
  | k + 1, x => if x = ix s (k : Int) then (k : Int) else posR s k x
def subRow (t : List (List Int)) (s : List Int) (i : Int) : List Int := (iota s.length).map fun j => posR s s.length (mu t (ix s i) (ix s j))
def subTab (t : List (List Int)) (s : List Int) : List (List Int) := (iota s.length).map (subRow t s)
@[simp] theorem subRow_len {t : List (List Int)} {s : List Int} {i : Int} : (subRow t s i).length = s.length := by simp [subRow]
@[simp] theorem subTab_len {t : List (List Int)} {s : List Int} : (subTab t s).length = s.length := by simp [subTab]
/-- Closed up to row k. -/
def subCl (t : List (List Int)) (s : List Int) : Prop := ∀ i j : Nat, i < s.length → j < s.length → 0 ≤ posR s s.length (mu t (ix s (i : Int)) (ix s (j : Int)))
def ascP (s : List Int) : Prop := ∀ q : Nat, q + 1 < s.length → ix s (q : Int) < ix s ((q + 1 : Nat) : Int)
def subOk (t : List (List Int)) (s : List Int) : Prop := 0 < s.length ∧ inB t.length s = true ∧ ascP s
open Classical in
noncomputable def subE (t : List (List Int)) (s : List Int) : Int := if VT t = true then (if subOk t s then (if subCl t s then 0 else 9) else 1) else vaC t
open Classical in
noncomputable def subT (t : List (List Int)) (s : List Int) : List (List Int) := if VT t = true ∧ subOk t s ∧ subCl t s then subTab t s else []
end Sg
namespace Sg
open Go
set_option linter.unusedVariables false
set_option linter.unusedSimpArgs false

/-- Every smaller number came before. -/
def CanP (p : List Int) : Prop := ∀ k : Nat, k < p.length → 0 ≤ ix p (k : Int) ∧ ∀ v : Int, 0 ≤ v → v < ix p (k : Int) → ∃ j : Nat, j < k ∧ ix p (j : Int) = v
/-- p is the partition of the places of l into equal elements. -/
structure IsCan {κ : Type} [Inhabited κ] (p : List Int) (l : List κ) : Prop where
  len : p.length = l.length
  can : CanP p
  ker : ∀ i j : Nat, i < l.length → j < l.length → (ix p (i : Int) = ix p (j : Int) ↔ ix l (i : Int) = ix l (j : Int))
theorem IsCan.uniq {κ κ' : Type} [Inhabited κ] [Inhabited κ'] {p q : List Int} {l : List κ} {m : List κ'} (hp : IsCan p l) (hq : IsCan q m) (hl : l.length = m.length)
    (hk : ∀ i j : Nat, i < l.length → j < l.length → (ix l (i : Int) = ix l (j : Int) ↔ ix m (i : Int) = ix m (j : Int))) : p = q := by
  refine list_ix (by rw [hp.len, hq.len, hl]) fun k hkl => ?_
  have hkl' : k < l.length := by rw [← hp.len]; exact hkl
  clear hkl
  induction k using Nat.strongRecOn with
  | _ k ih =>
    have ihk : ∀ j : Nat, j < k → ix p (j : Int) = ix q (j : Int) := fun j hj => ih j hj (by omega)
    obtain ⟨p0, p1⟩ := hp.can k (by rw [hp.len]; exact hkl')
    obtain ⟨q0, q1⟩ := hq.can k (by rw [hq.len]; omega)
    have step : ∀ j : Nat, j < k → (ix p (j : Int) = ix p (k : Int) ↔ ix q (j : Int) = ix q (k : Int)) := fun j hj => by
      rw [hp.ker j k (by omega) hkl', hk j k (by omega) hkl', hq.ker j k (by omega) (by omega)]
    rcases Int.lt_trichotomy (ix p (k : Int)) (ix q (k : Int)) with h | h | h
    · obtain ⟨j, hj, he⟩ := q1 _ p0 h
      have h1 := (step j hj).1 (by rw [ihk j hj]; exact he)
      omega
    · exact h
    · obtain ⟨j, hj, he⟩ := p1 _ q0 h
      have h1 := (step j hj).2 (by rw [← ihk j hj]; exact he)
      omega
theorem IsCan.self {p : List Int} (h : CanP p) : IsCan p p := ⟨rfl, h, fun _ _ _ _ => Iff.rfl⟩
/-- What the loop keeps: the numbers given so far. -/
structure CN {κ : Type} [Inhabited κ] [DecidableEq κ] (l : List κ) (k : Nat) (m : List (κ × Int)) (p : List Int) : Prop where
  len : p.length = l.length
  has : ∀ x, mhas m x = true ↔ ∃ j : Nat, j < k ∧ ix l (j : Int) = x
  at_ : ∀ j : Nat, j < k → ix p (j : Int) = mgt m (ix l (j : Int))
  lo : ∀ j : Nat, j < k → 0 ≤ ix p (j : Int) ∧ ix p (j : Int) < (m.length : Int)
  inj : ∀ i j : Nat, i < k → j < k → ix p (i : Int) = ix p (j : Int) → ix l (i : Int) = ix l (j : Int)
  all : ∀ v : Int, 0 ≤ v → v < (m.length : Int) → ∃ j : Nat, j < k ∧ ix p (j : Int) = v
  can : ∀ q : Nat, q < k → ∀ v : Int, 0 ≤ v → v < ix p (q : Int) → ∃ j : Nat, j < q ∧ ix p (j : Int) = v
  le : m.length ≤ k
section
variable {κ : Type} [Inhabited κ] [DecidableEq κ] {l : List κ}
theorem CN.start : CN l 0 ([] : List (κ × Int)) (List.replicate l.length 0) := ⟨by simp, fun x => by simp [mhas], fun j hj => by omega, fun j hj => by omega, fun i j hi => by omega, fun v h0 h1 => by simp at h1; omega, fun q hq => by omega, by simp⟩
theorem CN.fin {m : List (κ × Int)} {p : List Int} (h : CN l l.length m p) : IsCan p l :=
  ⟨h.len, fun k hk => ⟨(h.lo k (by rw [← h.len]; exact hk)).1, h.can k (by rw [← h.len]; exact hk)⟩, fun i j hi hj => ⟨h.inj i j hi hj, fun he => by rw [h.at_ i hi, h.at_ j hj, he]⟩⟩
theorem CN.old {k : Nat} {m : List (κ × Int)} {p : List Int} (h : CN l k m p) (hk : k < l.length) (hx : mhas m (ix l (k : Int)) = true) : CN l (k + 1) m (st p (k : Int) (mgt m (ix l (k : Int)))) := by
  obtain ⟨i, hi, he⟩ := (h.has _).1 hx
  have e : ∀ j : Nat, ix (st p (k : Int) (mgt m (ix l (k : Int)))) (j : Int) = if j = k then mgt m (ix l (k : Int)) else ix p (j : Int) := fun j => by
    rw [ix_st _ (by omega) (by rw [h.len]; omega) (by omega)]
    by_cases hj : j = k
    · rw [if_pos (by omega), if_pos hj]
    · rw [if_neg (by omega), if_neg hj]
  have hi' : mgt m (ix l (k : Int)) = ix p (i : Int) := by rw [h.at_ i hi, he]
  refine ⟨by simpa using h.len, fun x => ?_, fun j hj => ?_, fun j hj => ?_, fun a b ha hb hab => ?_, fun v h0 h1 => ?_, fun q hq v h0 h1 => ?_, by have := h.le; omega⟩
  · rw [h.has]
    constructor
    · rintro ⟨j, hj, hh⟩; exact ⟨j, by omega, hh⟩
    · rintro ⟨j, hj, hh⟩
      by_cases hjk : j = k
      · subst hjk; exact ⟨i, hi, he.trans hh⟩
      · exact ⟨j, by omega, hh⟩
  · rw [e]
    by_cases hjk : j = k
    · rw [if_pos hjk, hjk]
    · rw [if_neg hjk]; exact h.at_ j (by omega)
  · rw [e]
    by_cases hjk : j = k
    · rw [if_pos hjk, hi']; exact h.lo i hi
    · rw [if_neg hjk]; exact h.lo j (by omega)
  · rw [e, e] at hab
    by_cases hak : a = k
    · by_cases hbk : b = k
      · rw [hak, hbk]
      · rw [if_pos hak, if_neg hbk, hi'] at hab
        rw [hak, ← he]; exact h.inj i b hi (by omega) hab
    · by_cases hbk : b = k
      · rw [if_neg hak, if_pos hbk, hi'] at hab
        rw [hbk, ← he]; exact h.inj a i (by omega) hi hab
      · rw [if_neg hak, if_neg hbk] at hab
        exact h.inj a b (by omega) (by omega) hab
  · obtain ⟨j, hj, hv⟩ := h.all v h0 h1
    exact ⟨j, by omega, by rw [e, if_neg (by omega)]; exact hv⟩
  · rw [e] at h1
    by_cases hqk : q = k
    · rw [if_pos hqk, hi'] at h1
      obtain ⟨j, hj, hv⟩ := h.can i hi v h0 h1
      exact ⟨j, by omega, by rw [e, if_neg (by omega)]; exact hv⟩
    · rw [if_neg hqk] at h1
      obtain ⟨j, hj, hv⟩ := h.can q (by omega) v h0 h1
      exact ⟨j, by omega, by rw [e, if_neg (by omega)]; exact hv⟩
theorem CN.new {k : Nat} {m : List (κ × Int)} {p : List Int} (h : CN l k m p) (hk : k < l.length) (hx : ¬ mhas m (ix l (k : Int)) = true) : CN l (k + 1) (mput m (ix l (k : Int)) (m.length : Int)) (st p (k : Int) (m.length : Int)) := by
  have e : ∀ j : Nat, ix (st p (k : Int) (m.length : Int)) (j : Int) = if j = k then (m.length : Int) else ix p (j : Int) := fun j => by
    rw [ix_st _ (by omega) (by rw [h.len]; omega) (by omega)]
    by_cases hj : j = k
    · rw [if_pos (by omega), if_pos hj]
    · rw [if_neg (by omega), if_neg hj]
  have hn : ∀ j : Nat, j < k → ¬ ix l (j : Int) = ix l (k : Int) := fun j hj hh => hx ((h.has _).2 ⟨j, hj, hh⟩)
  have hlen : (mput m (ix l (k : Int)) (m.length : Int)).length = m.length + 1 := by rw [mput_len, if_neg hx]
  refine ⟨by simpa using h.len, fun x => ?_, fun j hj => ?_, fun j hj => ?_, fun a b ha hb hab => ?_, fun v h0 h1 => ?_, fun q hq v h0 h1 => ?_, by have := h.le; omega⟩
  · rw [mhas_put, Bool.or_eq_true, decide_eq_true_eq, h.has]
    constructor
    · rintro (rfl | ⟨j, hj, hh⟩)
      · exact ⟨k, by omega, rfl⟩
      · exact ⟨j, by omega, hh⟩
    · rintro ⟨j, hj, hh⟩
      by_cases hjk : j = k
      · subst hjk; exact .inl hh.symm
      · exact .inr ⟨j, by omega, hh⟩
  · rw [e, mgt_put]
    by_cases hjk : j = k
    · rw [if_pos hjk, hjk, if_pos rfl]
    · rw [if_neg hjk, if_neg (hn j (by omega))]; exact h.at_ j (by omega)
  · rw [e, hlen]
    by_cases hjk : j = k
    · rw [if_pos hjk]; omega
    · rw [if_neg hjk]; have := h.lo j (by omega); omega
  · rw [e, e] at hab
    by_cases hak : a = k
    · by_cases hbk : b = k
      · rw [hak, hbk]
      · rw [if_pos hak, if_neg hbk] at hab
        have := h.lo b (by omega); omega
    · by_cases hbk : b = k
      · rw [if_neg hak, if_pos hbk] at hab
        have := h.lo a (by omega); omega
      · rw [if_neg hak, if_neg hbk] at hab
        exact h.inj a b (by omega) (by omega) hab
  · rw [hlen] at h1
    by_cases hv : v = (m.length : Int)
    · exact ⟨k, by omega, by rw [e, if_pos rfl, hv]⟩
    · obtain ⟨j, hj, hv⟩ := h.all v h0 (by omega)
      exact ⟨j, by omega, by rw [e, if_neg (by omega)]; exact hv⟩
  · rw [e] at h1
    by_cases hqk : q = k
    · rw [if_pos hqk] at h1
      obtain ⟨j, hj, hv⟩ := h.all v h0 h1
      exact ⟨j, by omega, by rw [e, if_neg (by omega)]; exact hv⟩
    · rw [if_neg hqk] at h1
      obtain ⟨j, hj, hv⟩ := h.can q (by omega) v h0 h1
      exact ⟨j, by omega, by rw [e, if_neg (by omega)]; exact hv⟩
end
theorem partition_canonical_int_ok {l : List Int} (hl : l.length ≤ 4096) {K : List Int → Prop} (h : ∀ p, IsCan p l → K p) : partition_canonical_int l K := by
  unfold partition_canonical_int
  refine fun _ => ⟨by omega, by omega, LoopWP.fold l.length (fun k (s : List (Int × Int) × List Int) => CN l k s.1 s.2) CN.start ?_⟩
  rintro k ⟨m, p⟩ X hk hI hX
  show partition_canonical_int_L1 l K _ k m p
  unfold partition_canonical_int_L1
  have hlen : p.length = l.length := hI.len
  split
  · refine ⟨by omega, by omega, ?_⟩
    split
    · rename_i hx
      exact ⟨by omega, by omega, hX _ (by omega) (hI.old (by omega) hx)⟩
    · rename_i hx
      exact ⟨by omega, by omega, hX _ (by omega) (hI.new (by omega) hx)⟩
  · obtain rfl : k = l.length := by omega
    exact h p hI.fin
theorem partition_Canonical_ok {l : List Int} (hl : l.length ≤ 4096) {K : List Int → Prop} (h : ∀ p, IsCan p l → K p) : partition_Canonical l K := by
  unfold partition_Canonical
  intro _
  rw [if_neg (by omega)]
  exact partition_canonical_int_ok hl h
/-- As many classes as there are numbers. -/
def IsCnt (p : List Int) (c : Int) : Prop := 0 ≤ c ∧ ∀ v : Int, (0 ≤ v ∧ v < c) ↔ ∃ j : Nat, j < p.length ∧ ix p (j : Int) = v
theorem cnt_of {p : List Int} (hp : CanP p) {c : Int} (h0 : 0 ≤ c) (hlt : ∀ j : Nat, j < p.length → ix p (j : Int) + 1 ≤ c) (hat : c = 0 ∨ ∃ j : Nat, j < p.length ∧ ix p (j : Int) + 1 = c) : IsCnt p c := by
  refine ⟨h0, fun v => ⟨fun ⟨v0, v1⟩ => ?_, fun ⟨j, hj, he⟩ => ?_⟩⟩
  · rcases hat with rfl | ⟨j, hj, he⟩
    · omega
    · by_cases hv : v = ix p (j : Int)
      · exact ⟨j, hj, hv.symm⟩
      · obtain ⟨i, hi, hh⟩ := (hp j hj).2 v v0 (by omega)
        exact ⟨i, by omega, hh⟩
  · have := hp j hj; have := hlt j hj; omega
theorem IsCnt.uniq {p : List Int} {c d : Int} (h : IsCnt p c) (k : IsCnt p d) : c = d := by
  rcases Int.lt_trichotomy c d with hh | hh | hh
  · have := (h.2 c).2 ((k.2 c).1 ⟨h.1, hh⟩); omega
  · exact hh
  · have := (k.2 d).2 ((h.2 d).1 ⟨k.1, hh⟩); omega
theorem ref03_Count_ok {p : List Int} (hp : CanP p) (hl : p.length ≤ 4096) {K : Int → Prop} (h : ∀ c, IsCnt p c → K c) : ref03_Count p K := by
  unfold ref03_Count
  intro _
  have hle : ∀ k : Nat, k < p.length → ix p (k : Int) ≤ (k : Int) := by
    intro k
    induction k using Nat.strongRecOn with
    | _ k ih =>
      intro hk
      by_cases h0 : ix p (k : Int) ≤ 0
      · omega
      · obtain ⟨j, hj, he⟩ := (hp k hk).2 (ix p (k : Int) - 1) (by omega) (by omega)
        have := ih j hj (by omega); omega
  refine LoopWP.foldR p.length (fun k (c : Int) => 0 ≤ c ∧ (∀ j : Nat, j < k → ix p (j : Int) + 1 ≤ c) ∧ (c = 0 ∨ ∃ j : Nat, j < k ∧ ix p (j : Int) + 1 = c)) 0 (by omega) ⟨by omega, fun j hj => by omega, .inl rfl⟩ ?_
  rintro k c X hk ⟨c0, h1, h2⟩ hX
  show ref03_Count_L1 p K _ c k
  unfold ref03_Count_L1
  split
  · have := hle k (by omega)
    have := hp k (by omega)
    refine ⟨by omega, by omega, ⟨by omega, by omega⟩, ?_⟩
    split
    · refine hX _ (by omega) ⟨by omega, fun j hj => ?_, .inr ⟨k, by omega, rfl⟩⟩
      by_cases hjk : j = k
      · subst hjk; omega
      · have := h1 j (by omega); omega
    · refine hX _ (by omega) ⟨c0, fun j hj => ?_, h2.imp id fun ⟨j, hj, he⟩ => ⟨j, by omega, he⟩⟩
      by_cases hjk : j = k
      · subst hjk; omega
      · exact h1 j (by omega)
  · obtain rfl : k = p.length := by omega
    exact h c (cnt_of hp c0 h1 h2)
end Sg
namespace Sg
open Go
set_option linter.unusedVariables false
set_option linter.unusedSimpArgs false
theorem sh6 {x : Nat} : shrK .i64 (x : Int) 6 = ((x / 64 : Nat) : Int) := by
  unfold shrK
  have e : (2 : Int) ^ (min (6 : Int).toNat IntKind.i64.bits) = 64 := by decide
  rw [e, Int.fdiv_eq_ediv_of_nonneg _ (by omega)]
  omega
theorem and63 {x : Nat} (hx : x < 2 ^ 63) : bits .and .i64 (x : Int) 63 = ((x % 64 : Nat) : Int) := by
  have h := (bits63 (a := x) (b := 63) hx (by decide)).1
  have e : x &&& 63 = x % 64 := Nat.and_two_pow_sub_one_eq_mod x 6
  rw [e] at h
  exact h
theorem shl1 {k : Nat} (hk : k < 64) : shlK .u64 1 (k : Int) = ((1 <<< k : Nat) : Int) := by
  have h : (1 : Nat) < 2 ^ (64 - k) := Nat.one_lt_two_pow (by omega)
  exact shl_u64 (b := 1) h hk
/-- Words of bits for n elements. -/
structure IdW (n : Nat) (s : List Int) : Prop where
  len : s.length = (n + 63) / 64
  rng : ∀ j : Nat, j < s.length → 0 ≤ ix s (j : Int) ∧ ix s (j : Int) < 18446744073709551616
def hasB (s : List Int) (x : Nat) : Bool := ((ix s ((x / 64 : Nat) : Int)).toNat).testBit (x % 64)
theorem IdW.at_ {n : Nat} {s : List Int} (h : IdW n s) {x : Nat} (hx : x < n) : x / 64 < s.length ∧ ∃ m : Nat, m < 2 ^ 64 ∧ ix s ((x / 64 : Nat) : Int) = (m : Int) := by
  have hl : x / 64 < s.length := by have := h.len; omega
  have := h.rng (x / 64) hl
  exact ⟨hl, (ix s ((x / 64 : Nat) : Int)).toNat, by omega, by omega⟩
theorem newIdeal_ok {n : Nat} (hn : n ≤ 400) {K : List Int → Prop} (h : ∀ s, IdW n s → (∀ x, hasB s x = false) → K s) : green_newIdeal (n : Int) K := by
  unfold green_newIdeal
  have e : ((n : Int) + 63).tdiv 64 = (((n + 63) / 64 : Nat) : Int) := by
    rw [Int.tdiv_eq_ediv_of_nonneg (by omega)]; omega
  rw [e]
  refine ⟨⟨by omega, by omega⟩, ⟨by omega, by omega⟩, by omega, by omega, h _ ⟨by simp; omega, fun j hj => ?_⟩ fun x => ?_⟩
  · rw [ix_replicate _ _ (by simpa using hj)]; omega
  · have : ix (List.replicate (((n + 63) / 64 : Nat) : Int).toNat (0 : Int)) ((x / 64 : Nat) : Int) = 0 := by
      simp only [ix, List.getD_eq_getElem?_getD, List.getElem?_replicate]
      split <;> rfl
    unfold hasB
    rw [this]
    simp
theorem has_ok {n : Nat} (hn : n ≤ 400) {s : List Int} (hs : IdW n s) {x : Nat} (hx : x < n) {K : Bool → Prop} (h : K (hasB s x)) : green_ideal_has s (x : Int) K := by
  unfold green_ideal_has
  obtain ⟨hl, m, hm, he⟩ := hs.at_ hx
  rw [sh6, and63 (by omega)]
  refine ⟨by omega, by omega, by omega, ?_⟩
  unfold hasB at h
  rw [he] at h ⊢
  rw [bit_u64 hm (by omega)]
  rw [Int.toNat_natCast] at h
  cases hb : m.testBit (x % 64) with
  | true => rw [hb] at h; rw [if_pos (by decide)]; exact h
  | false => rw [hb] at h; rw [if_neg (by decide)]; exact h
/-- The set with an element more. -/
def addB (s : List Int) (x : Nat) : List Int := st s ((x / 64 : Nat) : Int) (bits .or .u64 (ix s ((x / 64 : Nat) : Int)) ((1 <<< (x % 64) : Nat) : Int))
theorem addB_W {n : Nat} {s : List Int} (h : IdW n s) {x : Nat} (hx : x < n) : IdW n (addB s x) := by
  obtain ⟨hl, m, hm, he⟩ := h.at_ hx
  have h1 : (1 <<< (x % 64) : Nat) < 2 ^ 64 := by rw [Nat.shiftLeft_eq, Nat.one_mul]; exact Nat.pow_lt_pow_right (by omega) (Nat.mod_lt _ (by omega))
  refine ⟨by unfold addB; rw [st_length]; exact h.len, fun j hj => ?_⟩
  unfold addB at hj ⊢
  rw [st_length] at hj
  rw [ix_st _ (by omega) (by omega) (by omega)]
  split
  · rw [he, (bits64 hm h1).2]
    have := Nat.or_lt_two_pow hm h1
    omega
  · exact h.rng j hj
theorem addB_has {n : Nat} {s : List Int} (h : IdW n s) {x : Nat} (hx : x < n) {y : Nat} : hasB (addB s x) y = (hasB s y || decide (y = x)) := by
  obtain ⟨hl, m, hm, he⟩ := h.at_ hx
  have h1 : (1 <<< (x % 64) : Nat) < 2 ^ 64 := by rw [Nat.shiftLeft_eq, Nat.one_mul]; exact Nat.pow_lt_pow_right (by omega) (Nat.mod_lt _ (by omega))
  unfold hasB addB
  rw [ix_st _ (by omega) (by omega) (by omega)]
  by_cases hxy : y / 64 = x / 64
  · rw [if_pos (by omega), hxy, he, (bits64 hm h1).2, Int.toNat_natCast, Int.toNat_natCast, Nat.testBit_or]
    congr 1
    rw [Nat.one_shiftLeft, Nat.testBit_two_pow]
    have e1 := Nat.mod_lt y (y := 64) (by omega)
    have e2 := Nat.div_add_mod y 64
    have e3 := Nat.div_add_mod x 64
    by_cases hm' : x % 64 = y % 64
    · rw [decide_eq_true hm', decide_eq_true (by omega)]
    · rw [decide_eq_false hm', decide_eq_false (by omega)]
  · rw [if_neg (by omega)]
    have : ¬ y = x := fun hh => hxy (by rw [hh])
    simp [this]
theorem uniW {n : Nat} {s u : List Int} (h : IdW n s) (k : IdW n u) {j : Nat} (hj : j < s.length) : 0 ≤ bits .or .u64 (ix s (j : Int)) (ix u (j : Int)) ∧ bits .or .u64 (ix s (j : Int)) (ix u (j : Int)) < 18446744073709551616 ∧
    ∀ b : Nat, ((bits .or .u64 (ix s (j : Int)) (ix u (j : Int))).toNat).testBit b = ((ix s (j : Int)).toNat.testBit b || (ix u (j : Int)).toNat.testBit b) := by
  have h1 := h.rng j hj
  have h2 := k.rng j (by have := h.len; have := k.len; omega)
  obtain ⟨m, hm⟩ := Int.eq_ofNat_of_zero_le h1.1
  obtain ⟨q, hq⟩ := Int.eq_ofNat_of_zero_le h2.1
  have hm1 : m < 2 ^ 64 := by omega
  have hq1 : q < 2 ^ 64 := by omega
  rw [hm, hq]
  have e := (bits64 hm1 hq1).2
  have := Nat.or_lt_two_pow hm1 hq1
  rw [e]
  exact ⟨by omega, by omega, fun b => by rw [Int.toNat_natCast, Int.toNat_natCast, Int.toNat_natCast, Nat.testBit_or]⟩

/-! ### The ideals of all elements -/
/-- r holds for each y the set of x with le x y. -/
structure IdF (n : Nat) (r : List (List Int)) (le : Nat → Nat → Prop) : Prop where
  len : r.length = n
  wd : ∀ y : Nat, y < n → IdW n (ix r (y : Int))
  has : ∀ x y : Nat, x < n → y < n → (hasB (ix r (y : Int)) x = true ↔ le x y)
def leR (t : List (List Int)) (x y : Nat) : Prop := x = y ∨ ∃ s : Nat, s < t.length ∧ mu t (y : Int) (s : Int) = (x : Int)
def leL (t : List (List Int)) (x y : Nat) : Prop := x = y ∨ ∃ s : Nat, s < t.length ∧ mu t (s : Int) (y : Int) = (x : Int)
def leJ (t : List (List Int)) (x y : Nat) : Prop := ∃ z : Nat, z < t.length ∧ leL t z y ∧ leR t x z
/-- What the loops keep: rows below k are done. -/
structure IdK (n k : Nat) (r : List (List Int)) (le : Nat → Nat → Prop) : Prop where
  len : r.length = n
  wd : ∀ y : Nat, y < k → IdW n (ix r (y : Int))
  has : ∀ x y : Nat, x < n → y < k → (hasB (ix r (y : Int)) x = true ↔ le x y)
theorem IdK.put {n k : Nat} {r : List (List Int)} {le : Nat → Nat → Prop} (h : IdK n k r le) (hk : k < n) {s : List Int} (hs : IdW n s) (hh : ∀ x : Nat, x < n → (hasB s x = true ↔ le x k)) : IdK n (k + 1) (st r (k : Int) s) le := by
  have e : ∀ y : Nat, ix (st r (k : Int) s) (y : Int) = if y = k then s else ix r (y : Int) := fun y => by
    rw [ix_st _ (by omega) (by rw [h.len]; omega) (by omega)]
    by_cases hy : y = k
    · rw [if_pos (by omega), if_pos hy]
    · rw [if_neg (by omega), if_neg hy]
  refine ⟨by rw [st_length]; exact h.len, fun y hy => ?_, fun x y hx hy => ?_⟩
  · rw [e]; split
    · exact hs
    · exact h.wd y (by omega)
  · rw [e]; split
    · rename_i hyk; subst hyk; exact hh x hx
    · exact h.has x y hx (by omega)
theorem IdK.fin {n : Nat} {r : List (List Int)} {le : Nat → Nat → Prop} (h : IdK n n r le) : IdF n r le := ⟨h.len, h.wd, fun x y hx hy => h.has x y hx hy⟩
theorem IdK.start {n : Nat} {le : Nat → Nat → Prop} : IdK n 0 (List.replicate n ([] : List Int)) le := ⟨by simp, fun y hy => by omega, fun x y hx hy => by omega⟩
theorem st_st {α : Type} [Inhabited α] {xs : List α} {i : Int} {u v : α} : st (st xs i u) i v = st xs i v := by simp [st]
theorem ix_st_same {α : Type} [Inhabited α] {xs : List α} {k : Nat} {u : α} (h : k < xs.length) : ix (st xs (k : Int) u) (k : Int) = u := by
  rw [ix_st _ (by omega) (by omega) (by omega), if_pos rfl]
theorem rightIdeals_ok {t : List (List Int)} (ht : SH t = true) {K : List (List Int) → Prop} (h : ∀ r, IdF t.length r (leR t) → K r) : green_rightIdeals t K := by
  have T := SH.tb ht
  have n4 := T.n4
  unfold green_rightIdeals
  refine fun _ => ⟨by omega, by omega, LoopWP.fold t.length (fun k (r : List (List Int)) => IdK t.length k r (leR t)) IdK.start ?_⟩
  rintro k r X hk hI hX
  show green_rightIdeals_L1 t K _ k r
  unfold green_rightIdeals_L1
  have hlen := hI.len
  split
  · rename_i hkt
    have hkt' : k < t.length := by omega
    have hrow := T.row (k : Int) (by omega) (by omega)
    refine ⟨by omega, by omega, newIdeal_ok n4 fun s0 hs0 h0 => ?_⟩
    obtain ⟨hl0, _⟩ := hs0.at_ hkt'
    rw [ix_st_same (by omega), sh6, and63 (by omega), shl1 (Nat.mod_lt _ (by omega))]
    refine ⟨by omega, by omega, by omega, by rw [st_length]; omega, by omega, by omega, by omega, by omega, by omega, fun _ => ?_⟩
    refine LoopWP.fold (ix t (k : Int)).length (fun m (q : List (List Int)) => ∃ s, q = st r (k : Int) s ∧ IdW t.length s ∧ ∀ x : Nat, x < t.length → (hasB s x = true ↔ x = k ∨ ∃ j : Nat, j < m ∧ mu t (k : Int) (j : Int) = (x : Int))) ⟨addB s0 k, by rw [st_st]; rfl, addB_W hs0 hkt', fun x hx => ?_⟩ ?_
    · rw [addB_has hs0 hkt', h0]
      simp only [Bool.false_or, decide_eq_true_eq]
      exact ⟨.inl, fun hh => hh.resolve_right fun ⟨j, hj, _⟩ => absurd hj (Nat.not_lt_zero _)⟩
    rintro m q X2 hm ⟨s, rfl, hs, hh⟩ hX2
    show green_rightIdeals_L2 t k _ K _ m _
    unfold green_rightIdeals_L2
    rw [ix_st_same (by omega)]
    split
    · rename_i hmt
      have hml : (m : Int) < t.length := by omega
      have hb := T.mu (x := (k : Int)) (y := (m : Int)) (by omega) (by omega) (by omega) hml
      obtain ⟨z, hz⟩ := Int.eq_ofNat_of_zero_le hb.1
      have hzl : z < t.length := by omega
      have hz' : ix (ix t (k : Int)) (m : Int) = (z : Int) := hz
      obtain ⟨hl1, _⟩ := hs.at_ hzl
      rw [hz', sh6, and63 (by omega), shl1 (Nat.mod_lt _ (by omega))]
      refine ⟨by omega, by omega, by omega, by rw [st_length]; omega, by omega, by omega, by omega, by omega, by omega, hX2 _ (by omega) ⟨addB s z, by rw [st_st]; rfl, addB_W hs hzl, fun x hx => ?_⟩⟩
      rw [addB_has hs hzl, Bool.or_eq_true, hh x hx, decide_eq_true_eq]
      constructor
      · rintro ((h1 | ⟨j, hj, h1⟩) | h1)
        · exact .inl h1
        · exact .inr ⟨j, by omega, h1⟩
        · exact .inr ⟨m, by omega, by rw [h1]; exact hz⟩
      · rintro (h1 | ⟨j, hj, h1⟩)
        · exact .inl (.inl h1)
        · by_cases hjm : j = m
          · subst hjm; right; rw [hz] at h1; omega
          · exact .inl (.inr ⟨j, by omega, h1⟩)
    · rename_i hmt
      obtain rfl : m = (ix t (k : Int)).length := by omega
      refine hX _ hkt' (hI.put hkt' hs fun x hx => ?_)
      rw [hh x hx, hrow]
      rfl
  · obtain rfl : k = t.length := by omega
    exact h r hI.fin
theorem leftIdeals_ok {t : List (List Int)} (ht : SH t = true) {K : List (List Int) → Prop} (h : ∀ r, IdF t.length r (leL t) → K r) : green_leftIdeals t K := by
  have T := SH.tb ht
  have n4 := T.n4
  unfold green_leftIdeals
  refine fun _ => ⟨by omega, by omega, LoopWP.fold t.length (fun k (r : List (List Int)) => IdK t.length k r (leL t)) IdK.start ?_⟩
  rintro k r X hk hI hX
  show green_leftIdeals_L1 t K _ k r
  unfold green_leftIdeals_L1
  have hlen := hI.len
  split
  · rename_i hkt
    have hkt' : k < t.length := by omega
    refine newIdeal_ok n4 fun s0 hs0 h0 => ?_
    obtain ⟨hl0, _⟩ := hs0.at_ hkt'
    rw [ix_st_same (by omega), sh6, and63 (by omega), shl1 (Nat.mod_lt _ (by omega))]
    refine ⟨by omega, by omega, by omega, by rw [st_length]; omega, by omega, by omega, by omega, by omega, by omega, ?_⟩
    refine LoopWP.fold t.length (fun m (q : List (List Int)) => ∃ s, q = st r (k : Int) s ∧ IdW t.length s ∧ ∀ x : Nat, x < t.length → (hasB s x = true ↔ x = k ∨ ∃ j : Nat, j < m ∧ mu t (j : Int) (k : Int) = (x : Int))) ⟨addB s0 k, by rw [st_st]; rfl, addB_W hs0 hkt', fun x hx => ?_⟩ ?_
    · rw [addB_has hs0 hkt', h0]
      simp only [Bool.false_or, decide_eq_true_eq]
      exact ⟨.inl, fun hh => hh.resolve_right fun ⟨j, hj, _⟩ => absurd hj (Nat.not_lt_zero _)⟩
    rintro m q X2 hm ⟨s, rfl, hs, hh⟩ hX2
    show green_leftIdeals_L2 t k _ K _ m _
    unfold green_leftIdeals_L2
    rw [ix_st_same (by omega)]
    split
    · rename_i hmt
      have hml : (m : Int) < t.length := by omega
      have hrow := T.row (m : Int) (by omega) (by omega)
      have hb := T.mu (x := (m : Int)) (y := (k : Int)) (by omega) (by omega) (by omega) (by omega)
      obtain ⟨z, hz⟩ := Int.eq_ofNat_of_zero_le hb.1
      have hzl : z < t.length := by omega
      have hz' : ix (ix t (m : Int)) (k : Int) = (z : Int) := hz
      obtain ⟨hl1, _⟩ := hs.at_ hzl
      rw [hz', sh6, and63 (by omega), shl1 (Nat.mod_lt _ (by omega))]
      refine ⟨by omega, by omega, by omega, by rw [st_length]; omega, by omega, by omega, by omega, by omega, by omega, by omega, by omega, hX2 _ (by omega) ⟨addB s z, by rw [st_st]; rfl, addB_W hs hzl, fun x hx => ?_⟩⟩
      rw [addB_has hs hzl, Bool.or_eq_true, hh x hx, decide_eq_true_eq]
      constructor
      · rintro ((h1 | ⟨j, hj, h1⟩) | h1)
        · exact .inl h1
        · exact .inr ⟨j, by omega, h1⟩
        · exact .inr ⟨m, by omega, by rw [h1]; exact hz⟩
      · rintro (h1 | ⟨j, hj, h1⟩)
        · exact .inl (.inl h1)
        · by_cases hjm : j = m
          · subst hjm; right; rw [hz] at h1; omega
          · exact .inl (.inr ⟨j, by omega, h1⟩)
    · rename_i hmt
      obtain rfl : m = t.length := by omega
      refine hX _ hkt' (hI.put hkt' hs fun x hx => ?_)
      rw [hh x hx]
      rfl
  · obtain rfl : k = t.length := by omega
    exact h r hI.fin
end Sg
namespace Sg
open Go
set_option linter.unusedVariables false
set_option linter.unusedSimpArgs false
theorem twoSided_ok {n : Nat} (n4 : n ≤ 400) {right left : List (List Int)} {eR eL : Nat → Nat → Prop} (hR : IdF n right eR) (hL : IdF n left eL) {K : List (List Int) → Prop} (h : ∀ r, IdF n r (fun x y => ∃ z : Nat, z < n ∧ eL z y ∧ eR x z) → K r) : green_twoSided right left K := by
  have hrl := hR.len
  have hll := hL.len
  unfold green_twoSided
  rw [hrl]
  refine fun _ => ⟨by omega, by omega, LoopWP.fold n (fun k (r : List (List Int)) => IdK n k r (fun x y => ∃ z : Nat, z < n ∧ eL z y ∧ eR x z)) IdK.start ?_⟩
  rintro k r X hk hI hX
  show green_twoSided_L1 right left K _ k r
  unfold green_twoSided_L1
  have hlen := hI.len
  rw [List.length_replicate, hrl]
  split
  · have hkt' : k < n := by omega
    refine newIdeal_ok n4 fun s0 hs0 h0 => ⟨by omega, by omega, ?_⟩
    refine LoopWP.fold n (fun m (q : List (List Int)) => ∃ s, q = st r (k : Int) s ∧ IdW n s ∧ ∀ x : Nat, x < n → (hasB s x = true ↔ ∃ z : Nat, z < m ∧ eL z k ∧ eR x z)) ⟨s0, rfl, hs0, fun x hx => ?_⟩ ?_
    · rw [h0]
      exact ⟨(fun hh => by cases hh), fun ⟨j, hj, _⟩ => absurd hj (Nat.not_lt_zero _)⟩
    rintro m q X2 hm ⟨s, rfl, hs, hh⟩ hX2
    show green_twoSided_L2 right left k _ K _ m _
    unfold green_twoSided_L2
    rw [hrl]
    split
    · have hml : m < n := by omega
      refine ⟨by omega, by omega, has_ok n4 (hL.wd k hkt') hml ?_⟩
      have hq := hL.has m k hml hkt'
      split
      · rename_i hb
        have hu := hR.wd m hml
        refine ⟨by omega, by rw [st_length]; omega, by omega, by omega, ?_⟩
        refine LoopWP.fold s.length (fun w (d : List (List Int)) => ∃ s', d = st r (k : Int) s' ∧ s'.length = s.length ∧ (∀ j : Nat, j < w → ix s' (j : Int) = bits .or .u64 (ix s (j : Int)) (ix (ix right (m : Int)) (j : Int))) ∧ ∀ j : Nat, w ≤ j → ix s' (j : Int) = ix s (j : Int)) ⟨s, rfl, rfl, fun j hj => by omega, fun j hj => rfl⟩ ?_
        rintro w d X3 hw ⟨s', rfl, hl', hlo, hhi⟩ hX3
        show green_twoSided_L3 right k m _ _ K _ w _
        unfold green_twoSided_L3
        rw [ix_st_same (by omega), ix_st_same (by omega)]
        have hsl := hs.len
        have hul := hu.len
        split
        · rename_i hws
          refine ⟨by omega, by omega, by rw [st_length]; omega, by omega, by omega, by omega, by omega, by omega, by rw [st_length]; omega, by omega, ⟨by omega, by omega⟩, hX3 _ (by omega) ⟨_, st_st, by rw [st_length]; exact hl', fun j hj => ?_, fun j hj => ?_⟩⟩
          · rw [ix_st _ (by omega) (by omega) (by omega)]
            by_cases hjw : j = w
            · subst hjw; rw [if_pos rfl, hhi j (Nat.le_refl _)]
            · rw [if_neg (by omega)]; exact hlo j (by omega)
          · rw [ix_st _ (by omega) (by omega) (by omega), if_neg (by omega)]; exact hhi j (by omega)
        · obtain rfl : w = s.length := by omega
          refine hX2 _ (by omega) ⟨s', rfl, ⟨by rw [hl']; exact hs.len, fun j hj => ?_⟩, fun x hx => ?_⟩
          · rw [hlo j (by omega)]
            have := uniW hs hu (j := j) (by omega)
            exact ⟨this.1, this.2.1⟩
          · obtain ⟨hxl, _⟩ := hs.at_ hx
            have e1 : hasB s' x = (hasB s x || hasB (ix right (m : Int)) x) := by
              unfold hasB
              rw [hlo (x / 64) hxl]
              exact (uniW hs hu hxl).2.2 (x % 64)
            rw [e1, Bool.or_eq_true, hh x hx, hR.has x m hx hml]
            constructor
            · rintro (⟨z, hz, h1⟩ | h1)
              · exact ⟨z, by omega, h1⟩
              · exact ⟨m, by omega, hq.1 hb, h1⟩
            · rintro ⟨z, hz, h1, h2⟩
              by_cases hzm : z = m
              · subst hzm; exact .inr h2
              · exact .inl ⟨z, by omega, h1, h2⟩
      · rename_i hb
        refine hX2 _ (by omega) ⟨s, rfl, hs, fun x hx => ?_⟩
        rw [hh x hx]
        constructor
        · rintro ⟨z, hz, h1⟩; exact ⟨z, by omega, h1⟩
        · rintro ⟨z, hz, h1, h2⟩
          by_cases hzm : z = m
          · subst hzm; exact absurd (hq.2 h1) hb
          · exact ⟨z, by omega, h1, h2⟩
    · obtain rfl : m = n := by omega
      exact ⟨⟨by omega, by omega⟩, hX _ hkt' (hI.put hkt' hs hh)⟩
  · obtain rfl : k = n := by omega
    exact h r hI.fin

/-! ### Partitions of points -/
/-- p is the partition of n points into classes of e. -/
structure PartOf (p : List Int) (n : Nat) (e : Nat → Nat → Prop) : Prop where
  len : p.length = n
  can : CanP p
  ker : ∀ i j : Nat, i < n → j < n → (ix p (i : Int) = ix p (j : Int) ↔ e i j)
theorem PartOf.uniq {p q : List Int} {n : Nat} {e e' : Nat → Nat → Prop} (hp : PartOf p n e) (hq : PartOf q n e') (h : ∀ i j : Nat, i < n → j < n → (e i j ↔ e' i j)) : p = q := by
  have h1 := hp.len
  have h2 := hq.len
  exact (IsCan.self hp.can).uniq (IsCan.self hq.can) (by omega) fun i j hi hj => by rw [hp.ker i j (by omega) (by omega), hq.ker i j (by omega) (by omega)]; exact h i j (by omega) (by omega)
theorem IsCan.part {κ : Type} [Inhabited κ] {p : List Int} {l : List κ} {n : Nat} {e : Nat → Nat → Prop} (h : IsCan p l) (hl : l.length = n) (he : ∀ i j : Nat, i < n → j < n → (ix l (i : Int) = ix l (j : Int) ↔ e i j)) : PartOf p n e :=
  ⟨h.len.trans hl, h.can, fun i j hi hj => (h.ker i j (by omega) (by omega)).trans (he i j hi hj)⟩
theorem CanP.le {p : List Int} (hp : CanP p) : ∀ k : Nat, k < p.length → ix p (k : Int) ≤ (k : Int) := by
  intro k
  induction k using Nat.strongRecOn with
  | _ k ih =>
    intro hk
    by_cases h0 : ix p (k : Int) ≤ 0
    · omega
    · obtain ⟨j, hj, he⟩ := (hp k hk).2 (ix p (k : Int) - 1) (by omega) (by omega)
      have := ih j hj (by omega); omega
/-- The least point of the class. -/
structure Lst (e : Nat → Nat → Prop) (l : List Int) (k : Nat) : Prop where
  at_ : ∀ j : Nat, j < k → ∃ m : Nat, m ≤ j ∧ ix l (j : Int) = (m : Int) ∧ e m j ∧ ∀ i : Nat, i < m → ¬ e i j
theorem Lst.ker {e : Nat → Nat → Prop} {l : List Int} {n : Nat} (h : Lst e l n) (hs : ∀ i j : Nat, i < n → j < n → e i j → e j i) (ht : ∀ i j k : Nat, i < n → j < n → k < n → e i j → e j k → e i k) (i j : Nat) (hi : i < n) (hj : j < n) : ix l (i : Int) = ix l (j : Int) ↔ e i j := by
  obtain ⟨a, ha, ea, fa, ga⟩ := h.at_ i hi
  obtain ⟨b, hb, eb, fb, gb⟩ := h.at_ j hj
  rw [ea, eb]
  constructor
  · intro hab
    obtain rfl : a = b := by omega
    exact ht i a j hi (by omega) hj (hs a i (by omega) hi fa) fb
  · intro hij
    rcases Nat.lt_trichotomy a b with hab | hab | hab
    · exact absurd (ht a i j (by omega) hi hj fa hij) (gb a hab)
    · rw [hab]
    · exact absurd (ht b j i (by omega) hj hi fb (hs i j hi hj hij)) (ga b hab)
theorem Lst.put {e : Nat → Nat → Prop} {l : List Int} {n k m : Nat} (h : Lst e l k) (hl : l.length = n) (hk : k < n) (hm : m ≤ k) (he : e m k) (hn : ∀ i : Nat, i < m → ¬ e i k) : Lst e (st l (k : Int) (m : Int)) (k + 1) := by
  refine ⟨fun j hj => ?_⟩
  rw [ix_st _ (by omega) (by omega) (by omega)]
  by_cases hjk : j = k
  · subst hjk; rw [if_pos rfl]; exact ⟨m, hm, rfl, he, hn⟩
  · rw [if_neg (by omega)]; exact h.at_ j (by omega)
theorem green_mutual_ok {n : Nat} (n4 : n ≤ 400) {r : List (List Int)} {le : Nat → Nat → Prop} (hr : IdF n r le) (hrf : ∀ i : Nat, i < n → le i i) (htr : ∀ i j k : Nat, i < n → j < n → k < n → le i j → le j k → le i k)
    {K : List Int → Prop} (h : ∀ p, PartOf p n (fun i j => le i j ∧ le j i) → K p) : green_mutual r K := by
  have hrl := hr.len
  unfold green_mutual
  rw [hrl]
  refine fun _ => ⟨by omega, by omega, LoopWP.fold n (fun k (c : List Int) => c.length = n ∧ Lst (fun i j => le i j ∧ le j i) c k) ⟨by simp, ⟨fun j hj => by omega⟩⟩ ?_⟩
  rintro k c X hk ⟨hl, hI⟩ hX
  show green_mutual_L1 r K _ k c
  unfold green_mutual_L1
  rw [hrl]
  split
  · have hkn : k < n := by omega
    refine ⟨by omega, by omega, ?_⟩
    refine LoopWP.scan k (fun y => ¬ (le y k ∧ le k y)) ?_
    rintro y X2 hy hno hX2
    show green_mutual_L2 r k c _ K X2 y
    unfold green_mutual_L2
    rw [hrl]
    split
    · refine ⟨by omega, by omega, has_ok n4 (hr.wd k hkn) (by omega) ?_⟩
      have h1 := hr.has y k (by omega) hkn
      have h2 := hr.has k y hkn (by omega)
      split
      · rename_i hb
        refine ⟨by omega, by omega, has_ok n4 (hr.wd y (by omega)) hkn ?_⟩
        split
        · rename_i hb2
          refine ⟨by omega, by rw [st_length]; omega, hX _ hkn ⟨by rw [st_length, st_length]; exact hl, ?_⟩⟩
          rw [st_st]
          exact hI.put hl hkn hy ⟨h1.1 hb, h2.1 hb2⟩ hno
        · rename_i hb2
          exact ⟨⟨by omega, by omega⟩, hX2 (by omega) fun hh => hb2 (h2.2 hh.2)⟩
      · rename_i hb
        exact ⟨⟨by omega, by omega⟩, hX2 (by omega) fun hh => hb (h1.2 hh.1)⟩
    · obtain rfl : y = k := by omega
      exact hX _ hkn ⟨by rw [st_length]; exact hl, hI.put hl hkn (Nat.le_refl _) ⟨hrf y hkn, hrf y hkn⟩ hno⟩
  · obtain rfl : k = n := by omega
    exact partition_Canonical_ok (by omega) fun p hp => h p (hp.part hl fun i j hi hj => hI.ker (fun i j _ _ hh => ⟨hh.2, hh.1⟩) (fun i j k hi hj hk a b => ⟨htr i j k hi hj hk a.1 b.1, htr k j i hk hj hi b.2 a.2⟩) i j hi hj)
end Sg
namespace Sg
open Go
set_option linter.unusedVariables false
set_option linter.unusedSimpArgs false
theorem partition_Valid_ok {p : List Int} (hp : CanP p) (hl : p.length ≤ 4096) {K : Bool → Prop} (h : K true) : partition_Valid p K := by
  unfold partition_Valid
  intro _
  rw [if_neg (by omega)]
  refine LoopWP.foldR p.length (fun k (c : Nat) => c ≤ k ∧ ∀ v : Int, (0 ≤ v ∧ v < (c : Int)) ↔ ∃ j : Nat, j < k ∧ ix p (j : Int) = v) 0 (by omega) ⟨by omega, fun v => ⟨fun hh => by omega, fun ⟨j, hj, _⟩ => absurd hj (Nat.not_lt_zero _)⟩⟩ ?_
  rintro k c X hk ⟨hck, hI⟩ hX
  show partition_Valid_L1 p K _ c k
  unfold partition_Valid_L1
  split
  · have hkp : k < p.length := by omega
    obtain ⟨p0, p1⟩ := hp k hkp
    have hle : ix p (k : Int) ≤ (c : Int) := by
      by_cases hlt : (c : Int) < ix p (k : Int)
      · have := (hI (c : Int)).2 (p1 _ (by omega) hlt); omega
      · omega
    refine ⟨by omega, by omega, ?_⟩
    rw [if_neg (by omega), if_neg (by omega)]
    split
    · rename_i he
      refine ⟨⟨by omega, by omega⟩, hX _ hkp ⟨by omega, fun v => ?_⟩⟩
      constructor
      · intro hv
        by_cases hvc : v = (c : Int)
        · exact ⟨k, by omega, by rw [he, hvc]⟩
        · obtain ⟨j, hj, hh⟩ := (hI v).1 (by omega); exact ⟨j, by omega, hh⟩
      · rintro ⟨j, hj, hh⟩
        by_cases hjk : j = k
        · subst hjk; omega
        · have := (hI v).2 ⟨j, by omega, hh⟩; omega
    · rename_i he
      refine hX _ hkp ⟨by omega, fun v => ?_⟩
      rw [hI v]
      constructor
      · rintro ⟨j, hj, hh⟩; exact ⟨j, by omega, hh⟩
      · rintro ⟨j, hj, hh⟩
        by_cases hjk : j = k
        · subst hjk
          exact (hI v).1 (by omega)
        · exact ⟨j, by omega, hh⟩
  · exact h
theorem partition_Count_ok {p : List Int} (hp : CanP p) (hl : p.length ≤ 4096) {K : Int → Prop} (h : ∀ c, IsCnt p c → K c) : partition_Count p K := by
  unfold partition_Count
  refine partition_Valid_ok hp hl ?_
  rw [if_pos rfl]
  exact ref03_Count_ok hp hl h
/-- The classes as lists. -/
def clsF (p : List Int) (c : Nat) : List (List Int) := (iota c).map fun v => (iota p.length).filter fun i => decide (ix p i = v)
theorem clsF_len {p : List Int} {c : Nat} : (clsF p c).length = c := by simp [clsF]
theorem ix_clsF {p : List Int} {c v : Nat} (h : v < c) : ix (clsF p c) (v : Int) = (iota p.length).filter fun i => decide (ix p i = (v : Int)) := by
  unfold clsF
  rw [ix_map _ (by omega) (by simpa using h), ix_iota h]
theorem cnt_le {p : List Int} (hp : CanP p) {c : Int} (hc : IsCnt p c) : c ≤ (p.length : Int) := by
  by_cases h : (p.length : Int) < c
  · obtain ⟨j, hj, he⟩ := (hc.2 (c - 1)).1 ⟨by omega, by omega⟩
    have := hp.le j hj; omega
  · omega
theorem ref03_Classes_ok {p : List Int} (hp : CanP p) (hl : p.length ≤ 400) {K : List (List Int) → Prop} (h : ∀ c : Nat, IsCnt p c → K (clsF p c)) : ref03_Classes p K := by
  unfold ref03_Classes
  refine ref03_Count_ok hp (by omega) fun c hc => ?_
  have hcl := cnt_le hp hc
  obtain ⟨c, rfl⟩ := Int.eq_ofNat_of_zero_le hc.1
  refine ⟨by omega, by omega, fun _ => LoopWP.fold p.length (fun k (r : List (List Int)) => r.length = c ∧ ∀ v : Nat, v < c → ix r (v : Int) = (iota k).filter fun i => decide (ix p i = (v : Int))) ⟨by simp, fun v hv => ?_⟩ ?_⟩
  · rw [ix_replicate _ _ (by simpa using hv)]; rfl
  rintro k r X hk ⟨hr, hI⟩ hX
  show ref03_Classes_L1 p K _ k r
  unfold ref03_Classes_L1
  split
  · have hkp : k < p.length := by omega
    have hv := (hc.2 (ix p (k : Int))).2 ⟨k, hkp, rfl⟩
    obtain ⟨v, hv'⟩ := Int.eq_ofNat_of_zero_le hv.1
    rw [hv'] at hv ⊢
    have hvc : v < c := by omega
    refine ⟨by omega, by omega, by omega, by omega, ?_, by omega, by omega, hX _ hkp ⟨by rw [st_length]; exact hr, fun u hu => ?_⟩⟩
    · rw [hI v hvc]
      have := List.length_filter_le (fun i => decide (ix p i = (v : Int))) (iota k); simp at this ⊢; omega
    · rw [ix_st _ (by omega) (by omega) (by omega), iota_succ, List.filter_append]
      by_cases huv : u = v
      · subst huv
        rw [if_pos rfl, hI u hvc]
        simp [hv']
      · rw [if_neg (by omega), hI u hu]
        have : ¬ (v : Int) = (u : Int) := by omega
        simp [hv', this]
  · obtain rfl : k = p.length := by omega
    have : r = clsF p c := by
      refine list_ix (by rw [clsF_len, hr]) fun j hj => ?_
      rw [ix_clsF (by omega)]; exact hI j (by omega)
    rw [this]
    exact h c hc
theorem partition_Classes_ok {p : List Int} (hp : CanP p) (hl : p.length ≤ 400) {K : List (List Int) → Prop} (h : ∀ c : Nat, IsCnt p c → K (clsF p c)) : partition_Classes p K := by
  unfold partition_Classes
  refine partition_Valid_ok hp (by omega) ?_
  rw [if_pos rfl]
  refine partition_Count_ok hp (by omega) fun c hc => ?_
  have := ref03_Classes_ok hp hl (K := K) h
  unfold ref03_Classes at this
  have hcl := cnt_le hp hc
  obtain ⟨c, rfl⟩ := Int.eq_ofNat_of_zero_le hc.1
  refine ⟨by omega, by omega, fun _ => LoopWP.fold p.length (fun k (r : List (List Int)) => r.length = c ∧ ∀ v : Nat, v < c → ix r (v : Int) = (iota k).filter fun i => decide (ix p i = (v : Int))) ⟨by simp, fun v hv => ?_⟩ ?_⟩
  · rw [ix_replicate _ _ (by simpa using hv)]; rfl
  rintro k r X hk ⟨hr, hI⟩ hX
  show partition_Classes_L1 p K _ k r
  unfold partition_Classes_L1
  split
  · have hkp : k < p.length := by omega
    have hv := (hc.2 (ix p (k : Int))).2 ⟨k, hkp, rfl⟩
    obtain ⟨v, hv'⟩ := Int.eq_ofNat_of_zero_le hv.1
    rw [hv'] at hv ⊢
    have hvc : v < c := by omega
    refine ⟨by omega, by omega, by omega, by omega, ?_, by omega, by omega, hX _ hkp ⟨by rw [st_length]; exact hr, fun u hu => ?_⟩⟩
    · rw [hI v hvc]
      have := List.length_filter_le (fun i => decide (ix p i = (v : Int))) (iota k); simp at this ⊢; omega
    · rw [ix_st _ (by omega) (by omega) (by omega), iota_succ, List.filter_append]
      by_cases huv : u = v
      · subst huv
        rw [if_pos rfl, hI u hvc]
        simp [hv']
      · rw [if_neg (by omega), hI u hu]
        have : ¬ (v : Int) = (u : Int) := by omega
        simp [hv', this]
  · obtain rfl : k = p.length := by omega
    have : r = clsF p c := by
      refine list_ix (by rw [clsF_len, hr]) fun j hj => ?_
      rw [ix_clsF (by omega)]; exact hI j (by omega)
    rw [this]
    exact h c hc
theorem partition_canonical_2_int_ok {l : List (Int × Int)} (hl : l.length ≤ 4096) {K : List Int → Prop} (h : ∀ p, IsCan p l → K p) : partition_canonical_2_int l K := by
  unfold partition_canonical_2_int
  refine fun _ => ⟨by omega, by omega, LoopWP.fold l.length (fun k (s : List ((Int × Int) × Int) × List Int) => CN l k s.1 s.2) CN.start ?_⟩
  rintro k ⟨m, p⟩ X hk hI hX
  show partition_canonical_2_int_L1 l K _ k m p
  unfold partition_canonical_2_int_L1
  have hlen : p.length = l.length := hI.len
  split
  · refine ⟨by omega, by omega, ?_⟩
    split
    · rename_i hx
      exact ⟨by omega, by omega, hX _ (by omega) (hI.old (by omega) hx)⟩
    · rename_i hx
      exact ⟨by omega, by omega, hX _ (by omega) (hI.new (by omega) hx)⟩
  · obtain rfl : k = l.length := by omega
    exact h p hI.fin
theorem partition_Meet_ok {p q : List Int} {n : Nat} (n4 : n ≤ 400) {e e' : Nat → Nat → Prop} (hp : PartOf p n e) (hq : PartOf q n e') {K : List Int → Prop} (h : ∀ m, PartOf m n (fun i j => e i j ∧ e' i j) → K m) : partition_Meet p q K := by
  have h1 := hp.len
  have h2 := hq.len
  unfold partition_Meet partition_matching
  refine fun _ _ => ?_
  rw [if_pos (by omega)]
  refine partition_Valid_ok hp.can (by omega) ?_
  rw [if_pos rfl]
  refine partition_Valid_ok hq.can (by omega) ?_
  show (if true = true then _ else _)
  rw [if_pos rfl]
  refine fun _ => ⟨by omega, by omega, LoopWP.fold p.length (fun k (l : List (Int × Int)) => l.length = n ∧ ∀ j : Nat, j < k → ix l (j : Int) = (ix p (j : Int), ix q (j : Int))) ⟨by simp [h1], fun j hj => by omega⟩ ?_⟩
  rintro k l X hk ⟨hl, hI⟩ hX
  show partition_Meet_L1 p q K _ k l
  unfold partition_Meet_L1
  split
  · refine ⟨by omega, by omega, by omega, by omega, by omega, by omega, hX _ (by omega) ⟨by rw [st_length]; exact hl, fun j hj => ?_⟩⟩
    rw [ix_st _ (by omega) (by omega) (by omega)]
    by_cases hjk : j = k
    · subst hjk; rw [if_pos rfl]
    · rw [if_neg (by omega)]; exact hI j (by omega)
  · refine partition_canonical_2_int_ok (by omega) fun m hm => h m (hm.part hl fun i j hi hj => ?_)
    rw [hI i (by omega), hI j (by omega), Prod.mk.injEq, hp.ker i j hi hj, hq.ker i j hi hj]
/-! ### The reference's ideals -/
/-- b is the set of x with p x. -/
structure SetB (n : Nat) (b : List Bool) (p : Nat → Prop) : Prop where
  len : b.length = n
  has : ∀ x : Nat, x < n → (ix b (x : Int) = true ↔ p x)
theorem SetB.put {n : Nat} {b : List Bool} {p : Nat → Prop} (h : SetB n b p) {z : Nat} (hz : z < n) {q : Nat → Prop} (hq : ∀ x : Nat, x < n → (q x ↔ p x ∨ x = z)) : SetB n (st b (z : Int) true) q := by
  refine ⟨by rw [st_length]; exact h.len, fun x hx => ?_⟩
  rw [ix_st _ (by omega) (by rw [h.len]; omega) (by omega), hq x hx, ← h.has x hx]
  by_cases hxz : x = z
  · subst hxz; rw [if_pos rfl]; exact ⟨fun _ => .inr rfl, fun _ => rfl⟩
  · rw [if_neg (by omega)]; exact ⟨.inl, fun hh => hh.resolve_right hxz⟩
theorem SetB.empty {n : Nat} : SetB n (List.replicate n false) (fun _ => False) := ⟨by simp, fun x hx => by rw [ix_replicate _ _ hx]; exact ⟨(fun h => by cases h), False.elim⟩⟩
/-- The sets of all elements. -/
structure BF (n : Nat) (r : List (List Bool)) (le : Nat → Nat → Prop) : Prop where
  len : r.length = n
  at_ : ∀ y : Nat, y < n → SetB n (ix r (y : Int)) (fun x => le x y)
end Sg
namespace Sg
open Go
set_option linter.unusedVariables false
set_option linter.unusedSimpArgs false
theorem leR_refl (t : List (List Int)) (x : Nat) : leR t x x := .inl rfl
theorem leL_refl (t : List (List Int)) (x : Nat) : leL t x x := .inl rfl
theorem mu_cl {t : List (List Int)} (T : Tb t t.length) {x y : Nat} (hx : x < t.length) (hy : y < t.length) : ∃ z : Nat, z < t.length ∧ mu t (x : Int) (y : Int) = (z : Int) := by
  have hb := T.mu (x := (x : Int)) (y := (y : Int)) (by omega) (by omega) (by omega) (by omega)
  obtain ⟨z, hz⟩ := Int.eq_ofNat_of_zero_le hb.1
  exact ⟨z, by omega, hz⟩
theorem leR_trans {t : List (List Int)} (hv : VT t = true) {x y z : Nat} (hz : z < t.length) (h : leR t x y) (k : leR t y z) : leR t x z := by
  have T := SH.tb (VT.sh hv)
  rcases h with rfl | ⟨s, hs, h⟩
  · exact k
  · rcases k with rfl | ⟨u, hu, k⟩
    · exact .inr ⟨s, hs, h⟩
    · obtain ⟨w, hw, e⟩ := mu_cl T hu hs
      refine .inr ⟨w, hw, ?_⟩
      rw [← e, ← VT.as hv z u s hz hu hs, k, h]
theorem leL_trans {t : List (List Int)} (hv : VT t = true) {x y z : Nat} (hz : z < t.length) (h : leL t x y) (k : leL t y z) : leL t x z := by
  have T := SH.tb (VT.sh hv)
  rcases h with rfl | ⟨s, hs, h⟩
  · exact k
  · rcases k with rfl | ⟨u, hu, k⟩
    · exact .inr ⟨s, hs, h⟩
    · obtain ⟨w, hw, e⟩ := mu_cl T hs hu
      refine .inr ⟨w, hw, ?_⟩
      rw [← e, VT.as hv s u z hs hu hz, k, h]
/-- One may go up on the left first. -/
theorem le_swap {t : List (List Int)} (hv : VT t = true) {x y z : Nat} (hx : x < t.length) (hz : z < t.length) (h : leL t x y) (k : leR t y z) : ∃ w : Nat, w < t.length ∧ leR t x w ∧ leL t w z := by
  have T := SH.tb (VT.sh hv)
  rcases h with rfl | ⟨s, hs, h⟩
  · exact ⟨z, hz, k, .inl rfl⟩
  · rcases k with rfl | ⟨u, hu, k⟩
    · exact ⟨x, hx, .inl rfl, .inr ⟨s, hs, h⟩⟩
    · obtain ⟨w, hw, e⟩ := mu_cl T hs hz
      refine ⟨w, hw, .inr ⟨u, hu, ?_⟩, .inr ⟨s, hs, e⟩⟩
      rw [← e, VT.as hv s z u hs hz hu, k, h]
theorem leJ_refl {t : List (List Int)} {x : Nat} (hx : x < t.length) : leJ t x x := ⟨x, hx, .inl rfl, .inl rfl⟩
theorem leJ_trans {t : List (List Int)} (hv : VT t = true) {x y z : Nat} (hy : y < t.length) (hz : z < t.length) (h : leJ t x y) (k : leJ t y z) : leJ t x z := by
  obtain ⟨a, ha, a1, a2⟩ := h
  obtain ⟨b, hb, b1, b2⟩ := k
  obtain ⟨w, hw, w1, w2⟩ := le_swap hv ha hb a1 b2
  exact ⟨w, hw, leL_trans hv hz w2 b1, leR_trans hv hw a2 w1⟩
theorem leR_J {t : List (List Int)} {x y : Nat} (hy : y < t.length) (h : leR t x y) : leJ t x y := ⟨y, hy, .inl rfl, h⟩
theorem leL_J {t : List (List Int)} {x y : Nat} (hx : x < t.length) (h : leL t x y) : leJ t x y := ⟨x, hx, h, .inl rfl⟩
def eR (t : List (List Int)) (x y : Nat) : Prop := leR t x y ∧ leR t y x
def eL (t : List (List Int)) (x y : Nat) : Prop := leL t x y ∧ leL t y x
def eJ (t : List (List Int)) (x y : Nat) : Prop := leJ t x y ∧ leJ t y x
/-- What Classes says. -/
structure GrOf (t : List (List Int)) (g : Green) : Prop where
  R : PartOf g.R t.length (eR t)
  L : PartOf g.L t.length (eL t)
  J : PartOf g.J t.length (eJ t)
  H : PartOf g.H t.length (fun i j => eR t i j ∧ eL t i j)
  cnt : IsCnt g.J (g.Below.length : Int)
  row : ∀ i : Nat, i < g.Below.length → (ix g.Below (i : Int)).length = g.Below.length
  bel : ∀ x y : Nat, x < t.length → y < t.length → (ix (ix g.Below (ix g.J (x : Int))) (ix g.J (y : Int)) = true ↔ leJ t x y)
theorem GrOf.cls {t : List (List Int)} {g : Green} (h : GrOf t g) {i : Nat} (hi : i < g.Below.length) : ∃ x : Nat, x < t.length ∧ ix g.J (x : Int) = (i : Int) := by
  obtain ⟨x, hx, he⟩ := (h.cnt.2 (i : Int)).1 ⟨by omega, by omega⟩
  exact ⟨x, by have := h.J.len; omega, he⟩
theorem GrOf.uniq {t : List (List Int)} {g g' : Green} (h : GrOf t g) (k : GrOf t g') : g = g' := by
  have h1 := h.R.uniq k.R fun _ _ _ _ => Iff.rfl
  have h2 := h.L.uniq k.L fun _ _ _ _ => Iff.rfl
  have h3 := h.J.uniq k.J fun _ _ _ _ => Iff.rfl
  have h4 := h.H.uniq k.H fun _ _ _ _ => Iff.rfl
  have hc := h.cnt
  rw [h3] at hc
  have h5 := hc.uniq k.cnt
  have h6 : g.Below = g'.Below := by
    refine list_ix (by omega) fun i hi => list_ix (by rw [h.row i hi, k.row i (by omega)]; omega) fun j hj => ?_
    rw [h.row i hi] at hj
    obtain ⟨x, hx, ex⟩ := h.cls hi
    obtain ⟨y, hy, ey⟩ := h.cls hj
    have b1 := h.bel x y hx hy
    have b2 := k.bel x y hx hy
    rw [← h3] at b2
    rw [ex, ey] at b1 b2
    rw [Bool.eq_iff_iff, b1, b2]
  cases g; cases g'
  simp only at h1 h2 h3 h4 h6
  rw [h1, h2, h3, h4, h6]
theorem clsF_head {p : List Int} {c v : Nat} (hc : IsCnt p (c : Int)) (hv : v < c) : ∃ f : Nat, f < p.length ∧ ix (ix (clsF p c) (v : Int)) 0 = (f : Int) ∧ ix p (f : Int) = (v : Int) ∧ 0 < (ix (clsF p c) (v : Int)).length := by
  rw [ix_clsF hv]
  obtain ⟨j, hj, he⟩ := (hc.2 (v : Int)).1 ⟨by omega, by omega⟩
  have hm : (j : Int) ∈ (iota p.length).filter fun i => decide (ix p i = (v : Int)) := by
    rw [List.mem_filter, mem_iota, decide_eq_true_eq]; exact ⟨⟨by omega, by omega⟩, he⟩
  have hl : 0 < ((iota p.length).filter fun i => decide (ix p i = (v : Int))).length := List.length_pos_of_mem hm
  have h0 := ix_mem (xs := (iota p.length).filter fun i => decide (ix p i = (v : Int))) (i := 0) (by omega) (by omega)
  rw [List.mem_filter, mem_iota, decide_eq_true_eq] at h0
  obtain ⟨f, hf⟩ := Int.eq_ofNat_of_zero_le h0.1.1
  exact ⟨f, by omega, hf, by rw [← hf]; exact h0.2, hl⟩
/-- Between classes it does not matter which elements are asked. -/
theorem bel_of {t : List (List Int)} (hv : VT t = true) {p : List Int} (hp : PartOf p t.length (eJ t)) {x y f g : Nat} (hx : x < t.length) (hy : y < t.length) (hf : f < t.length) (hg : g < t.length) (h1 : ix p (x : Int) = ix p (f : Int)) (h2 : ix p (y : Int) = ix p (g : Int)) : leJ t x y ↔ leJ t f g := by
  have a := (hp.ker x f hx hf).1 h1
  have b := (hp.ker y g hy hg).1 h2
  exact ⟨fun h => leJ_trans hv hx hg a.2 (leJ_trans hv hy hg h b.1), fun h => leJ_trans hv hf hy a.1 (leJ_trans hv hg hy h b.2)⟩
theorem green_Classes_ok {t : List (List Int)} {K : Green → Prop} (h1 : VT t = true → ∀ g, GrOf t g → K g) (h2 : ¬ VT t = true → K ⟨[], [], [], [], []⟩) : green_Classes t K := by
  unfold green_Classes
  refine mult_Validate_ok ?_
  by_cases h0 : vaC t = 0
  · rw [if_pos h0]
    have hv := vaC0.1 h0
    have hs := VT.sh hv
    have T := SH.tb hs
    have n4 := T.n4
    refine rightIdeals_ok hs fun rr hrr => leftIdeals_ok hs fun rl hrl => twoSided_ok n4 hrr hrl fun rj hrj => ?_
    have hrj' : IdF t.length rj (leJ t) := hrj
    refine green_mutual_ok n4 hrr (fun i _ => leR_refl t i) (fun i j k hi hj hk => leR_trans hv hk) fun pR hR => ?_
    refine green_mutual_ok n4 hrl (fun i _ => leL_refl t i) (fun i j k hi hj hk => leL_trans hv hk) fun pL hL => ?_
    refine green_mutual_ok n4 hrj' (fun i hi => leJ_refl hi) (fun i j k hi hj hk => leJ_trans hv hj hk) fun pJ hJ => ?_
    have hJl := hJ.len
    refine partition_Meet_ok n4 hR hL fun pH hH => partition_Classes_ok hJ.can (by omega) fun c hc => ?_
    have hcl := cnt_le hJ.can hc
    have hrjl := hrj'.len
    rw [clsF_len]
    refine fun _ => ⟨by omega, by omega, ?_⟩
    refine LoopWP.fold c (fun k (d : List (List Bool)) => d.length = c ∧ ∀ i : Nat, i < k → (ix d (i : Int)).length = c ∧ ∀ x y j : Nat, x < t.length → y < t.length → ix pJ (x : Int) = (i : Int) → ix pJ (y : Int) = (j : Int) → (ix (ix d (i : Int)) (j : Int) = true ↔ leJ t x y)) ⟨by simp, fun i hi => by omega⟩ ?_
    rintro k d X hk ⟨hd, hI⟩ hX
    show green_Classes_L1 rj pR pL pJ pH (clsF pJ c) K _ k d
    unfold green_Classes_L1
    rw [clsF_len]
    split
    · have hkc : k < c := by omega
      obtain ⟨f, hf, ef, pf, lf⟩ := clsF_head hc hkc
      refine ⟨by omega, by omega, by omega, by omega, by omega, by omega, ?_⟩
      refine LoopWP.fold c (fun m (q : List (List Bool)) => ∃ row, q = st d (k : Int) row ∧ row.length = c ∧ ∀ x y j : Nat, j < m → x < t.length → y < t.length → ix pJ (x : Int) = (k : Int) → ix pJ (y : Int) = (j : Int) → (ix row (j : Int) = true ↔ leJ t x y)) ⟨_, rfl, by simp, fun x y j hj => by omega⟩ ?_
      rintro m q X2 hm ⟨row, rfl, hrow, hJ2⟩ hX2
      show green_Classes_L2 rj (clsF pJ c) k _ K _ m _
      unfold green_Classes_L2
      rw [clsF_len]
      split
      · have hmc : m < c := by omega
        obtain ⟨u, hu, eu, pu, lu⟩ := clsF_head hc hmc
        rw [ef, eu, ix_st_same (by omega)]
        refine ⟨by omega, by omega, by omega, by rw [st_length]; omega, by omega, by omega, by omega, by omega, by omega, by omega, has_ok n4 (hrj'.wd u (by omega)) (by omega) ⟨by omega, by omega, hX2 _ hmc ⟨_, st_st, by rw [st_length]; exact hrow, fun x y j hj hx hy ex ey => ?_⟩⟩⟩
        rw [ix_st _ (by omega) (by omega) (by omega)]
        by_cases hjm : j = m
        · subst hjm
          rw [if_pos rfl, hrj'.has f u (by omega) (by omega)]
          exact (bel_of hv hJ hx hy (by omega) (by omega) (by rw [ex, pf]) (by rw [ey, pu])).symm
        · rw [if_neg (by omega)]; exact hJ2 x y j (by omega) hx hy ex ey
      · obtain rfl : m = c := by omega
        refine hX _ hkc ⟨by rw [st_length]; exact hd, fun i hi => ?_⟩
        rw [ix_st _ (by omega) (by omega) (by omega)]
        by_cases hik : i = k
        · subst hik
          rw [if_pos rfl]
          refine ⟨hrow, fun x y j hx hy ex ey => hJ2 x y j ?_ hx hy ex ey⟩
          have := (hc.2 (j : Int)).2 ⟨y, by omega, ey⟩
          omega
        · rw [if_neg (by omega)]; exact hI i (by omega)
    · obtain rfl : k = c := by omega
      refine h1 hv _ ⟨hR, hL, hJ, hH, by simp only; rw [hd]; exact hc, fun i hi => ?_, fun x y hx hy => ?_⟩
      · simp only at hi ⊢
        rw [(hI i (by omega)).1, hd]
      · simp only
        have a1 := (hc.2 (ix pJ (x : Int))).2 ⟨x, by omega, rfl⟩
        have a2 := (hc.2 (ix pJ (y : Int))).2 ⟨y, by omega, rfl⟩
        obtain ⟨i, hi⟩ := Int.eq_ofNat_of_zero_le a1.1
        obtain ⟨j, hj⟩ := Int.eq_ofNat_of_zero_le a2.1
        rw [hi] at a1 ⊢
        rw [hj]
        exact (hI i (by omega)).2 x y j hx hy hi hj
  · rw [if_neg h0]
    exact h2 fun hv => h0 (vaC0.2 hv)
end Sg
namespace Sg
open Go
set_option linter.unusedVariables false
set_option linter.unusedSimpArgs false
theorem nodup_subG {α : Type} [DecidableEq α] : ∀ {l l' : List α}, l.Nodup → (∀ x ∈ l, x ∈ l') → l.length ≤ l'.length
  | [], _, _, _ => Nat.zero_le _
  | a :: l, l', hn, hs => by
    obtain ⟨h1, h2⟩ := List.nodup_cons.1 hn
    have ha := hs a List.mem_cons_self
    have := nodup_subG (l := l) (l' := l'.erase a) h2 fun x hx => (List.mem_erase_of_ne (fun hh : x = a => h1 (by rw [← hh]; exact hx))).2 (hs x (List.mem_cons_of_mem _ hx))
    rw [List.length_erase_of_mem ha] at this
    have := List.length_pos_of_mem ha
    simp only [List.length_cons]; omega
theorem sup_ex (f : Nat → Nat) (P : Nat → Prop) : ∀ c : Nat, ∃ s : Nat, (∀ j : Nat, j < c → P j → f j + 1 ≤ s) ∧ (s = 0 ∨ ∃ j : Nat, j < c ∧ P j ∧ f j + 1 = s)
  | 0 => ⟨0, fun j hj => by omega, .inl rfl⟩
  | c + 1 => by
    obtain ⟨s, h1, h2⟩ := sup_ex f P c
    by_cases hp : P c ∧ s ≤ f c + 1
    · refine ⟨f c + 1, fun j hj hpj => ?_, .inr ⟨c, by omega, hp.1, rfl⟩⟩
      by_cases hjc : j = c
      · subst hjc; exact Nat.le_refl _
      · have := h1 j (by omega) hpj; omega
    · refine ⟨s, fun j hj hpj => ?_, h2.imp id fun ⟨j, hj, hh⟩ => ⟨j, by omega, hh⟩⟩
      by_cases hjc : j = c
      · subst hjc
        have : ¬ s ≤ f j + 1 := fun hh => hp ⟨hpj, hh⟩
        omega
      · exact h1 j (by omega) hpj
/-- D is the depth in an order of c classes. -/
structure Dep (c : Nat) (B : Nat → Nat → Prop) (D : Nat → Nat) : Prop where
  up : ∀ i j : Nat, i < c → j < c → j ≠ i → B i j → D j + 1 ≤ D i
  at_ : ∀ i : Nat, i < c → D i = 0 ∨ ∃ j : Nat, j < c ∧ j ≠ i ∧ B i j ∧ D j + 1 = D i
  le : ∀ i : Nat, i < c → D i ≤ c
theorem dep_ex (c : Nat) (B : Nat → Nat → Prop) (anti : ∀ i j : Nat, i < c → j < c → B i j → B j i → i = j) (tr : ∀ i j k : Nat, i < c → j < c → k < c → B i j → B j k → B i k) : ∃ D, Dep c B D := by
  classical
  let ups : Nat → List Nat := fun i => (List.range c).filter fun j => decide (j ≠ i ∧ B i j)
  have hmem : ∀ i j : Nat, j ∈ ups i ↔ j < c ∧ j ≠ i ∧ B i j := fun i j => by simp [ups]
  have hlt : ∀ i j : Nat, i < c → j < c → j ≠ i → B i j → (ups j).length < (ups i).length := by
    intro i j hi hj hne hb
    have hsub : ∀ x ∈ j :: ups j, x ∈ ups i := by
      intro x hx
      rcases List.mem_cons.1 hx with rfl | hx
      · exact (hmem i x).2 ⟨hj, hne, hb⟩
      · have h := (hmem j x).1 hx
        refine (hmem i x).2 ⟨h.1, fun hxi => ?_, tr i j x hi hj h.1 hb h.2.2⟩
        subst hxi
        exact hne (anti j x hj hi h.2.2 hb)
    have hnd : (j :: ups j).Nodup := List.nodup_cons.2 ⟨fun h => ((hmem j j).1 h).2.1 rfl, (List.nodup_range).filter _⟩
    have := nodup_subG hnd hsub
    simp only [List.length_cons] at this
    omega
  have key : ∀ m : Nat, ∃ D : Nat → Nat, (∀ i : Nat, i < c → (ups i).length < m → (∀ j : Nat, j < c → j ≠ i → B i j → D j + 1 ≤ D i) ∧ (D i = 0 ∨ ∃ j : Nat, j < c ∧ j ≠ i ∧ B i j ∧ D j + 1 = D i) ∧ D i ≤ (ups i).length) := by
    intro m
    induction m with
    | zero => exact ⟨fun _ => 0, fun i hi h => by omega⟩
    | succ m ih =>
      obtain ⟨D, hD⟩ := ih
      refine ⟨fun i => if (ups i).length < m then D i else Classical.choose (sup_ex D (fun j => j ≠ i ∧ B i j) c), fun i hi hl => ?_⟩
      have eD : ∀ j : Nat, j < c → j ≠ i → B i j → (if (ups j).length < m then D j else Classical.choose (sup_ex D (fun k => k ≠ j ∧ B j k) c)) = D j := fun j hj hne hb => by
        have := hlt i j hi hj hne hb
        rw [if_pos (by omega)]
      by_cases him : (ups i).length < m
      · obtain ⟨a1, a2, a3⟩ := hD i hi him
        simp only [if_pos him]
        refine ⟨fun j hj hne hb => by rw [eD j hj hne hb]; exact a1 j hj hne hb, a2.imp id fun ⟨j, hj, hne, hb, e⟩ => ⟨j, hj, hne, hb, by rw [eD j hj hne hb]; exact e⟩, a3⟩
      · obtain ⟨a1, a2⟩ := Classical.choose_spec (sup_ex D (fun j => j ≠ i ∧ B i j) c)
        simp only [if_neg him]
        refine ⟨fun j hj hne hb => by rw [eD j hj hne hb]; exact a1 j hj ⟨hne, hb⟩, a2.imp id fun ⟨j, hj, hp, e⟩ => ⟨j, hj, hp.1, hp.2, by rw [eD j hj hp.1 hp.2]; exact e⟩, ?_⟩
        rcases a2 with h0 | ⟨j, hj, hp, e⟩
        · rw [h0]; exact Nat.zero_le _
        · have h1 := hlt i j hi hj hp.1 hp.2
          have h2 := (hD j hj (by omega)).2.2
          omega
  have hle : ∀ i : Nat, (ups i).length ≤ c := fun i => by
    have := List.length_filter_le (fun j => decide (j ≠ i ∧ B i j)) (List.range c)
    rwa [List.length_range] at this
  obtain ⟨D, hD⟩ := key (c + 1)
  exact ⟨D, fun i j hi hj => (hD i hi (by have := hle i; omega)).1 j hj, fun i hi => (hD i hi (by have := hle i; omega)).2.1, fun i hi => Nat.le_trans (hD i hi (by have := hle i; omega)).2.2 (hle i)⟩
/-- The order of the J-classes. -/
def belG (g : Green) (i j : Nat) : Prop := ix (ix g.Below (i : Int)) (j : Int) = true
theorem GrOf.anti {t : List (List Int)} {g : Green} (h : GrOf t g) (i j : Nat) (hi : i < g.Below.length) (hj : j < g.Below.length) (a : belG g i j) (b : belG g j i) : i = j := by
  obtain ⟨x, hx, ex⟩ := h.cls hi
  obtain ⟨y, hy, ey⟩ := h.cls hj
  have b1 := h.bel x y hx hy
  have b2 := h.bel y x hy hx
  rw [ex, ey] at b1 b2
  have := (h.J.ker x y hx hy).2 ⟨b1.1 a, b2.1 b⟩
  omega
theorem GrOf.tr {t : List (List Int)} (hv : VT t = true) {g : Green} (h : GrOf t g) (i j k : Nat) (hi : i < g.Below.length) (hj : j < g.Below.length) (hk : k < g.Below.length) (a : belG g i j) (b : belG g j k) : belG g i k := by
  obtain ⟨x, hx, ex⟩ := h.cls hi
  obtain ⟨y, hy, ey⟩ := h.cls hj
  obtain ⟨z, hz, ez⟩ := h.cls hk
  have b1 := h.bel x y hx hy
  have b2 := h.bel y z hy hz
  have b3 := h.bel x z hx hz
  rw [ex, ey] at b1
  rw [ey, ez] at b2
  rw [ex, ez] at b3
  exact b3.2 (leJ_trans hv hy hz (b1.1 a) (b2.1 b))
def dL (c : Nat) (D : Nat → Nat) : List Int := (List.range c).map fun i => (D i : Int)
theorem dL_len {c : Nat} {D : Nat → Nat} : (dL c D).length = c := by simp [dL]
theorem ix_dL {c : Nat} {D : Nat → Nat} {i : Nat} (h : i < c) : ix (dL c D) (i : Int) = (D i : Int) := by
  rw [ix_lt (by rw [dL_len]; exact h)]; simp [dL]
theorem eq_dL {c : Nat} {D : Nat → Nat} {d : List Int} (hl : d.length = c) (h : ∀ i : Nat, i < c → ix d (i : Int) = (D i : Int)) : d = dL c D :=
  list_ix (by rw [dL_len, hl]) fun j hj => by rw [ix_dL (by omega)]; exact h j (by omega)
theorem GrOf.small {t : List (List Int)} {g : Green} (h : GrOf t g) : g.Below.length ≤ t.length := by
  have := cnt_le h.J.can h.cnt
  have := h.J.len
  omega
/-- The function that calls itself. -/
theorem heights_rec {g : Green} {c : Nat} {D : Nat → Nat} (hc : g.Below.length = c) (c4 : c ≤ 400) (hrow : ∀ i : Nat, i < c → (ix g.Below (i : Int)).length = c) (hD : Dep c (belG g) D)
    (anti : ∀ i j : Nat, i < c → j < c → belG g i j → belG g j i → i = j) (tr : ∀ i j k : Nat, i < c → j < c → k < c → belG g i j → belG g j k → belG g i k) {K0 : List Int → Prop}
    {a : Nat} (ha : a < c) {d : List Int} (hd : d.length = c) (hI : ∀ k : Nat, k < c → (k = a ∨ belG g a k) → ix d (k : Int) = -1 ∨ ix d (k : Int) = (D k : Int)) {K : Int × List Int → Prop}
    (h : ∀ d' : List Int, d'.length = c → ix d' (a : Int) = (D a : Int) → (∀ k : Nat, k < c → ¬ (k = a ∨ belG g a k) → ix d' (k : Int) = ix d (k : Int)) → (∀ k : Nat, k < c → (k = a ∨ belG g a k) → ix d' (k : Int) = -1 ∨ ix d' (k : Int) = (D k : Int)) → (∀ k : Nat, k < c → ix d (k : Int) = (D k : Int) → ix d' (k : Int) = (D k : Int)) → K ((D a : Int), d')) :
    RecWP (S := Int × List Int) (T := Int × List Int) (fun X s KR3 => green_Heights_R3 g K0 (fun i3_64 d3_65 k => X (i3_64, d3_65) (fun t => k t.1 t.2)) s.1 s.2 (fun r3_0 d3_65 => KR3 (r3_0, d3_65))) ((a : Int), d) K := by
  refine RecWP.intro (fun s => ∃ a : Nat, s.1 = (a : Int) ∧ a < c ∧ s.2.length = c ∧ ∀ k : Nat, k < c → (k = a ∨ belG g a k) → ix s.2 (k : Int) = -1 ∨ ix s.2 (k : Int) = (D k : Int))
    (fun s t => ∀ a : Nat, s.1 = (a : Int) → t.1 = (D a : Int) ∧ t.2.length = c ∧ ix t.2 (a : Int) = (D a : Int) ∧ (∀ k : Nat, k < c → ¬ (k = a ∨ belG g a k) → ix t.2 (k : Int) = ix s.2 (k : Int)) ∧ (∀ k : Nat, k < c → (k = a ∨ belG g a k) → ix t.2 (k : Int) = -1 ∨ ix t.2 (k : Int) = (D k : Int)) ∧ (∀ k : Nat, k < c → ix s.2 (k : Int) = (D k : Int) → ix t.2 (k : Int) = (D k : Int)))
    (fun s => D s.1.toNat) ⟨a, rfl, ha, hd, hI⟩ ?_ ?_
  · rintro ⟨r, d'⟩ hq
    obtain ⟨q1, q2, q3, q4, q5, q6⟩ := hq a rfl
    simp only at q1 q2 q3 q4 q5 q6
    rw [q1]
    exact h d' q2 q3 q4 q5 q6
  rintro X ⟨i, d⟩ K ⟨a, hia, ha, hd, hI⟩ hX hK
  simp only at hia hd hI hX
  subst hia
  show green_Heights_R3 g K0 _ (a : Int) d _
  unfold green_Heights_R3
  have hDa := hD.le a ha
  refine ⟨by omega, by omega, ?_⟩
  split
  · rename_i hneg
    have hda : ix d (a : Int) = -1 := by rcases hI a ha (.inl rfl) with h | h <;> omega
    refine ⟨by omega, by omega, by omega, by omega, fun _ => ?_⟩
    refine LoopWP.fold c (fun m (q : List Int) => q.length = c ∧ 0 ≤ ix q (a : Int) ∧ (∀ j : Nat, j < m → j ≠ a → belG g a j → (D j : Int) + 1 ≤ ix q (a : Int)) ∧ (ix q (a : Int) = 0 ∨ ∃ j : Nat, j < c ∧ j ≠ a ∧ belG g a j ∧ ix q (a : Int) = (D j : Int) + 1) ∧
      (∀ k : Nat, k < c → k ≠ a → belG g a k → ix q (k : Int) = -1 ∨ ix q (k : Int) = (D k : Int)) ∧ (∀ k : Nat, k < c → k ≠ a → ¬ belG g a k → ix q (k : Int) = ix d (k : Int)) ∧ (∀ k : Nat, k < c → k ≠ a → ix d (k : Int) = (D k : Int) → ix q (k : Int) = (D k : Int))) ?_ ?_
    · have e : ∀ k : Nat, k < c → k ≠ a → ix (st d (a : Int) 0) (k : Int) = ix d (k : Int) := fun k hk hne => by rw [ix_st _ (by omega) (by omega) (by omega), if_neg (by omega)]
      have e0 : ix (st d (a : Int) 0) (a : Int) = 0 := ix_st_same (by omega)
      exact ⟨by rw [st_length]; exact hd, by rw [e0]; exact Int.le_refl _, fun j hj => by omega, .inl e0, fun k hk hne hb => by rw [e k hk hne]; exact hI k hk (.inr hb), fun k hk hne hb => e k hk hne, fun k hk hne hh => by rw [e k hk hne]; exact hh⟩
    rintro m q X2 hm ⟨q0, q1, q2, q3, q4, q5, q6⟩ hX2
    show green_Heights_L4 g a _ _ K0 _ m q
    unfold green_Heights_L4
    have hr := hrow a ha
    split
    · have hmc : m < c := by omega
      refine ⟨by omega, by omega, ?_⟩
      split
      · rename_i hb
        split
        · rename_i hma
          have hma' : m = a := by omega
          refine hX2 _ hmc ⟨q0, q1, fun j hj hne hbj => ?_, q3, q4, q5, q6⟩
          exact q2 j (by omega) hne hbj
        · rename_i hma
          have hma' : m ≠ a := by omega
          have hup := hD.up a m ha hmc hma' hb
          refine ⟨by omega, by omega, ?_⟩
          refine hX ((m : Int), q) _ ⟨m, rfl, hmc, q0, fun k hk hkk => ?_⟩ (by simp only [Int.toNat_natCast]; omega) ?_
          · by_cases hka : k = a
            · subst hka
              rcases hkk with rfl | hkb
              · exact absurd rfl hma'
              · exact absurd (anti k m ha hmc hb hkb) (Ne.symm hma')
            · rcases hkk with rfl | hkb
              · exact q4 k hk hka hb
              · exact q4 k hk hka (tr a m k ha hmc hk hb hkb)
          · rintro ⟨r, d'⟩ hq
            obtain ⟨r1, r2, r3, r4, r5, r6⟩ := hq m rfl
            simp only at r1 r2 r3 r4 r5 r6
            have haq : ix d' (a : Int) = ix q (a : Int) := r4 a ha fun hh => by
              rcases hh with h | h
              · exact hma' h.symm
              · exact hma' (anti a m ha hmc hb h).symm
            have hDm := hD.le m hmc
            have fin : ∀ v : Int, 0 ≤ v → (∀ j : Nat, j < m + 1 → j ≠ a → belG g a j → (D j : Int) + 1 ≤ v) → (v = 0 ∨ ∃ j : Nat, j < c ∧ j ≠ a ∧ belG g a j ∧ v = (D j : Int) + 1) → X2 (m + 1, st d' (a : Int) v) := by
              intro v v0 v1 v2
              have e : ∀ k : Nat, k < c → k ≠ a → ix (st d' (a : Int) v) (k : Int) = ix d' (k : Int) := fun k hk hne => by rw [ix_st _ (by omega) (by omega) (by omega), if_neg (by omega)]
              have e0 : ix (st d' (a : Int) v) (a : Int) = v := ix_st_same (by omega)
              refine hX2 _ hmc ⟨by rw [st_length]; exact r2, by rw [e0]; exact v0, fun j hj hne hbj => by rw [e0]; exact v1 j hj hne hbj, by rw [e0]; exact v2, fun k hk hne hbk => ?_, fun k hk hne hbk => ?_, fun k hk hne hh => ?_⟩
              · rw [e k hk hne]
                by_cases hkm : k = m ∨ belG g m k
                · exact r5 k hk hkm
                · rw [r4 k hk hkm]; exact q4 k hk hne hbk
              · rw [e k hk hne, r4 k hk fun hh => ?_]
                · exact q5 k hk hne hbk
                · rcases hh with rfl | hh
                  · exact hbk hb
                  · exact hbk (tr a m k ha hmc hk hb hh)
              · rw [e k hk hne]; exact r6 k hk (q6 k hk hne hh)
            subst r1
            show _ ∧ _
            dsimp only
            refine ⟨haq, by omega, ⟨by omega, by omega⟩, ?_⟩
            split
            · refine ⟨by omega, by omega, fin _ (by omega) (fun j hj hne hbj => ?_) (.inr ⟨m, hmc, hma', hb, by omega⟩)⟩
              by_cases hjm : j = m
              · subst hjm; omega
              · have := q2 j (by omega) hne hbj; omega
            · refine ⟨by omega, by omega, fin _ q1 (fun j hj hne hbj => ?_) q3⟩
              by_cases hjm : j = m
              · subst hjm; omega
              · exact q2 j (by omega) hne hbj
      · rename_i hb
        refine hX2 _ hmc ⟨q0, q1, fun j hj hne hbj => ?_, q3, q4, q5, q6⟩
        by_cases hjm : j = m
        · subst hjm; exact absurd hbj hb
        · exact q2 j (by omega) hne hbj
    · obtain rfl : m = c := by omega
      have hfin : ix q (a : Int) = (D a : Int) := by
        have h1 : ix q (a : Int) ≤ (D a : Int) := by
          rcases q3 with h | ⟨j, hj, hne, hbj, h⟩
          · omega
          · have := hD.up a j ha hj hne hbj; omega
        have h2 : (D a : Int) ≤ ix q (a : Int) := by
          rcases hD.at_ a ha with h | ⟨j, hj, hne, hbj, h⟩
          · omega
          · have := q2 j hj hne hbj; omega
        omega
      refine ⟨by omega, by omega, hK _ ?_⟩
      intro a' ha'
      obtain rfl : a' = a := by simp only at ha'; omega
      refine ⟨hfin, q0, hfin, fun k hk hn => ?_, fun k hk hkk => ?_, fun k hk hh => ?_⟩
      · exact q5 k hk (fun h => hn (.inl h)) fun h => hn (.inr h)
      · by_cases hka : k = a'
        · subst hka; exact .inr hfin
        · exact q4 k hk hka (hkk.resolve_left hka)
      · by_cases hka : k = a'
        · subst hka; exact hfin
        · exact q6 k hk hka hh
  · rename_i hneg
    have hda : ix d (a : Int) = (D a : Int) := by rcases hI a ha (.inl rfl) with h | h <;> omega
    refine ⟨by omega, by omega, hK _ ?_⟩
    intro a' ha'
    obtain rfl : a' = a := by simp only at ha'; omega
    exact ⟨hda, hd, hda, fun k hk hn => rfl, fun k hk hkk => hI k hk hkk, fun k hk hh => hh⟩
theorem green_Heights_ok {t : List (List Int)} {K : List Int → Prop} (h1 : VT t = true → ∀ g D, GrOf t g → Dep g.Below.length (belG g) D → K (dL g.Below.length D)) (h2 : ¬ VT t = true → K []) : green_Heights t K := by
  unfold green_Heights
  refine green_Classes_ok (fun hv g hg => ?_) fun hv => ?_
  · have n4 := (SH.tb (VT.sh hv)).n4
    have hc4 := hg.small
    obtain ⟨D, hD⟩ := dep_ex g.Below.length (belG g) hg.anti (hg.tr hv)
    refine fun _ => ⟨by omega, by omega, ?_⟩
    refine LoopWP.fold g.Below.length (fun k (d : List Int) => d.length = g.Below.length ∧ ∀ i : Nat, i < k → ix d (i : Int) = -1) ⟨by simp, fun i hi => by omega⟩ ?_
    rintro k d X hk ⟨hd, hI⟩ hX
    show green_Heights_L1 t g K _ k d
    unfold green_Heights_L1
    rw [List.length_replicate]
    split
    · refine ⟨by omega, by omega, ⟨by omega, by omega⟩, hX _ (by omega) ⟨by rw [st_length]; exact hd, fun i hi => ?_⟩⟩
      rw [ix_st _ (by omega) (by omega) (by omega)]
      by_cases hik : i = k
      · rw [if_pos (by omega)]
      · rw [if_neg (by omega)]; exact hI i (by omega)
    · obtain rfl : k = g.Below.length := by omega
      refine LoopWP.fold g.Below.length (fun m (q : List Int) => q.length = g.Below.length ∧ (∀ i : Nat, i < g.Below.length → ix q (i : Int) = -1 ∨ ix q (i : Int) = (D i : Int)) ∧ ∀ i : Nat, i < m → ix q (i : Int) = (D i : Int)) ⟨hd, fun i hi => .inl (hI i hi), fun i hi => by omega⟩ ?_
      rintro m q X2 hm ⟨q0, q1, q2⟩ hX2
      show green_Heights_L2 t g d K _ m q
      unfold green_Heights_L2
      rw [hd]
      split
      · have hmc : m < g.Below.length := by omega
        refine heights_rec rfl (by omega) hg.row hD hg.anti (hg.tr hv) hmc q0 (fun k hk _ => q1 k hk) fun d' r2 r3 r4 r5 r6 => ?_
        refine ⟨⟨by omega, by omega⟩, hX2 _ hmc ⟨r2, fun i hi => ?_, fun i hi => ?_⟩⟩
        · by_cases him : i = m ∨ belG g m i
          · exact r5 i hi him
          · rw [r4 i hi him]; exact q1 i hi
        · by_cases him : i = m
          · subst him; exact r3
          · exact r6 i (by omega) (q2 i (by omega))
      · obtain rfl : m = g.Below.length := by omega
        rw [eq_dL q0 q2]
        exact h1 hv g D hg hD
  · refine fun _ => ⟨by decide, by decide, ?_⟩
    refine LoopWP.fold 0 (fun k (d : List Int) => d = []) rfl ?_
    rintro k d X hk rfl hX
    obtain rfl : k = 0 := by omega
    show green_Heights_L1 t _ K _ 0 []
    unfold green_Heights_L1
    rw [if_neg (by decide)]
    refine LoopWP.fold 0 (fun k (d : List Int) => d = []) rfl ?_
    rintro m q X2 hm rfl hX2
    obtain rfl : m = 0 := by omega
    show green_Heights_L2 t _ [] K _ 0 []
    unfold green_Heights_L2
    rw [if_neg (by decide)]
    exact h2 hv
end Sg
namespace Sg
open Go
set_option linter.unusedVariables false
set_option linter.unusedSimpArgs false
/-! ### The sanity check -/
def leRb (t : List (List Int)) (x y : Nat) : Bool := decide (x = y) || (List.range t.length).any fun s => decide (mu t (y : Int) (s : Int) = (x : Int))
def leLb (t : List (List Int)) (x y : Nat) : Bool := decide (x = y) || (List.range t.length).any fun s => decide (mu t (s : Int) (y : Int) = (x : Int))
def leJb (t : List (List Int)) (x y : Nat) : Bool := (List.range t.length).any fun z => leLb t z y && leRb t x z
theorem leRb_iff {t : List (List Int)} {x y : Nat} : leRb t x y = true ↔ leR t x y := by
  simp only [leRb, leR, Bool.or_eq_true, decide_eq_true_eq, List.any_eq_true, List.mem_range]
theorem leLb_iff {t : List (List Int)} {x y : Nat} : leLb t x y = true ↔ leL t x y := by
  simp only [leLb, leL, Bool.or_eq_true, decide_eq_true_eq, List.any_eq_true, List.mem_range]
theorem leJb_iff {t : List (List Int)} {x y : Nat} : leJb t x y = true ↔ leJ t x y := by
  simp only [leJb, leJ, Bool.and_eq_true, List.any_eq_true, List.mem_range, leLb_iff, leRb_iff]
def flipT : List (List Int) := [[0, 1, 2], [1, 0, 2], [2, 2, 2]]
theorem flip_VT : VT flipT = true := by
  have h1 : SH flipT = true := by decide
  have h2 : AS flipT := by
    intro x y z hx hy hz
    have hx' : x = 0 ∨ x = 1 ∨ x = 2 := by have : flipT.length = 3 := rfl; omega
    have hy' : y = 0 ∨ y = 1 ∨ y = 2 := by have : flipT.length = 3 := rfl; omega
    have hz' : z = 0 ∨ z = 1 ∨ z = 2 := by have : flipT.length = 3 := rfl; omega
    rcases hx' with rfl | rfl | rfl <;> rcases hy' with rfl | rfl | rfl <;> rcases hz' with rfl | rfl | rfl <;> rfl
  simp only [VT, h1, Bool.true_and, decide_eq_true_eq]
  exact h2
theorem flip_J : PartOf [0, 0, 1] flipT.length (eJ flipT) := by
  refine ⟨rfl, fun k hk => ?_, fun i j hi hj => ?_⟩
  · have hk' : k = 0 ∨ k = 1 ∨ k = 2 := by simp only [List.length_cons, List.length_nil] at hk; omega
    rcases hk' with rfl | rfl | rfl
    · exact ⟨by decide, fun v h0 h1 => by have : ix [(0 : Int), 0, 1] ((0 : Nat) : Int) = 0 := rfl; omega⟩
    · exact ⟨by decide, fun v h0 h1 => by have : ix [(0 : Int), 0, 1] ((1 : Nat) : Int) = 0 := rfl; omega⟩
    · refine ⟨by decide, fun v h0 h1 => ⟨0, by omega, ?_⟩⟩
      have : ix [(0 : Int), 0, 1] ((2 : Nat) : Int) = 1 := rfl
      have : ix [(0 : Int), 0, 1] ((0 : Nat) : Int) = 0 := rfl
      omega
  · have hi' : i = 0 ∨ i = 1 ∨ i = 2 := by have : flipT.length = 3 := rfl; omega
    have hj' : j = 0 ∨ j = 1 ∨ j = 2 := by have : flipT.length = 3 := rfl; omega
    unfold eJ
    rw [← leJb_iff, ← leJb_iff]
    rcases hi' with rfl | rfl | rfl <;> rcases hj' with rfl | rfl | rfl <;> decide
theorem flip_cnt : IsCnt [0, 0, 1] 2 := by
  refine cnt_of flip_J.can (by decide) (fun j hj => ?_) (.inr ⟨2, by decide, by decide⟩)
  have hj' : j = 0 ∨ j = 1 ∨ j = 2 := by simp only [List.length_cons, List.length_nil] at hj; omega
  rcases hj' with rfl | rfl | rfl <;> decide
theorem law15_awake_ok {K : Bool → Prop} (h : K true) : law15_awake K := by
  unfold law15_awake law15_flip
  refine green_Classes_ok (t := flipT) (fun hv g hg => ?_) fun hv => absurd flip_VT hv
  have hJ : g.J = [0, 0, 1] := hg.J.uniq flip_J fun _ _ _ _ => Iff.rfl
  have hc := hg.cnt
  rw [hJ] at hc
  have hc2 := hc.uniq flip_cnt
  refine ref03_Same_ok ?_
  rw [hJ, decide_eq_true rfl, if_pos rfl]
  refine fun _ => ?_
  rw [if_pos hc2]
  refine green_Heights_ok (t := flipT) (fun hv g' D hg' hD => ?_) fun hv => absurd flip_VT hv
  obtain rfl := hg.uniq hg'
  have hl : g.Below.length = 2 := by omega
  rw [hl] at hD ⊢
  have b0 := hg.bel 0 2 (by decide) (by decide)
  have b1 := hg.bel 2 0 (by decide) (by decide)
  rw [hJ] at b0 b1
  have n0 : ¬ belG g 0 1 := fun hh => by
    have := b0.1 hh
    rw [← leJb_iff] at this
    revert this; decide
  have y1 : belG g 1 0 := b1.2 (leJb_iff.1 (by decide))
  have d0 : D 0 = 0 := by
    rcases hD.at_ 0 (by omega) with h0 | ⟨j, hj, hne, hb, _⟩
    · exact h0
    · obtain rfl : j = 1 := by omega
      exact absurd hb n0
  have d1 : D 1 = 1 := by
    have h1 := hD.up 1 0 (by omega) (by omega) (by omega) y1
    rcases hD.at_ 1 (by omega) with h0 | ⟨j, hj, hne, hb, he⟩
    · omega
    · obtain rfl : j = 0 := by omega
      omega
  have e : dL 2 D = [0, 1] := by
    show [(D 0 : Int), (D 1 : Int)] = _
    rw [d0, d1]; rfl
  refine ref03_Same_ok ?_
  rw [e, decide_eq_true rfl]
  exact h
theorem law15_small_ok {t : List (List Int)} {m : Int} {K : Bool → Prop} (h : K (decide ((t.length : Int) ≤ m) && VT t)) : law15_small t m K := by
  unfold law15_small
  refine fun _ => ?_
  split
  · rename_i hl
    refine ref14_Valid_ok ?_
    simpa [hl] using h
  · rename_i hl
    simpa [hl] using h
end Sg
namespace Sg
open Go
set_option linter.unusedVariables false
set_option linter.unusedSimpArgs false
theorem green_areElements_ok {t : List (List Int)} {x y : Int} {K : Bool → Prop} (h1 : (0 ≤ x ∧ x < t.length ∧ 0 ≤ y ∧ y < t.length) → K (VT t)) (h2 : ¬ (0 ≤ x ∧ x < t.length ∧ 0 ≤ y ∧ y < t.length) → K false) : green_areElements t x y K := by
  unfold green_areElements
  split
  · split
    · split
      · intro _
        split
        · exact validIf_ok (h1 (by omega))
        · exact h2 (by omega)
      · intro _
        split
        · exact validIf_ok (h1 (by omega))
        · exact h2 (by omega)
    · exact h2 (by omega)
  · split
    · split
      · intro _
        split
        · exact validIf_ok (h1 (by omega))
        · exact h2 (by omega)
      · intro _
        split
        · exact validIf_ok (h1 (by omega))
        · exact h2 (by omega)
    · exact h2 (by omega)
theorem LeqR_ok {t : List (List Int)} {x y : Int} {K : Bool → Prop} (h1 : VT t = true → ∀ a b : Nat, a < t.length → b < t.length → x = (a : Int) → y = (b : Int) → ∀ r : Bool, (r = true ↔ leR t a b) → K r) (h2 : ¬ (VT t = true ∧ 0 ≤ x ∧ x < t.length ∧ 0 ≤ y ∧ y < t.length) → K false) : green_LeqR t x y K := by
  unfold green_LeqR
  refine green_areElements_ok (fun hin => ?_) fun hin => ?_
  · split
    · rename_i hv
      obtain ⟨a, rfl⟩ := Int.eq_ofNat_of_zero_le hin.1
      obtain ⟨b, rfl⟩ := Int.eq_ofNat_of_zero_le hin.2.2.1
      have n4 := (SH.tb (VT.sh hv)).n4
      refine rightIdeals_ok (VT.sh hv) fun r hr => ?_
      have hl := hr.len
      exact ⟨by omega, by omega, has_ok n4 (hr.wd b (by omega)) (by omega) (h1 hv a b (by omega) (by omega) rfl rfl _ (hr.has a b (by omega) (by omega)))⟩
    · rename_i hv; exact h2 fun h => hv h.1
  · rw [if_neg Bool.false_ne_true]; exact h2 fun h => hin h.2
theorem LeqL_ok {t : List (List Int)} {x y : Int} {K : Bool → Prop} (h1 : VT t = true → ∀ a b : Nat, a < t.length → b < t.length → x = (a : Int) → y = (b : Int) → ∀ r : Bool, (r = true ↔ leL t a b) → K r) (h2 : ¬ (VT t = true ∧ 0 ≤ x ∧ x < t.length ∧ 0 ≤ y ∧ y < t.length) → K false) : green_LeqL t x y K := by
  unfold green_LeqL
  refine green_areElements_ok (fun hin => ?_) fun hin => ?_
  · split
    · rename_i hv
      obtain ⟨a, rfl⟩ := Int.eq_ofNat_of_zero_le hin.1
      obtain ⟨b, rfl⟩ := Int.eq_ofNat_of_zero_le hin.2.2.1
      have n4 := (SH.tb (VT.sh hv)).n4
      refine leftIdeals_ok (VT.sh hv) fun r hr => ?_
      have hl := hr.len
      exact ⟨by omega, by omega, has_ok n4 (hr.wd b (by omega)) (by omega) (h1 hv a b (by omega) (by omega) rfl rfl _ (hr.has a b (by omega) (by omega)))⟩
    · rename_i hv; exact h2 fun h => hv h.1
  · rw [if_neg Bool.false_ne_true]; exact h2 fun h => hin h.2
theorem LeqJ_ok {t : List (List Int)} {x y : Int} {K : Bool → Prop} (h1 : VT t = true → ∀ a b : Nat, a < t.length → b < t.length → x = (a : Int) → y = (b : Int) → ∀ r : Bool, (r = true ↔ leJ t a b) → K r) (h2 : ¬ (VT t = true ∧ 0 ≤ x ∧ x < t.length ∧ 0 ≤ y ∧ y < t.length) → K false) : green_LeqJ t x y K := by
  unfold green_LeqJ
  refine green_areElements_ok (fun hin => ?_) fun hin => ?_
  · split
    · rename_i hv
      obtain ⟨a, rfl⟩ := Int.eq_ofNat_of_zero_le hin.1
      obtain ⟨b, rfl⟩ := Int.eq_ofNat_of_zero_le hin.2.2.1
      have n4 := (SH.tb (VT.sh hv)).n4
      refine rightIdeals_ok (VT.sh hv) fun rr hrr => leftIdeals_ok (VT.sh hv) fun rl hrl => twoSided_ok n4 hrr hrl fun r hr => ?_
      have hl := hr.len
      exact ⟨by omega, by omega, has_ok n4 (hr.wd b (by omega)) (by omega) (h1 hv a b (by omega) (by omega) rfl rfl _ (hr.has a b (by omega) (by omega)))⟩
    · rename_i hv; exact h2 fun h => hv h.1
  · rw [if_neg Bool.false_ne_true]; exact h2 fun h => hin h.2
theorem inB3 {n : Nat} {x y z : Int} : inB n [x, y, z] = true ↔ (0 ≤ x ∧ x < (n : Int)) ∧ (0 ≤ y ∧ y < (n : Int)) ∧ 0 ≤ z ∧ z < (n : Int) := by
  rw [inB_mem]; simp
/-! ### Regular classes, inverses -/
end Sg
namespace Sg
open Go
set_option linter.unusedVariables false
set_option linter.unusedSimpArgs false
end Sg
namespace Sg
open Go
set_option linter.unusedVariables false
set_option linter.unusedSimpArgs false
/-- A product on the table's elements as a map. -/
def mN (t : List (List Int)) (x y : Nat) : Nat := (mu t (x : Int) (y : Int)).toNat
theorem mN_eq {t : List (List Int)} (T : Tb t t.length) {x y : Nat} (hx : x < t.length) (hy : y < t.length) : mN t x y < t.length ∧ mu t (x : Int) (y : Int) = (mN t x y : Int) := by
  obtain ⟨z, hz, e⟩ := mu_cl T hx hy
  unfold mN
  rw [e]
  exact ⟨by simpa using hz, by simp⟩
theorem leR_mul {t : List (List Int)} (T : Tb t t.length) {x s : Nat} (hx : x < t.length) (hs : s < t.length) : leR t (mN t x s) x := .inr ⟨s, hs, (mN_eq T hx hs).2⟩
theorem leL_mul {t : List (List Int)} (T : Tb t t.length) {x s : Nat} (hx : x < t.length) (hs : s < t.length) : leL t (mN t s x) x := .inr ⟨s, hs, (mN_eq T hs hx).2⟩
/-! ### Joins -/
end Sg
namespace Sg
open Go
set_option linter.unusedVariables false
set_option linter.unusedSimpArgs false
end Sg
namespace Sg
open Go
set_option linter.unusedVariables false
set_option linter.unusedSimpArgs false
open Classical in
theorem LeqR_at {t : List (List Int)} (hv : VT t = true) {a b : Nat} (ha : a < t.length) (hb : b < t.length) {K : Bool → Prop} (h : K (decide (leR t a b))) : green_LeqR t (a : Int) (b : Int) K := by
  refine LeqR_ok (fun _ a' b' _ _ ea eb r hr => ?_) fun hn => absurd ⟨hv, by omega, by omega, by omega, by omega⟩ hn
  obtain rfl : a' = a := by omega
  obtain rfl : b' = b := by omega
  have : r = decide (leR t a' b') := by rw [Bool.eq_iff_iff, hr, decide_eq_true_eq]
  rw [this]; exact h
open Classical in
theorem LeqL_at {t : List (List Int)} (hv : VT t = true) {a b : Nat} (ha : a < t.length) (hb : b < t.length) {K : Bool → Prop} (h : K (decide (leL t a b))) : green_LeqL t (a : Int) (b : Int) K := by
  refine LeqL_ok (fun _ a' b' _ _ ea eb r hr => ?_) fun hn => absurd ⟨hv, by omega, by omega, by omega, by omega⟩ hn
  obtain rfl : a' = a := by omega
  obtain rfl : b' = b := by omega
  have : r = decide (leL t a' b') := by rw [Bool.eq_iff_iff, hr, decide_eq_true_eq]
  rw [this]; exact h
open Classical in
theorem LeqJ_at {t : List (List Int)} (hv : VT t = true) {a b : Nat} (ha : a < t.length) (hb : b < t.length) {K : Bool → Prop} (h : K (decide (leJ t a b))) : green_LeqJ t (a : Int) (b : Int) K := by
  refine LeqJ_ok (fun _ a' b' _ _ ea eb r hr => ?_) fun hn => absurd ⟨hv, by omega, by omega, by omega, by omega⟩ hn
  obtain rfl : a' = a := by omega
  obtain rfl : b' = b := by omega
  have : r = decide (leJ t a' b') := by rw [Bool.eq_iff_iff, hr, decide_eq_true_eq]
  rw [this]; exact h
open Classical in
/-- Two questions, the second if the first says yes. -/
theorem jn_and {p q : Prop} {k : Bool → Prop} {body : (Bool → Prop) → Prop} (hb : ∀ X : Bool → Prop, (p → X (decide q)) → (¬ p → X false) → body X) (hk : k (decide (p ∧ q))) : Jn body k := by
  refine Jn.of _ (fun X hX => ?_) hk
  refine hb X (fun hp => ?_) fun hp => ?_
  · have : decide q = decide (p ∧ q) := by simp [hp]
    rw [this]; exact hX
  · rw [decide_eq_false fun h => hp h.1] at hX
    exact hX
theorem law15_GreenOrders_ok (t : List (List Int)) (x y z : Int) (hx : I64 x) (hy : I64 y) (hz : I64 z) : law15_GreenOrders t x y z (fun b => b = true) := by
  classical
  unfold law15_GreenOrders law15_GreenOrders_J1 law15_GreenOrders_J2 law15_GreenOrders_J3 law15_GreenOrders_J4 law15_GreenOrders_J5 law15_GreenOrders_J6 law15_GreenOrders_J7 law15_GreenOrders_J8 law15_GreenOrders_J9 law15_GreenOrders_J31 law15_GreenOrders_J32 law15_GreenOrders_J29 law15_GreenOrders_J30 law15_GreenOrders_J10 law15_GreenOrders_J25 law15_GreenOrders_J28 law15_GreenOrders_J27 law15_GreenOrders_J26 law15_GreenOrders_J21 law15_GreenOrders_J24 law15_GreenOrders_J23 law15_GreenOrders_J22 law15_GreenOrders_J11 law15_GreenOrders_J20 law15_GreenOrders_J19 law15_GreenOrders_J18 law15_GreenOrders_J12 law15_GreenOrders_J17 law15_GreenOrders_J16 law15_GreenOrders_J15 law15_GreenOrders_J13 law15_GreenOrders_J14 
  refine law15_small_ok ?_
  by_cases hs0 : (decide ((t.length : Int) ≤ 16) && VT t) = true
  · by_cases hin : inB t.length [x, y, z] = true
    · refine Jn.of false (fun X hX => ?_) ?_
      · rw [if_pos hs0]
        refine ref14_In_ok ?_
        rw [if_pos hin]; exact hX
      rw [if_neg Bool.false_ne_true]
      simp only [Bool.and_eq_true, decide_eq_true_eq] at hs0
      obtain ⟨h16, hv⟩ := hs0
      have T := SH.tb (VT.sh hv)
      have hb3 := inB3.1 hin
      obtain ⟨a, rfl⟩ := Int.eq_ofNat_of_zero_le hb3.1.1
      obtain ⟨b, rfl⟩ := Int.eq_ofNat_of_zero_le hb3.2.1.1
      obtain ⟨c, rfl⟩ := Int.eq_ofNat_of_zero_le hb3.2.2.1
      have ha : a < t.length := by omega
      have hb : b < t.length := by omega
      have hc : c < t.length := by omega
      refine green_Classes_ok (fun _ g hg => ?_) fun h => absurd hv h
      have l1 := hg.R.len
      have l2 := hg.L.len
      have l3 := hg.J.len
      have l4 := hg.H.len
      refine fun _ _ => Jn.of false (fun X hX => ?_) ?_
      · rw [if_pos (by omega)]
        refine fun _ => ?_
        rw [if_pos (by omega)]; exact hX
      refine Jn.of false (fun X hX => ?_) ?_
      · rw [if_neg Bool.false_ne_true]
        refine fun _ => ?_
        rw [if_pos (by omega)]; exact hX
      refine Jn.of false (fun X hX => ?_) ?_
      · rw [if_neg Bool.false_ne_true]
        refine fun _ => ?_
        rw [if_pos (by omega)]; exact hX
      rw [if_neg Bool.false_ne_true]
      have hra := T.row (a : Int) (by omega) (by omega)
      obtain ⟨hp, ep⟩ := mN_eq T ha hb
      have ep' : ix (ix t (a : Int)) (b : Int) = (mN t a b : Int) := ep
      have p1 := leR_mul T ha hb
      have p2 := leL_mul T hb ha
      refine ⟨by omega, by omega, by omega, by omega, ?_⟩
      rw [ep']
      refine LeqR_at hv hp ha ?_
      rw [decide_eq_true p1]
      refine Jn.of false (fun X hX => ?_) ?_
      · rw [if_pos rfl]
        refine LeqL_at hv hp hb ?_
        rw [decide_eq_true p2, if_pos rfl]; exact hX
      refine Jn.of false (fun X hX => ?_) ?_
      · rw [if_neg Bool.false_ne_true]
        refine LeqJ_at hv hp ha ?_
        rw [decide_eq_true (leR_J ha p1), if_pos rfl]; exact hX
      refine Jn.of false (fun X hX => ?_) ?_
      · rw [if_neg Bool.false_ne_true]
        refine LeqJ_at hv hp hb ?_
        rw [decide_eq_true (leL_J hp p2), if_pos rfl]; exact hX
      rw [if_neg Bool.false_ne_true]
      refine LeqR_at hv ha hb ?_
      refine jn_and (p := leR t a b) (q := leR t b c) (fun X h1 h2 => ?_) ?_
      · split
        · rename_i h; exact LeqR_at hv hb hc (h1 (of_decide_eq_true h))
        · rename_i h; exact h2 fun hh => h (decide_eq_true hh)
      refine Jn.of false (fun X hX => ?_) ?_
      · split
        · rename_i h
          have h' := of_decide_eq_true h
          refine LeqR_at hv ha hc ?_
          rw [decide_eq_true (leR_trans hv hc h'.1 h'.2), if_pos rfl]; exact hX
        · exact hX
      refine Jn.of false (fun X hX => ?_) ?_
      · rw [if_neg Bool.false_ne_true]
        refine LeqJ_at hv ha hb ?_
        refine jn_and (p := leJ t a b) (q := leJ t b c) (fun X h1 h2 => ?_) ?_
        · split
          · rename_i h; exact LeqJ_at hv hb hc (h1 (of_decide_eq_true h))
          · rename_i h; exact h2 fun hh => h (decide_eq_true hh)
        refine Jn.of false (fun X hX => ?_) hX
        split
        · rename_i h
          have h' := of_decide_eq_true h
          refine LeqJ_at hv ha hc ?_
          rw [decide_eq_true (leJ_trans hv hb hc h'.1 h'.2), if_pos rfl]; exact hX
        · exact hX
      rw [if_neg Bool.false_ne_true]
      have kR := hg.R.ker a b ha hb
      have kL := hg.L.ker a b ha hb
      have kJ := hg.J.ker a b ha hb
      have kH := hg.H.ker a b ha hb
      refine ⟨by omega, by omega, by omega, by omega, ?_⟩
      have partL : ∀ X : Bool → Prop, X true → (0 ≤ (a : Int) ∧ (a : Int) < (g.L.length : Int) ∧ (0 ≤ (b : Int) ∧ (b : Int) < (g.L.length : Int) ∧ (if (ix g.L (a : Int)) = (ix g.L (b : Int)) then (green_LeqL t (a : Int) (b : Int) fun r162 => (Jn (S := Bool) (fun X23 => (if r162 = true then (green_LeqL t (b : Int) (a : Int) fun r170 => (X23 r170)) else (X23 false))) (fun jb23_169 => (if jb23_169 = true then (X true) else (X false))))) else (green_LeqL t (a : Int) (b : Int) fun r176 => (Jn (S := Bool) (fun X24 => (if r176 = true then (green_LeqL t (b : Int) (a : Int) fun r184 => (X24 r184)) else (X24 false))) (fun jb24_183 => (if jb24_183 = true then (X false) else (X true)))))))) := by
        intro X hX
        refine ⟨by omega, by omega, by omega, by omega, ?_⟩
        split
        · rename_i h
          refine LeqL_at hv ha hb (jn_and (p := leL t a b) (q := leL t b a) (fun Y h1 h2 => ?_) ?_)
          · split
            · rename_i h; exact LeqL_at hv hb ha (h1 (of_decide_eq_true h))
            · rename_i h; exact h2 fun hh => h (decide_eq_true hh)
          · rw [decide_eq_true (show leL t a b ∧ leL t b a from kL.1 h), if_pos rfl]; exact hX
        · rename_i h
          refine LeqL_at hv ha hb (jn_and (p := leL t a b) (q := leL t b a) (fun Y h1 h2 => ?_) ?_)
          · split
            · rename_i h; exact LeqL_at hv hb ha (h1 (of_decide_eq_true h))
            · rename_i h; exact h2 fun hh => h (decide_eq_true hh)
          · rw [decide_eq_false (fun hh : leL t a b ∧ leL t b a => h (kL.2 hh)), if_neg Bool.false_ne_true]; exact hX
      refine Jn.of true (fun X hX => ?_) ?_
      · split
        · rename_i h
          refine LeqR_at hv ha hb (jn_and (p := leR t a b) (q := leR t b a) (fun Y h1 h2 => ?_) ?_)
          · split
            · rename_i h; exact LeqR_at hv hb ha (h1 (of_decide_eq_true h))
            · rename_i h; exact h2 fun hh => h (decide_eq_true hh)
          · rw [decide_eq_true (show leR t a b ∧ leR t b a from kR.1 h), if_pos rfl]
            exact partL X hX
        · rename_i h
          refine LeqR_at hv ha hb (jn_and (p := leR t a b) (q := leR t b a) (fun Y h1 h2 => ?_) ?_)
          · split
            · rename_i h; exact LeqR_at hv hb ha (h1 (of_decide_eq_true h))
            · rename_i h; exact h2 fun hh => h (decide_eq_true hh)
          · rw [decide_eq_false (fun hh : leR t a b ∧ leR t b a => h (kR.2 hh)), if_neg Bool.false_ne_true]
            exact partL X hX
      refine Jn.of true (fun X hX => ?_) ?_
      · rw [if_pos rfl]
        refine ⟨by omega, by omega, by omega, by omega, ?_⟩
        split
        · rename_i h
          refine LeqJ_at hv ha hb (jn_and (p := leJ t a b) (q := leJ t b a) (fun Y h1 h2 => ?_) ?_)
          · split
            · rename_i h; exact LeqJ_at hv hb ha (h1 (of_decide_eq_true h))
            · rename_i h; exact h2 fun hh => h (decide_eq_true hh)
          · rw [decide_eq_true (show leJ t a b ∧ leJ t b a from kJ.1 h), if_pos rfl]; exact hX
        · rename_i h
          refine LeqJ_at hv ha hb (jn_and (p := leJ t a b) (q := leJ t b a) (fun Y h1 h2 => ?_) ?_)
          · split
            · rename_i h; exact LeqJ_at hv hb ha (h1 (of_decide_eq_true h))
            · rename_i h; exact h2 fun hh => h (decide_eq_true hh)
          · rw [decide_eq_false (fun hh : leJ t a b ∧ leJ t b a => h (kJ.2 hh)), if_neg Bool.false_ne_true]; exact hX
      refine Jn.of true (fun X hX => ?_) ?_
      · rw [if_pos rfl]
        refine ⟨by omega, by omega, by omega, by omega, ?_⟩
        have inner : ∀ Y : Bool → Prop, (ix g.R (a : Int) = ix g.R (b : Int) → ix g.L (a : Int) = ix g.L (b : Int) → Y true) → (¬ (ix g.R (a : Int) = ix g.R (b : Int) ∧ ix g.L (a : Int) = ix g.L (b : Int)) → Y false) → (if (ix g.R (a : Int)) = (ix g.R (b : Int)) then (0 ≤ (a : Int) ∧ (a : Int) < (g.L.length : Int) ∧ (0 ≤ (b : Int) ∧ (b : Int) < (g.L.length : Int) ∧ (if (ix g.L (a : Int)) = (ix g.L (b : Int)) then (Y true) else (Y false)))) else (Y false)) := by
          intro Y h1 h2
          split
          · rename_i c1
            refine ⟨by omega, by omega, by omega, by omega, ?_⟩
            split
            · rename_i c2; exact h1 c1 c2
            · rename_i c2; exact h2 fun hh => c2 hh.2
          · rename_i c1; exact h2 fun hh => c1 hh.1
        split
        · rename_i h
          have hh := kH.1 h
          refine ⟨by omega, by omega, by omega, by omega, Jn.of true (fun Y hY => inner Y (fun _ _ => hY) fun hn => absurd ⟨kR.2 hh.1, kL.2 hh.2⟩ hn) ?_⟩
          rw [if_pos rfl]; exact hX
        · rename_i h
          refine ⟨by omega, by omega, by omega, by omega, Jn.of false (fun Y hY => inner Y (fun c1 c2 => absurd (kH.2 ⟨kR.1 c1, kL.1 c2⟩) h) fun _ => hY) ?_⟩
          rw [if_neg Bool.false_ne_true]; exact hX
      refine Jn.of true (fun X hX => ?_) rfl
      rw [if_pos rfl]
      exact law15_awake_ok hX
    · refine Jn.of true (fun X hX => ?_) ?_
      · rw [if_pos hs0]
        refine ref14_In_ok ?_
        rw [if_neg hin]; exact hX
      rw [if_pos rfl]
      exact law15_awake_ok rfl
  · refine Jn.of true (fun X hX => ?_) ?_
    · rw [if_neg hs0]; exact hX
    rw [if_pos rfl]
    exact law15_awake_ok rfl
end Sg
namespace Sg
open Go
set_option linter.unusedVariables false
set_option linter.unusedSimpArgs false

/-! ### What is needed -/
end Sg
