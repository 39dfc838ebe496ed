/- Green's relations of a table, and their depths. Plain laws. -/
import Derived.Test.YthobeabghciknaaGreenC
namespace Sg
open Go
set_option linter.unusedVariables false
set_option linter.unusedSimpArgs false
theorem leR_refl (t : List (List Int)) (x : Nat) : leR t x x := .inl rfl
theorem leL_refl (t : List (List Int)) (x : Nat) : leL t x x := .inl rfl
theorem mu_cl {t : List (List Int)} (T : Tb t t.length) {x y : Nat} (hx : x < t.length) (hy : y < t.length) : ∃ z : Nat, z < t.length ∧ mu t (x : Int) (y : Int) = (z : Int) := by
  have hb := T.mu (x := (x : Int)) (y := (y : Int)) (by omega) (by omega) (by omega) (by omega)
  obtain ⟨z, hz⟩ := Int.eq_ofNat_of_zero_le hb.1
  exact ⟨z, by omega, hz⟩
theorem leR_trans {t : List (List Int)} (hv : VT t = true) {x y z : Nat} (hz : z < t.length) (h : leR t x y) (k : leR t y z) : leR t x z := by
  have T := SH.tb (VT.sh hv)
  rcases h with rfl | ⟨s, hs, h⟩
  · exact k
  · rcases k with rfl | ⟨u, hu, k⟩
    · exact .inr ⟨s, hs, h⟩
    · obtain ⟨w, hw, e⟩ := mu_cl T hu hs
      refine .inr ⟨w, hw, ?_⟩
      rw [← e, ← VT.as hv z u s hz hu hs, k, h]
theorem leL_trans {t : List (List Int)} (hv : VT t = true) {x y z : Nat} (hz : z < t.length) (h : leL t x y) (k : leL t y z) : leL t x z := by
  have T := SH.tb (VT.sh hv)
  rcases h with rfl | ⟨s, hs, h⟩
  · exact k
  · rcases k with rfl | ⟨u, hu, k⟩
    · exact .inr ⟨s, hs, h⟩
    · obtain ⟨w, hw, e⟩ := mu_cl T hs hu
      refine .inr ⟨w, hw, ?_⟩
      rw [← e, VT.as hv s u z hs hu hz, k, h]
/-- One may go up on the left first. -/
theorem le_swap {t : List (List Int)} (hv : VT t = true) {x y z : Nat} (hx : x < t.length) (hz : z < t.length) (h : leL t x y) (k : leR t y z) : ∃ w : Nat, w < t.length ∧ leR t x w ∧ leL t w z := by
  have T := SH.tb (VT.sh hv)
  rcases h with rfl | ⟨s, hs, h⟩
  · exact ⟨z, hz, k, .inl rfl⟩
  · rcases k with rfl | ⟨u, hu, k⟩
    · exact ⟨x, hx, .inl rfl, .inr ⟨s, hs, h⟩⟩
    · obtain ⟨w, hw, e⟩ := mu_cl T hs hz
      refine ⟨w, hw, .inr ⟨u, hu, ?_⟩, .inr ⟨s, hs, e⟩⟩
      rw [← e, VT.as hv s z u hs hz hu, k, h]
theorem leJ_refl {t : List (List Int)} {x : Nat} (hx : x < t.length) : leJ t x x := ⟨x, hx, .inl rfl, .inl rfl⟩
theorem leJ_trans {t : List (List Int)} (hv : VT t = true) {x y z : Nat} (hy : y < t.length) (hz : z < t.length) (h : leJ t x y) (k : leJ t y z) : leJ t x z := by
  obtain ⟨a, ha, a1, a2⟩ := h
  obtain ⟨b, hb, b1, b2⟩ := k
  obtain ⟨w, hw, w1, w2⟩ := le_swap hv ha hb a1 b2
  exact ⟨w, hw, leL_trans hv hz w2 b1, leR_trans hv hw a2 w1⟩
theorem leR_J {t : List (List Int)} {x y : Nat} (hy : y < t.length) (h : leR t x y) : leJ t x y := ⟨y, hy, .inl rfl, h⟩
theorem leL_J {t : List (List Int)} {x y : Nat} (hx : x < t.length) (h : leL t x y) : leJ t x y := ⟨x, hx, h, .inl rfl⟩
def eR (t : List (List Int)) (x y : Nat) : Prop := leR t x y ∧ leR t y x
def eL (t : List (List Int)) (x y : Nat) : Prop := leL t x y ∧ leL t y x
def eJ (t : List (List Int)) (x y : Nat) : Prop := leJ t x y ∧ leJ t y x
/-- What Classes says. -/
structure GrOf (t : List (List Int)) (g : Green) : Prop where
  R : PartOf g.R t.length (eR t)
  L : PartOf g.L t.length (eL t)
  J : PartOf g.J t.length (eJ t)
  H : PartOf g.H t.length (fun i j => eR t i j ∧ eL t i j)
  cnt : IsCnt g.J (g.Below.length : Int)
  row : ∀ i : Nat, i < g.Below.length → (ix g.Below (i : Int)).length = g.Below.length
  bel : ∀ x y : Nat, x < t.length → y < t.length → (ix (ix g.Below (ix g.J (x : Int))) (ix g.J (y : Int)) = true ↔ leJ t x y)
theorem GrOf.cls {t : List (List Int)} {g : Green} (h : GrOf t g) {i : Nat} (hi : i < g.Below.length) : ∃ x : Nat, x < t.length ∧ ix g.J (x : Int) = (i : Int) := by
  obtain ⟨x, hx, he⟩ := (h.cnt.2 (i : Int)).1 ⟨by omega, by omega⟩
  exact ⟨x, by have := h.J.len; omega, he⟩
theorem GrOf.num {t : List (List Int)} {g : Green} (h : GrOf t g) {x : Nat} (hx : x < t.length) : ∃ i : Nat, i < g.Below.length ∧ ix g.J (x : Int) = (i : Int) := by
  have hl := h.J.len
  have := (h.cnt.2 (ix g.J (x : Int))).2 ⟨x, by omega, rfl⟩
  obtain ⟨i, hi⟩ := Int.eq_ofNat_of_zero_le this.1
  exact ⟨i, by omega, hi⟩
theorem GrOf.uniq {t : List (List Int)} {g g' : Green} (h : GrOf t g) (k : GrOf t g') : g = g' := by
  have h1 := h.R.uniq k.R fun _ _ _ _ => Iff.rfl
  have h2 := h.L.uniq k.L fun _ _ _ _ => Iff.rfl
  have h3 := h.J.uniq k.J fun _ _ _ _ => Iff.rfl
  have h4 := h.H.uniq k.H fun _ _ _ _ => Iff.rfl
  have hc := h.cnt
  rw [h3] at hc
  have h5 := hc.uniq k.cnt
  have h6 : g.Below = g'.Below := by
    refine list_ix (by omega) fun i hi => list_ix (by rw [h.row i hi, k.row i (by omega)]; omega) fun j hj => ?_
    rw [h.row i hi] at hj
    obtain ⟨x, hx, ex⟩ := h.cls hi
    obtain ⟨y, hy, ey⟩ := h.cls hj
    have b1 := h.bel x y hx hy
    have b2 := k.bel x y hx hy
    rw [← h3] at b2
    rw [ex, ey] at b1 b2
    rw [Bool.eq_iff_iff, b1, b2]
  cases g; cases g'
  simp only at h1 h2 h3 h4 h6
  rw [h1, h2, h3, h4, h6]
theorem clsF_head {p : List Int} {c v : Nat} (hc : IsCnt p (c : Int)) (hv : v < c) : ∃ f : Nat, f < p.length ∧ ix (ix (clsF p c) (v : Int)) 0 = (f : Int) ∧ ix p (f : Int) = (v : Int) ∧ 0 < (ix (clsF p c) (v : Int)).length := by
  rw [ix_clsF hv]
  obtain ⟨j, hj, he⟩ := (hc.2 (v : Int)).1 ⟨by omega, by omega⟩
  have hm : (j : Int) ∈ (iota p.length).filter fun i => decide (ix p i = (v : Int)) := by
    rw [List.mem_filter, mem_iota, decide_eq_true_eq]; exact ⟨⟨by omega, by omega⟩, he⟩
  have hl : 0 < ((iota p.length).filter fun i => decide (ix p i = (v : Int))).length := List.length_pos_of_mem hm
  have h0 := ix_mem (xs := (iota p.length).filter fun i => decide (ix p i = (v : Int))) (i := 0) (by omega) (by omega)
  rw [List.mem_filter, mem_iota, decide_eq_true_eq] at h0
  obtain ⟨f, hf⟩ := Int.eq_ofNat_of_zero_le h0.1.1
  exact ⟨f, by omega, hf, by rw [← hf]; exact h0.2, hl⟩
/-- Between classes it does not matter which elements are asked. -/
theorem bel_of {t : List (List Int)} (hv : VT t = true) {p : List Int} (hp : PartOf p t.length (eJ t)) {x y f g : Nat} (hx : x < t.length) (hy : y < t.length) (hf : f < t.length) (hg : g < t.length) (h1 : ix p (x : Int) = ix p (f : Int)) (h2 : ix p (y : Int) = ix p (g : Int)) : leJ t x y ↔ leJ t f g := by
  have a := (hp.ker x f hx hf).1 h1
  have b := (hp.ker y g hy hg).1 h2
  exact ⟨fun h => leJ_trans hv hx hg a.2 (leJ_trans hv hy hg h b.1), fun h => leJ_trans hv hf hy a.1 (leJ_trans hv hg hy h b.2)⟩
theorem green_Classes_ok {t : List (List Int)} {K : Green → Prop} (h1 : VT t = true → ∀ g, GrOf t g → K g) (h2 : ¬ VT t = true → K ⟨[], [], [], [], []⟩) : green_Classes t K := by
  unfold green_Classes
  refine mult_Validate_ok ?_
  by_cases h0 : vaC t = 0
  · rw [if_pos h0]
    have hv := vaC0.1 h0
    have hs := VT.sh hv
    have T := SH.tb hs
    have n4 := T.n4
    refine rightIdeals_ok hs fun rr hrr => leftIdeals_ok hs fun rl hrl => twoSided_ok n4 hrr hrl fun rj hrj => ?_
    have hrj' : IdF t.length rj (leJ t) := hrj
    refine green_mutual_ok n4 hrr (fun i _ => leR_refl t i) (fun i j k hi hj hk => leR_trans hv hk) fun pR hR => ?_
    refine green_mutual_ok n4 hrl (fun i _ => leL_refl t i) (fun i j k hi hj hk => leL_trans hv hk) fun pL hL => ?_
    refine green_mutual_ok n4 hrj' (fun i hi => leJ_refl hi) (fun i j k hi hj hk => leJ_trans hv hj hk) fun pJ hJ => ?_
    have hJl := hJ.len
    refine partition_Meet_ok n4 hR hL fun pH hH => partition_Classes_ok hJ.can (by omega) fun c hc => ?_
    have hcl := cnt_le hJ.can hc
    have hrjl := hrj'.len
    rw [clsF_len]
    refine fun _ => ⟨by omega, by omega, ?_⟩
    refine LoopWP.fold c (fun k (d : List (List Bool)) => d.length = c ∧ ∀ i : Nat, i < k → (ix d (i : Int)).length = c ∧ ∀ x y j : Nat, x < t.length → y < t.length → ix pJ (x : Int) = (i : Int) → ix pJ (y : Int) = (j : Int) → (ix (ix d (i : Int)) (j : Int) = true ↔ leJ t x y)) ⟨by simp, fun i hi => by omega⟩ ?_
    rintro k d X hk ⟨hd, hI⟩ hX
    show green_Classes_L1 rj pR pL pJ pH (clsF pJ c) K _ k d
    unfold green_Classes_L1
    rw [clsF_len]
    split
    · have hkc : k < c := by omega
      obtain ⟨f, hf, ef, pf, lf⟩ := clsF_head hc hkc
      refine ⟨by omega, by omega, by omega, by omega, by omega, by omega, ?_⟩
      refine LoopWP.fold c (fun m (q : List (List Bool)) => ∃ row, q = st d (k : Int) row ∧ row.length = c ∧ ∀ x y j : Nat, j < m → x < t.length → y < t.length → ix pJ (x : Int) = (k : Int) → ix pJ (y : Int) = (j : Int) → (ix row (j : Int) = true ↔ leJ t x y)) ⟨_, rfl, by simp, fun x y j hj => by omega⟩ ?_
      rintro m q X2 hm ⟨row, rfl, hrow, hJ2⟩ hX2
      show green_Classes_L2 rj (clsF pJ c) k _ K _ m _
      unfold green_Classes_L2
      rw [clsF_len]
      split
      · have hmc : m < c := by omega
        obtain ⟨u, hu, eu, pu, lu⟩ := clsF_head hc hmc
        rw [ef, eu, ix_st_same (by omega)]
        refine ⟨by omega, by omega, by omega, by rw [st_length]; omega, by omega, by omega, by omega, by omega, by omega, by omega, has_ok n4 (hrj'.wd u (by omega)) (by omega) ⟨by omega, by omega, hX2 _ hmc ⟨_, st_st, by rw [st_length]; exact hrow, fun x y j hj hx hy ex ey => ?_⟩⟩⟩
        rw [ix_st _ (by omega) (by omega) (by omega)]
        by_cases hjm : j = m
        · subst hjm
          rw [if_pos rfl, hrj'.has f u (by omega) (by omega)]
          exact (bel_of hv hJ hx hy (by omega) (by omega) (by rw [ex, pf]) (by rw [ey, pu])).symm
        · rw [if_neg (by omega)]; exact hJ2 x y j (by omega) hx hy ex ey
      · obtain rfl : m = c := by omega
        refine hX _ hkc ⟨by rw [st_length]; exact hd, fun i hi => ?_⟩
        rw [ix_st _ (by omega) (by omega) (by omega)]
        by_cases hik : i = k
        · subst hik
          rw [if_pos rfl]
          refine ⟨hrow, fun x y j hx hy ex ey => hJ2 x y j ?_ hx hy ex ey⟩
          have := (hc.2 (j : Int)).2 ⟨y, by omega, ey⟩
          omega
        · rw [if_neg (by omega)]; exact hI i (by omega)
    · obtain rfl : k = c := by omega
      refine h1 hv _ ⟨hR, hL, hJ, hH, by simp only; rw [hd]; exact hc, fun i hi => ?_, fun x y hx hy => ?_⟩
      · simp only at hi ⊢
        rw [(hI i (by omega)).1, hd]
      · simp only
        have a1 := (hc.2 (ix pJ (x : Int))).2 ⟨x, by omega, rfl⟩
        have a2 := (hc.2 (ix pJ (y : Int))).2 ⟨y, by omega, rfl⟩
        obtain ⟨i, hi⟩ := Int.eq_ofNat_of_zero_le a1.1
        obtain ⟨j, hj⟩ := Int.eq_ofNat_of_zero_le a2.1
        rw [hi] at a1 ⊢
        rw [hj]
        exact (hI i (by omega)).2 x y j hx hy hi hj
  · rw [if_neg h0]
    exact h2 fun hv => h0 (vaC0.2 hv)
theorem ref15_Classes_ok {t : List (List Int)} (hv : VT t = true) {K : Green → Prop} (h1 : ∀ g, GrOf t g → K g) : ref15_Classes t K := by
  have hs := VT.sh hv
  have T := SH.tb hs
  have n4 := T.n4
  unfold ref15_Classes
  refine ref15_ideals_ok (le := leR t) hs (fun x K hx hk => by rw [if_pos rfl]; exact ref15_Right_ok hs hx hk) fun rr hrr => ?_
  refine ref15_mutual_ok n4 hrr (fun i _ => leR_refl t i) (fun i j k hi hj hk => leR_trans hv hk) fun pR hR => ?_
  refine ref15_ideals_ok (le := leL t) hs (fun x K hx hk => by rw [if_neg (by decide), if_pos rfl]; exact ref15_Left_ok hs hx hk) fun rl hrl => ?_
  refine ref15_mutual_ok n4 hrl (fun i _ => leL_refl t i) (fun i j k hi hj hk => leL_trans hv hk) fun pL hL => ?_
  refine ref15_ideals_ok (le := leJ t) hs (fun x K hx hk => by rw [if_neg (by decide), if_neg (by decide)]; exact ref15_Both_ok hs hx hk) fun rj hrj => ?_
  refine ref15_mutual_ok n4 hrj (fun i hi => leJ_refl hi) (fun i j k hi hj hk => leJ_trans hv hj hk) fun pJ hJ => ?_
  have hJl := hJ.len
  refine ref03_Meet_ok n4 hR hL fun pH hH => ref03_Classes_ok hJ.can (by omega) fun c hc => ?_
  have hcl := cnt_le hJ.can hc
  have hrjl := hrj.len
  rw [clsF_len]
  refine fun _ => ?_
  refine LoopWP.fold c (fun k (d : List (List Bool)) => d.length = k ∧ ∀ i : Nat, i < k → (ix d (i : Int)).length = c ∧ ∀ x y j : Nat, x < t.length → y < t.length → ix pJ (x : Int) = (i : Int) → ix pJ (y : Int) = (j : Int) → (ix (ix d (i : Int)) (j : Int) = true ↔ leJ t x y)) ⟨rfl, fun i hi => by omega⟩ ?_
  rintro k d X hk ⟨hd, hI⟩ hX
  show ref15_Classes_L1 pR pL rj pJ pH (clsF pJ c) K _ k d
  unfold ref15_Classes_L1
  rw [clsF_len]
  split
  · have hkc : k < c := by omega
    obtain ⟨f, hf, ef, pf, lf⟩ := clsF_head hc hkc
    refine ⟨by omega, by omega, ?_⟩
    refine LoopWP.fold c (fun m (row : List Bool) => row.length = m ∧ ∀ x y j : Nat, j < m → x < t.length → y < t.length → ix pJ (x : Int) = (k : Int) → ix pJ (y : Int) = (j : Int) → (ix row (j : Int) = true ↔ leJ t x y)) ⟨rfl, fun x y j hj => by omega⟩ ?_
    rintro m row X2 hm ⟨hrow, hJ2⟩ hX2
    show ref15_Classes_L2 rj (clsF pJ c) k d _ K _ m row
    unfold ref15_Classes_L2
    rw [clsF_len]
    split
    · have hmc : m < c := by omega
      obtain ⟨u, hu, eu, pu, lu⟩ := clsF_head hc hmc
      have hw := (hrj.at_ u (by omega)).len
      have hh := (hrj.at_ u (by omega)).has f (by omega)
      rw [ef, eu]
      have step : ∀ b : Bool, (b = true ↔ leJ t f u) → (row ++ [b]).length = m + 1 ∧ ∀ x y j : Nat, j < m + 1 → x < t.length → y < t.length → ix pJ (x : Int) = (k : Int) → ix pJ (y : Int) = (j : Int) → (ix (row ++ [b]) (j : Int) = true ↔ leJ t x y) := by
        intro b hb
        refine ⟨by simp [hrow], fun x y j hj hx hy ex ey => ?_⟩
        by_cases hjm : j = m
        · subst hjm
          have e : ix (row ++ [b]) (j : Int) = b := by rw [ix_eq (by simp [hrow])]; simp [hrow]
          rw [e, hb]
          exact (bel_of hv hJ hx hy (by omega) (by omega) (by rw [ex, pf]) (by rw [ey, pu])).symm
        · rw [ix_app (by omega)]; exact hJ2 x y j (by omega) hx hy ex ey
      refine ⟨by omega, by omega, by omega, by omega, by omega, by omega, by omega, by omega, by omega, by omega, ?_⟩
      split
      · rename_i hb
        exact ⟨by simp; omega, hX2 _ hmc (step true ⟨fun _ => hh.1 hb, fun _ => rfl⟩)⟩
      · rename_i hb
        exact ⟨by simp; omega, hX2 _ hmc (step false ⟨(fun h => by cases h), fun h => absurd (hh.2 h) hb⟩)⟩
    · obtain rfl : m = c := by omega
      refine ⟨by simp; omega, hX _ hkc ⟨by simp [hd], fun i hi => ?_⟩⟩
      by_cases hik : i = k
      · subst hik
        have e : ix (d ++ [row]) (i : Int) = row := by rw [ix_eq (by simp [hd])]; simp [hd]
        rw [e]
        refine ⟨hrow, fun x y j hx hy ex ey => hJ2 x y j ?_ hx hy ex ey⟩
        have := (hc.2 (j : Int)).2 ⟨y, by omega, ey⟩
        omega
      · rw [ix_app (by omega)]; exact hI i (by omega)
  · obtain rfl : k = c := by omega
    refine h1 _ ⟨hR, hL, hJ, hH, by simp only; rw [hd]; exact hc, fun i hi => ?_, fun x y hx hy => ?_⟩
    · simp only at hi ⊢
      rw [(hI i (by omega)).1, hd]
    · simp only
      have a1 := (hc.2 (ix pJ (x : Int))).2 ⟨x, by omega, rfl⟩
      have a2 := (hc.2 (ix pJ (y : Int))).2 ⟨y, by omega, rfl⟩
      obtain ⟨i, hi⟩ := Int.eq_ofNat_of_zero_le a1.1
      obtain ⟨j, hj⟩ := Int.eq_ofNat_of_zero_le a2.1
      rw [hi] at a1 ⊢
      rw [hj]
      exact (hI i (by omega)).2 x y j hx hy hi hj
theorem ref15_Same_ok {g : Green} (hr : ∀ i : Nat, i < g.Below.length → (ix g.Below (i : Int)).length ≤ mx) (hb : g.Below.length ≤ mx) {K : Bool → Prop} (h : K true) : ref15_Same g g K := by
  unfold ref15_Same
  refine ref03_Same_ok ?_
  rw [decide_eq_true rfl, if_pos rfl]
  refine ref03_Same_ok ?_
  rw [decide_eq_true rfl, if_pos rfl]
  refine ref03_Same_ok ?_
  rw [decide_eq_true rfl, if_pos rfl]
  refine ref03_Same_ok ?_
  rw [decide_eq_true rfl, if_pos rfl]
  refine fun _ _ => ?_
  rw [if_pos rfl]
  refine LoopWP.scan g.Below.length (fun _ => True) ?_
  rintro k X hk _ hX
  show ref15_Same_L1 g g K X k
  unfold ref15_Same_L1
  split
  · refine ⟨by omega, by omega, fun _ => ⟨by omega, by omega, fun _ => ?_⟩⟩
    rw [if_pos rfl]
    refine ⟨by omega, by omega, ?_⟩
    refine LoopWP.scan (ix g.Below (k : Int)).length (fun _ => True) ?_
    rintro m X2 hm _ hX2
    show ref15_Same_L2 g g k X K X2 m
    unfold ref15_Same_L2
    split
    · refine ⟨by omega, by omega, by omega, by omega, ?_⟩
      split
      · rename_i hb
        refine ⟨by omega, by omega, by omega, by omega, ?_⟩
        first | rw [if_pos hb]; exact hX2 (by omega) trivial | exact hX2 (by omega) trivial
      · rename_i hb
        refine ⟨by omega, by omega, by omega, by omega, ?_⟩
        first | rw [if_neg hb]; exact hX2 (by omega) trivial | exact hX2 (by omega) trivial
    · exact hX (by omega) trivial
  · exact h
end Sg
