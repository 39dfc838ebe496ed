/- Green's relations: the reference's depths, the sanity check, the first laws. Plain laws. -/
import Derived.Test.YthobeabghciknaaGreenE
namespace Sg
open Go
set_option linter.unusedVariables false
set_option linter.unusedSimpArgs false
theorem ref15_Heights_ok {t : List (List Int)} (hv : VT t = true) {g : Green} (hg : GrOf t g) {D : Nat → Nat} (hD : Dep g.Below.length (belG g) D) {K : List Int → Prop} (h : K (dL g.Below.length D)) : ref15_Heights t K := by
  have n4 := (SH.tb (VT.sh hv)).n4
  have hc4 := hg.small
  unfold ref15_Heights
  refine ref15_Classes_ok hv fun g' hg' => ?_
  obtain rfl := hg.uniq hg'
  refine fun _ => ⟨by omega, by omega, ?_⟩
  have hrow := hg.row
  refine LoopWP.fold g.Below.length (fun k (q : List Int) => q.length = g.Below.length ∧ ∀ i : Nat, i < g.Below.length → ∃ v : Nat, ix q (i : Int) = (v : Int) ∧ v ≤ D i ∧ min k (D i) ≤ v) ⟨by simp, fun i hi => ⟨0, by rw [ix_replicate _ _ (by omega)]; rfl, by omega, by omega⟩⟩ ?_
  rintro k q X hk ⟨hq, hI⟩ hX
  show ref15_Heights_L1 g K _ k q
  unfold ref15_Heights_L1
  rw [hq]
  split
  · refine LoopWP.fold g.Below.length (fun m (r : List Int) => r.length = g.Below.length ∧ (∀ i : Nat, i < g.Below.length → ∃ v : Nat, ix r (i : Int) = (v : Int) ∧ v ≤ D i ∧ min k (D i) ≤ v) ∧ ∀ i : Nat, i < m → ∃ v : Nat, ix r (i : Int) = (v : Int) ∧ min (k + 1) (D i) ≤ v) ⟨hq, hI, fun i hi => by omega⟩ ?_
    rintro m r X2 hm ⟨hr, hJ, hJ2⟩ hX2
    show ref15_Heights_L2 g k q _ K _ m r
    unfold ref15_Heights_L2
    rw [hq]
    split
    · have hmc : m < g.Below.length := by omega
      refine LoopWP.fold g.Below.length (fun j (s : List Int) => s.length = g.Below.length ∧ (∀ i : Nat, i < g.Below.length → ∃ v : Nat, ix s (i : Int) = (v : Int) ∧ v ≤ D i ∧ min k (D i) ≤ v) ∧ (∀ i : Nat, i < m → ∃ v : Nat, ix s (i : Int) = (v : Int) ∧ min (k + 1) (D i) ≤ v) ∧ ∀ l : Nat, l < j → l ≠ m → belG g m l → ∃ v : Nat, ix s (m : Int) = (v : Int) ∧ min k (D l) + 1 ≤ v) ⟨hr, hJ, hJ2, fun l hl => by omega⟩ ?_
      rintro j s X3 hj ⟨hs, hA, hB, hC⟩ hX3
      show ref15_Heights_L3 g m r _ K _ j s
      unfold ref15_Heights_L3
      rw [hr]
      have hrm := hrow m hmc
      split
      · have hjc : j < g.Below.length := by omega
        split
        · rename_i hmj
          refine ⟨⟨by omega, by omega⟩, hX3 _ hjc ⟨hs, hA, hB, fun l hl hne hb => hC l (by omega) hne hb⟩⟩
        · rename_i hmj
          have hne : j ≠ m := by omega
          refine ⟨by omega, by omega, by omega, by omega, ?_⟩
          split
          · rename_i hb
            have hup := hD.up m j hmc hjc hne hb
            obtain ⟨v, ev, v1, v2⟩ := hA j hjc
            obtain ⟨u, eu, u1, u2⟩ := hA m hmc
            have hDm := hD.le m hmc
            refine ⟨by omega, by omega, by omega, by omega, ⟨by omega, by omega⟩, ?_⟩
            rw [ev, eu]
            have e : ∀ w : Int, ∀ i : Nat, i < g.Below.length → ix (st s (m : Int) w) (i : Int) = if i = m then w else ix s (i : Int) := fun w i hi => by
              rw [ix_st _ (by omega) (by omega) (by omega)]
              by_cases him : i = m
              · rw [if_pos (by omega), if_pos him]
              · rw [if_neg (by omega), if_neg him]
            have fin : ∀ w : Nat, u ≤ w → v + 1 ≤ w → w ≤ D m → X3 (j + 1, st s (m : Int) (w : Int)) := by
              intro w w1 w2 w3
              refine hX3 _ hjc ⟨by rw [st_length]; exact hs, fun i hi => ?_, fun i hi => ?_, fun l hl hnl hbl => ?_⟩
              · rw [e _ i hi]
                by_cases him : i = m
                · subst him; rw [if_pos rfl]; exact ⟨w, rfl, w3, by omega⟩
                · rw [if_neg him]; exact hA i hi
              · rw [e _ i (by omega), if_neg (by omega)]; exact hB i hi
              · rw [e _ m hmc, if_pos rfl]
                refine ⟨w, rfl, ?_⟩
                by_cases hlj : l = j
                · subst hlj; omega
                · obtain ⟨y, ey, y1⟩ := hC l (by omega) hnl hbl
                  rw [eu] at ey
                  omega
            split
            · refine ⟨by omega, by omega, ⟨by omega, by omega⟩, ?_⟩
              exact fin (v + 1) (by omega) (by omega) (by omega)
            · exact ⟨by omega, by omega, ⟨by omega, by omega⟩, fin u (by omega) (by omega) u1⟩
          · rename_i hb
            refine ⟨⟨by omega, by omega⟩, hX3 _ hjc ⟨hs, hA, hB, fun l hl hnl hbl => ?_⟩⟩
            by_cases hlj : l = j
            · subst hlj; exact absurd hbl hb
            · exact hC l (by omega) hnl hbl
      · obtain rfl : j = g.Below.length := by omega
        refine ⟨⟨by omega, by omega⟩, hX2 _ hmc ⟨hs, hA, fun i hi => ?_⟩⟩
        by_cases him : i = m
        · subst him
          obtain ⟨u, eu, u1, u2⟩ := hA i hmc
          refine ⟨u, eu, ?_⟩
          rcases hD.at_ i hmc with h0 | ⟨l, hl, hnl, hbl, hDl⟩
          · omega
          · obtain ⟨y, ey, y1⟩ := hC l hl hnl hbl
            rw [eu] at ey
            omega
        · exact hB i (by omega)
    · obtain rfl : m = g.Below.length := by omega
      refine ⟨⟨by omega, by omega⟩, hX _ (by omega) ⟨hr, fun i hi => ?_⟩⟩
      obtain ⟨u, eu, u1, u2⟩ := hJ i hi
      obtain ⟨y, ey, y1⟩ := hJ2 i hi
      exact ⟨u, eu, u1, by omega⟩
  · obtain rfl : k = g.Below.length := by omega
    rw [eq_dL hq fun i hi => ?_]
    · exact h
    · obtain ⟨u, eu, u1, u2⟩ := hI i hi
      have := hD.le i hi
      omega

/-! ### The sanity check -/
def leRb (t : List (List Int)) (x y : Nat) : Bool := decide (x = y) || (List.range t.length).any fun s => decide (mu t (y : Int) (s : Int) = (x : Int))
def leLb (t : List (List Int)) (x y : Nat) : Bool := decide (x = y) || (List.range t.length).any fun s => decide (mu t (s : Int) (y : Int) = (x : Int))
def leJb (t : List (List Int)) (x y : Nat) : Bool := (List.range t.length).any fun z => leLb t z y && leRb t x z
theorem leRb_iff {t : List (List Int)} {x y : Nat} : leRb t x y = true ↔ leR t x y := by
  simp only [leRb, leR, Bool.or_eq_true, decide_eq_true_eq, List.any_eq_true, List.mem_range]
theorem leLb_iff {t : List (List Int)} {x y : Nat} : leLb t x y = true ↔ leL t x y := by
  simp only [leLb, leL, Bool.or_eq_true, decide_eq_true_eq, List.any_eq_true, List.mem_range]
theorem leJb_iff {t : List (List Int)} {x y : Nat} : leJb t x y = true ↔ leJ t x y := by
  simp only [leJb, leJ, Bool.and_eq_true, List.any_eq_true, List.mem_range, leLb_iff, leRb_iff]
def flipT : List (List Int) := [[0, 1, 2], [1, 0, 2], [2, 2, 2]]
theorem flip_VT : VT flipT = true := by
  have h1 : SH flipT = true := by decide
  have h2 : AS flipT := by
    intro x y z hx hy hz
    have hx' : x = 0 ∨ x = 1 ∨ x = 2 := by have : flipT.length = 3 := rfl; omega
    have hy' : y = 0 ∨ y = 1 ∨ y = 2 := by have : flipT.length = 3 := rfl; omega
    have hz' : z = 0 ∨ z = 1 ∨ z = 2 := by have : flipT.length = 3 := rfl; omega
    rcases hx' with rfl | rfl | rfl <;> rcases hy' with rfl | rfl | rfl <;> rcases hz' with rfl | rfl | rfl <;> rfl
  simp only [VT, h1, Bool.true_and, decide_eq_true_eq]
  exact h2
theorem flip_J : PartOf [0, 0, 1] flipT.length (eJ flipT) := by
  refine ⟨rfl, fun k hk => ?_, fun i j hi hj => ?_⟩
  · have hk' : k = 0 ∨ k = 1 ∨ k = 2 := by simp only [List.length_cons, List.length_nil] at hk; omega
    rcases hk' with rfl | rfl | rfl
    · exact ⟨by decide, fun v h0 h1 => by have : ix [(0 : Int), 0, 1] ((0 : Nat) : Int) = 0 := rfl; omega⟩
    · exact ⟨by decide, fun v h0 h1 => by have : ix [(0 : Int), 0, 1] ((1 : Nat) : Int) = 0 := rfl; omega⟩
    · refine ⟨by decide, fun v h0 h1 => ⟨0, by omega, ?_⟩⟩
      have : ix [(0 : Int), 0, 1] ((2 : Nat) : Int) = 1 := rfl
      have : ix [(0 : Int), 0, 1] ((0 : Nat) : Int) = 0 := rfl
      omega
  · have hi' : i = 0 ∨ i = 1 ∨ i = 2 := by have : flipT.length = 3 := rfl; omega
    have hj' : j = 0 ∨ j = 1 ∨ j = 2 := by have : flipT.length = 3 := rfl; omega
    unfold eJ
    rw [← leJb_iff, ← leJb_iff]
    rcases hi' with rfl | rfl | rfl <;> rcases hj' with rfl | rfl | rfl <;> decide
theorem flip_cnt : IsCnt [0, 0, 1] 2 := by
  refine cnt_of flip_J.can (by decide) (fun j hj => ?_) (.inr ⟨2, by decide, by decide⟩)
  have hj' : j = 0 ∨ j = 1 ∨ j = 2 := by simp only [List.length_cons, List.length_nil] at hj; omega
  rcases hj' with rfl | rfl | rfl <;> decide
theorem law15_awake_ok {K : Bool → Prop} (h : K true) : law15_awake K := by
  unfold law15_awake law15_flip
  refine green_Classes_ok (t := flipT) (fun hv g hg => ?_) fun hv => absurd flip_VT hv
  have hJ : g.J = [0, 0, 1] := hg.J.uniq flip_J fun _ _ _ _ => Iff.rfl
  have hc := hg.cnt
  rw [hJ] at hc
  have hc2 := hc.uniq flip_cnt
  refine ref03_Same_ok ?_
  rw [hJ, decide_eq_true rfl, if_pos rfl]
  refine fun _ => ?_
  rw [if_pos hc2]
  refine green_Heights_ok (t := flipT) (fun hv g' D hg' hD => ?_) fun hv => absurd flip_VT hv
  obtain rfl := hg.uniq hg'
  have hl : g.Below.length = 2 := by omega
  rw [hl] at hD ⊢
  have b0 := hg.bel 0 2 (by decide) (by decide)
  have b1 := hg.bel 2 0 (by decide) (by decide)
  rw [hJ] at b0 b1
  have n0 : ¬ belG g 0 1 := fun hh => by
    have := b0.1 hh
    rw [← leJb_iff] at this
    revert this; decide
  have y1 : belG g 1 0 := b1.2 (leJb_iff.1 (by decide))
  have d0 : D 0 = 0 := by
    rcases hD.at_ 0 (by omega) with h0 | ⟨j, hj, hne, hb, _⟩
    · exact h0
    · obtain rfl : j = 1 := by omega
      exact absurd hb n0
  have d1 : D 1 = 1 := by
    have h1 := hD.up 1 0 (by omega) (by omega) (by omega) y1
    rcases hD.at_ 1 (by omega) with h0 | ⟨j, hj, hne, hb, he⟩
    · omega
    · obtain rfl : j = 0 := by omega
      omega
  have e : dL 2 D = [0, 1] := by
    show [(D 0 : Int), (D 1 : Int)] = _
    rw [d0, d1]; rfl
  refine ref03_Same_ok ?_
  rw [e, decide_eq_true rfl]
  exact h
theorem law15_large_ok {t : List (List Int)} {m : Int} {K : Bool → Prop} (h : K (decide (m < (t.length : Int)) && SH t)) : law15_large t m K := by
  unfold law15_large
  intro _
  split
  · rename_i hm
    refine ref14_Shape_ok ?_
    by_cases hs : shC t = 0
    · rw [if_pos hs]
      rw [decide_eq_true hm, shC0.1 hs] at h
      exact h
    · rw [if_neg hs]
      have : SH t = false := by
        cases hh : SH t with
        | false => rfl
        | true => exact absurd (shC0.2 hh) hs
      rw [this, Bool.and_false] at h
      exact h
  · rename_i hm
    rw [decide_eq_false hm, Bool.false_and] at h
    exact h
theorem law15_small_ok {t : List (List Int)} {m : Int} {K : Bool → Prop} (h : K (decide ((t.length : Int) ≤ m) && VT t)) : law15_small t m K := by
  unfold law15_small
  refine fun _ => ?_
  split
  · rename_i hl
    refine ref14_Valid_ok ?_
    simpa [hl] using h
  · rename_i hl
    simpa [hl] using h
theorem GrOf.bounds {t : List (List Int)} (hv : VT t = true) {g : Green} (h : GrOf t g) : g.Below.length ≤ mx ∧ ∀ i : Nat, i < g.Below.length → (ix g.Below (i : Int)).length ≤ mx := by
  have n4 := (SH.tb (VT.sh hv)).n4
  have := h.small
  unfold mx
  exact ⟨by omega, fun i hi => by rw [h.row i hi]; omega⟩
theorem law15_GreenClasses_ok (t : List (List Int)) : law15_GreenClasses t (fun b => b = true) := by
  unfold law15_GreenClasses
  refine law15_large_ok ?_
  split
  · exact law15_awake_ok rfl
  · refine green_Classes_ok (fun hv g hg => ?_) fun hv => ?_
    · refine ref14_Valid_ok ?_
      rw [if_pos hv]
      refine ref15_Classes_ok hv fun g' hg' => ?_
      obtain rfl := hg.uniq hg'
      refine ref15_Same_ok (hg.bounds hv).2 (hg.bounds hv).1 ?_
      rw [if_pos rfl]
      exact law15_awake_ok rfl
    · refine ref14_Valid_ok ?_
      rw [if_neg hv]
      refine ref15_Same_ok (fun i hi => absurd hi (Nat.not_lt_zero _)) (Nat.zero_le _) ?_
      rw [if_pos rfl]
      exact law15_awake_ok rfl
theorem law15_GreenHeights_ok (t : List (List Int)) : law15_GreenHeights t (fun b => b = true) := by
  unfold law15_GreenHeights
  refine law15_large_ok ?_
  split
  · exact law15_awake_ok rfl
  · refine green_Heights_ok (fun hv g D hg hD => ?_) fun hv => ?_
    · have n4 := (SH.tb (VT.sh hv)).n4
      have hc4 := hg.small
      refine ref14_Valid_ok ?_
      rw [if_pos hv]
      refine ref15_Classes_ok hv fun g' hg' => ?_
      obtain rfl := hg.uniq hg'
      refine ref15_Heights_ok hv hg hD (ref03_Same_ok ?_)
      rw [decide_eq_true rfl, if_pos rfl]
      refine fun _ => LoopWP.scan g.Below.length (fun _ => True) ?_
      rintro k X hk _ hX
      show law15_GreenHeights_L1 (dL g.Below.length D) g _ X k
      unfold law15_GreenHeights_L1
      split
      · have hkc : k < g.Below.length := by omega
        refine LoopWP.scan g.Below.length (fun _ => True) ?_
        rintro m X2 hm _ hX2
        show law15_GreenHeights_L2 (dL g.Below.length D) g k X _ X2 m
        unfold law15_GreenHeights_L2
        have hrow := hg.row k hkc
        split
        · have hmc : m < g.Below.length := by omega
          split
          · exact hX2 (by omega) trivial
          · rename_i hkm
            refine ⟨by omega, by omega, by omega, by omega, ?_⟩
            split
            · rename_i hb
              have := hD.up k m hkc hmc (by omega) hb
              rw [ix_dL hkc, ix_dL hmc, dL_len]
              refine ⟨by omega, by omega, by omega, by omega, ?_⟩
              rw [if_neg (by omega)]
              exact hX2 (by omega) trivial
            · exact hX2 (by omega) trivial
        · exact hX (by omega) trivial
      · exact law15_awake_ok rfl
    · refine ref14_Valid_ok ?_
      rw [if_neg hv]
      refine fun _ => ?_
      rw [if_pos (show (([] : List Int).length : Int) = 0 from rfl)]
      exact law15_awake_ok rfl
end Sg
