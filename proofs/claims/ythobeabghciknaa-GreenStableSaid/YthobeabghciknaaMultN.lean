/- Tables: the tables of subsets. Plain laws. -/
import Derived.Test.YthobeabghciknaaMultM
namespace Sg
open Go
set_option linter.unusedVariables false
set_option linter.unusedSimpArgs false

/-- Where x lies among the first k of the set; -1: nowhere. -/
def posR (s : List Int) : Nat → Int → Int
  | 0, _ => -1
  | k + 1, x => if x = ix s (k : Int) then (k : Int) else posR s k x
def subRow (t : List (List Int)) (s : List Int) (i : Int) : List Int := (iota s.length).map fun j => posR s s.length (mu t (ix s i) (ix s j))
def subTab (t : List (List Int)) (s : List Int) : List (List Int) := (iota s.length).map (subRow t s)
@[simp] theorem subRow_len {t : List (List Int)} {s : List Int} {i : Int} : (subRow t s i).length = s.length := by simp [subRow]
@[simp] theorem subTab_len {t : List (List Int)} {s : List Int} : (subTab t s).length = s.length := by simp [subTab]
theorem ix_subTab {t : List (List Int)} {s : List Int} {i : Nat} (h : i < s.length) : ix (subTab t s) (i : Int) = subRow t s i := by
  unfold subTab
  rw [ix_map _ (by omega) (by simpa using h), ix_iota h]
theorem ix_subRow {t : List (List Int)} {s : List Int} {i : Int} {j : Nat} (h : j < s.length) : ix (subRow t s i) (j : Int) = posR s s.length (mu t (ix s i) (ix s (j : Int))) := by
  unfold subRow
  rw [ix_map _ (by omega) (by simpa using h), ix_iota h]
/-- Closed up to row k. -/
def subCl (t : List (List Int)) (s : List Int) : Prop := ∀ i j : Nat, i < s.length → j < s.length → 0 ≤ posR s s.length (mu t (ix s (i : Int)) (ix s (j : Int)))
def ascP (s : List Int) : Prop := ∀ q : Nat, q + 1 < s.length → ix s (q : Int) < ix s ((q + 1 : Nat) : Int)
def subOk (t : List (List Int)) (s : List Int) : Prop := 0 < s.length ∧ inB t.length s = true ∧ ascP s
open Classical in
noncomputable def subE (t : List (List Int)) (s : List Int) : Int := if VT t = true then (if subOk t s then (if subCl t s then 0 else 9) else 1) else vaC t
open Classical in
noncomputable def subT (t : List (List Int)) (s : List Int) : List (List Int) := if VT t = true ∧ subOk t s ∧ subCl t s then subTab t s else []
theorem sub_bad {t : List (List Int)} {s : List Int} {K : List (List Int) → Int → Prop} (hv : VT t = true) (h : K (subT t s) (subE t s)) (hb : ¬ subOk t s) : K [] 1 := by
  unfold subT subE at h
  rw [if_neg fun hh => hb hh.2.1, if_pos hv, if_neg hb] at h
  exact h
theorem sub_open {t : List (List Int)} {s : List Int} {K : List (List Int) → Int → Prop} (hv : VT t = true) (h : K (subT t s) (subE t s)) (hb : subOk t s) (hc : ¬ subCl t s) : K [] 9 := by
  unfold subT subE at h
  rw [if_neg fun hh => hc hh.2.2, if_pos hv, if_pos hb, if_neg hc] at h
  exact h
theorem sub_good {t : List (List Int)} {s : List Int} {K : List (List Int) → Int → Prop} (hv : VT t = true) (h : K (subT t s) (subE t s)) (hb : subOk t s) (hc : subCl t s) : K (subTab t s) 0 := by
  unfold subT subE at h
  rw [if_pos ⟨hv, hb, hc⟩, if_pos hv, if_pos hb, if_pos hc] at h
  exact h
theorem asc_lt {s : List Int} (h : ascP s) {n : Nat} (hs : ∀ x ∈ s, 0 ≤ x ∧ x < (n : Int)) : s.length ≤ n := by
  have key : ∀ k : Nat, k < s.length → (k : Int) ≤ ix s (k : Int) := by
    intro k
    induction k with
    | zero => intro hk; exact (hs _ (ix_mem (by omega) (by omega))).1
    | succ k ih => intro hk; have := ih (by omega); have := h k hk; omega
  rcases Nat.eq_zero_or_pos s.length with h0 | h0
  · omega
  · have := key (s.length - 1) (by omega)
    have := (hs _ (ix_mem (xs := s) (i := ((s.length - 1 : Nat) : Int)) (by omega) (by omega))).2
    omega
theorem mult_Sub_ok {t : List (List Int)} {s : List Int} {K : List (List Int) → Int → Prop} (h : K (subT t s) (subE t s)) : mult_Sub t s K := by
  unfold mult_Sub
  refine mult_Validate_ok ?_
  split
  · rename_i h0
    have hv := vaC0.1 h0
    have T := SH.tb (VT.sh hv)
    have n4 := T.n4
    intro hmx
    unfold mx at hmx
    split
    · exact sub_bad hv h fun hh => by have := hh.1; omega
    rename_i hs0
    refine mult_areElements_ok ?_
    split
    · rename_i hin
      have hin' := inB_mem.1 hin
      refine fun _ => ⟨by omega, by omega, ?_⟩
      refine LoopWP.fold t.length (fun k (d : List Int) => d.length = t.length ∧ ∀ x : Nat, x < k → ix d (x : Int) = -1) ⟨by simp, fun x hx => absurd hx (Nat.not_lt_zero _)⟩ ?_
      rintro k d X hk ⟨hl, hI⟩ hX
      show mult_Sub_L1 t s K _ k d
      unfold mult_Sub_L1
      rw [List.length_replicate]
      split
      · refine ⟨by omega, by omega, ⟨by omega, by omega⟩, hX _ (by omega) ⟨by simpa using hl, fun x hx => ?_⟩⟩
        rw [ix_st _ (by omega) (by omega) (by omega)]
        split
        · rfl
        · exact hI x (by omega)
      have hkt : k = t.length := by omega
      subst hkt
      refine LoopWP.fold s.length (fun k (d : List Int) => (∀ q : Nat, q + 1 < k → ix s (q : Int) < ix s ((q + 1 : Nat) : Int)) ∧ d.length = t.length ∧ ∀ x : Nat, x < t.length → ix d (x : Int) = posR s k x) ⟨fun q hq => absurd hq (Nat.not_lt_zero _), hl, fun x hx => hI x hx⟩ ?_
      rintro k d X2 hk2 ⟨hA, hl, hI⟩ hX2
      show mult_Sub_L2 t s K _ k d
      unfold mult_Sub_L2
      split
      · have hkl : k < s.length := by omega
        have hsk := hin' _ (ix_mem (xs := s) (i := (k : Int)) (by omega) (by omega))
        have nxt : (∀ q : Nat, q + 1 < k + 1 → ix s (q : Int) < ix s ((q + 1 : Nat) : Int)) → X2 (k + 1, st d (ix s (k : Int)) (k : Int)) := fun hA' => by
          refine hX2 _ hkl ⟨hA', by simpa using hl, fun x hx => ?_⟩
          rw [ix_st _ hsk.1 (by omega) (by omega)]
          unfold posR
          split
          · rfl
          · exact hI x hx
        refine ⟨by omega, by omega, ?_⟩
        split
        · rename_i hk0
          refine ⟨⟨by omega, by omega⟩, by omega, by omega, ?_⟩
          have ek : (k : Int) - 1 = ((k - 1 : Nat) : Int) := by omega
          rw [ek]
          have ek2 : k - 1 + 1 = k := by omega
          split
          · rename_i hle
            refine sub_bad hv h fun hh => ?_
            have := hh.2.2 (k - 1) (by omega)
            rw [ek2] at this
            omega
          · rename_i hle
            refine ⟨hsk.1, by omega, nxt fun q hq => ?_⟩
            by_cases hqk : q = k - 1
            · subst hqk; rw [ek2]; omega
            · exact hA q (by omega)
        · exact ⟨hsk.1, by omega, nxt fun q hq => by omega⟩
      have hkt : k = s.length := by omega
      subst hkt
      have hok : subOk t s := ⟨by omega, hin, hA⟩
      have hst := asc_lt hA hin'
      refine ⟨by omega, by omega, ?_⟩
      refine LoopWP.fold s.length (fun k (d2 : List (List Int)) => d2.length = s.length ∧ (∀ i : Nat, i < k → ix d2 (i : Int) = subRow t s i) ∧ ∀ i j : Nat, i < k → j < s.length → 0 ≤ posR s s.length (mu t (ix s (i : Int)) (ix s (j : Int)))) ⟨by simp, fun i hi => absurd hi (Nat.not_lt_zero _), fun i j hi => absurd hi (Nat.not_lt_zero _)⟩ ?_
      rintro k d2 X3 hk3 ⟨hl2, hR, hC⟩ hX3
      show mult_Sub_L3 t s d K _ k d2
      unfold mult_Sub_L3
      split
      · have hkl : k < s.length := by omega
        have hsk := hin' _ (ix_mem (xs := s) (i := (k : Int)) (by omega) (by omega))
        refine ⟨by omega, by omega, by omega, by omega, by omega, by omega, ?_⟩
        refine LoopWP.fold s.length (fun m (d3 : List (List Int)) => d3.length = s.length ∧ (∀ i : Nat, i < k → ix d3 (i : Int) = subRow t s i) ∧ (ix d3 (k : Int)).length = s.length ∧ ∀ j : Nat, j < m → ix (ix d3 (k : Int)) (j : Int) = posR s s.length (mu t (ix s (k : Int)) (ix s (j : Int))) ∧ 0 ≤ posR s s.length (mu t (ix s (k : Int)) (ix s (j : Int))))
          ⟨by simpa using hl2, fun i hi => ?_, ?_, fun j hj => absurd hj (Nat.not_lt_zero _)⟩ ?_
        · rw [ix_st _ (by omega) (by omega) (by omega), if_neg (by omega)]; exact hR i hi
        · rw [ix_st _ (by omega) (by omega) (by omega), if_pos rfl]; simp
        rintro m d3 X4 hm ⟨hl3, hR3, hrl, hJ⟩ hX4
        show mult_Sub_L4 t s d k _ K _ m d3
        unfold mult_Sub_L4
        split
        · have hml : m < s.length := by omega
          have hsm := hin' _ (ix_mem (xs := s) (i := (m : Int)) (by omega) (by omega))
          have r1 := T.row _ hsk.1 hsk.2
          have m1 := T.mu hsk.1 hsk.2 hsm.1 hsm.2
          obtain ⟨z, hz⟩ := Int.eq_ofNat_of_zero_le m1.1
          have hp := hI z (by omega)
          have e1 : ix d (ix (ix t (ix s (k : Int))) (ix s (m : Int))) = posR s s.length (mu t (ix s (k : Int)) (ix s (m : Int))) := by
            show ix d (mu t (ix s (k : Int)) (ix s (m : Int))) = _
            rw [hz]; exact hp
          have e2 : ix (st d3 (k : Int) (st (ix d3 (k : Int)) (m : Int) (posR s s.length (mu t (ix s (k : Int)) (ix s (m : Int)))))) (k : Int) = st (ix d3 (k : Int)) (m : Int) (posR s s.length (mu t (ix s (k : Int)) (ix s (m : Int)))) := by
            rw [ix_st _ (by omega) (by omega) (by omega), if_pos rfl]
          have e3 : ix (st (ix d3 (k : Int)) (m : Int) (posR s s.length (mu t (ix s (k : Int)) (ix s (m : Int))))) (m : Int) = posR s s.length (mu t (ix s (k : Int)) (ix s (m : Int))) := by
            rw [ix_st _ (by omega) (by omega) (by omega), if_pos rfl]
          rw [e1, e2, e3]
          unfold mu at m1
          refine ⟨by omega, by omega, by omega, by omega, hsk.1, hsk.2, hsm.1, by omega, m1.1, by omega, by omega, by omega, by omega, by simp; omega, by omega, by simp; omega, ?_⟩
          split
          · rename_i hneg
            exact sub_open hv h hok fun hc => by have := hc k m hkl hml; omega
          · rename_i hneg
            refine hX4 _ hml ⟨by simpa using hl3, fun i hi => ?_, ?_, fun j hj => ?_⟩
            · rw [ix_st _ (by omega) (by omega) (by omega), if_neg (by omega)]; exact hR3 i hi
            · rw [e2]; simpa using hrl
            · rw [e2]
              by_cases hjm : j = m
              · subst hjm; exact ⟨e3, by omega⟩
              · rw [ix_st _ (by omega) (by omega) (by omega), if_neg (by omega)]; exact hJ j (by omega)
        · have hmt : m = s.length := by omega
          subst hmt
          refine hX3 _ hkl ⟨hl3, fun i hi => ?_, fun i j hi hj => ?_⟩
          · by_cases hik : i = k
            · subst hik
              exact list_ix (by simpa using hrl) fun j hj => by rw [ix_subRow (by omega)]; exact (hJ j (by omega)).1
            · exact hR3 i (by omega)
          · by_cases hik : i = k
            · subst hik; exact (hJ j hj).2
            · exact hC i j (by omega) hj
      · have hkt : k = s.length := by omega
        subst hkt
        have : d2 = subTab t s := list_ix (by simpa using hl2) fun i hi => by rw [ix_subTab (by omega)]; exact hR i (by omega)
        rw [this]
        exact sub_good hv h hok fun i j hi hj => hC i j hi hj
    · rename_i hin
      exact sub_bad hv h fun hh => hin hh.2.1
  · rename_i h0
    have hv : ¬ VT t = true := fun hv => h0 (vaC0.2 hv)
    unfold subT subE at h
    rw [if_neg fun hh => hv hh.1, if_neg hv] at h
    exact h
end Sg
