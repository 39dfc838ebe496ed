/- Tables: the tables of subsets. Plain laws. -/
import Derived.Test.YtolobiljalelgaaMultM
namespace Sg
open Go

/-- Where x lies among the first k of the set; -1: nowhere. -/
def posR (s : List Int) : Nat → Int → Int
  | 0, _ => -1
  | k + 1, x => if x = ix s (k : Int) then (k : Int) else posR s k x
def subRow (t : List (List Int)) (s : List Int) (i : Int) : List Int := (iota s.length).map fun j => posR s s.length (mu t (ix s i) (ix s j))
def subTab (t : List (List Int)) (s : List Int) : List (List Int) := (iota s.length).map (subRow t s)
@[simp] theorem subRow_len {t : List (List Int)} {s : List Int} {i : Int} : (subRow t s i).length = s.length := by simp [subRow]
@[simp] theorem subTab_len {t : List (List Int)} {s : List Int} : (subTab t s).length = s.length := by simp [subTab]
theorem ix_subTab {t : List (List Int)} {s : List Int} {i : Nat} (h : i < s.length) : ix (subTab t s) (i : Int) = subRow t s i := by
  unfold subTab
  rw [ix_map _ (by omega) (by simpa using h), ix_iota h]
theorem ix_subRow {t : List (List Int)} {s : List Int} {i : Int} {j : Nat} (h : j < s.length) : ix (subRow t s i) (j : Int) = posR s s.length (mu t (ix s i) (ix s (j : Int))) := by
  unfold subRow
  rw [ix_map _ (by omega) (by simpa using h), ix_iota h]
/-- Closed up to row k. -/
def subCl (t : List (List Int)) (s : List Int) : Prop := ∀ i j : Nat, i < s.length → j < s.length → 0 ≤ posR s s.length (mu t (ix s (i : Int)) (ix s (j : Int)))
def ascP (s : List Int) : Prop := ∀ q : Nat, q + 1 < s.length → ix s (q : Int) < ix s ((q + 1 : Nat) : Int)
def subOk (t : List (List Int)) (s : List Int) : Prop := 0 < s.length ∧ inB t.length s = true ∧ ascP s
open Classical in
noncomputable def subE (t : List (List Int)) (s : List Int) : Int := if VT t = true then (if subOk t s then (if subCl t s then 0 else 9) else 1) else vaC t
open Classical in
noncomputable def subT (t : List (List Int)) (s : List Int) : List (List Int) := if VT t = true ∧ subOk t s ∧ subCl t s then subTab t s else []
theorem sub_bad {t : List (List Int)} {s : List Int} {K : List (List Int) → Int → Prop} (hv : VT t = true) (h : K (subT t s) (subE t s)) (hb : ¬ subOk t s) : K [] 1 := by
  unfold subT subE at h
  rw [if_neg fun hh => hb hh.2.1, if_pos hv, if_neg hb] at h
  exact h
theorem sub_open {t : List (List Int)} {s : List Int} {K : List (List Int) → Int → Prop} (hv : VT t = true) (h : K (subT t s) (subE t s)) (hb : subOk t s) (hc : ¬ subCl t s) : K [] 9 := by
  unfold subT subE at h
  rw [if_neg fun hh => hc hh.2.2, if_pos hv, if_pos hb, if_neg hc] at h
  exact h
theorem sub_good {t : List (List Int)} {s : List Int} {K : List (List Int) → Int → Prop} (hv : VT t = true) (h : K (subT t s) (subE t s)) (hb : subOk t s) (hc : subCl t s) : K (subTab t s) 0 := by
  unfold subT subE at h
  rw [if_pos ⟨hv, hb, hc⟩, if_pos hv, if_pos hb, if_pos hc] at h
  exact h
theorem asc_lt {s : List Int} (h : ascP s) {n : Nat} (hs : ∀ x ∈ s, 0 ≤ x ∧ x < (n : Int)) : s.length ≤ n := by
  have key : ∀ k : Nat, k < s.length → (k : Int) ≤ ix s (k : Int) := by
    intro k
    induction k with
    | zero => intro hk; exact (hs _ (ix_mem (by omega) (by omega))).1
    | succ k ih => intro hk; have := ih (by omega); have := h k hk; omega
  rcases Nat.eq_zero_or_pos s.length with h0 | h0
  · omega
  · have := key (s.length - 1) (by omega)
    have := (hs _ (ix_mem (xs := s) (i := ((s.length - 1 : Nat) : Int)) (by omega) (by omega))).2
    omega
theorem mult_Sub_ok {t : List (List Int)} {s : List Int} {K : List (List Int) → Int → Prop} (h : K (subT t s) (subE t s)) : mult_Sub t s K := by
  unfold mult_Sub
  refine mult_Validate_ok ?_
  split
  · rename_i h0
    have hv := vaC0.1 h0
    have T := SH.tb (VT.sh hv)
    have n4 := T.n4
    intro hmx
    unfold mx at hmx
    split
    · exact sub_bad hv h fun hh => by have := hh.1; omega
    rename_i hs0
    refine mult_areElements_ok ?_
    split
    · rename_i hin
      have hin' := inB_mem.1 hin
      refine fun _ => ⟨by omega, by omega, ?_⟩
      refine LoopWP.fold t.length (fun k (d : List Int) => d.length = t.length ∧ ∀ x : Nat, x < k → ix d (x : Int) = -1) ⟨by simp, fun x hx => absurd hx (Nat.not_lt_zero _)⟩ ?_
      rintro k d X hk ⟨hl, hI⟩ hX
      show mult_Sub_L1 t s K _ k d
      unfold mult_Sub_L1
      rw [List.length_replicate]
      split
      · refine ⟨by omega, by omega, ⟨by omega, by omega⟩, hX _ (by omega) ⟨by simpa using hl, fun x hx => ?_⟩⟩
        rw [ix_st _ (by omega) (by omega) (by omega)]
        split
        · rfl
        · exact hI x (by omega)
      have hkt : k = t.length := by omega
      subst hkt
      refine LoopWP.fold s.length (fun k (d : List Int) => (∀ q : Nat, q + 1 < k → ix s (q : Int) < ix s ((q + 1 : Nat) : Int)) ∧ d.length = t.length ∧ ∀ x : Nat, x < t.length → ix d (x : Int) = posR s k x) ⟨fun q hq => absurd hq (Nat.not_lt_zero _), hl, fun x hx => hI x hx⟩ ?_
      rintro k d X2 hk2 ⟨hA, hl, hI⟩ hX2
      show mult_Sub_L2 t s K _ k d
      unfold mult_Sub_L2
      split
      · have hkl : k < s.length := by omega
        have hsk := hin' _ (ix_mem (xs := s) (i := (k : Int)) (by omega) (by omega))
        have nxt : (∀ q : Nat, q + 1 < k + 1 → ix s (q : Int) < ix s ((q + 1 : Nat) : Int)) → X2 (k + 1, st d (ix s (k : Int)) (k : Int)) := fun hA' => by
          refine hX2 _ hkl ⟨hA', by simpa using hl, fun x hx => ?_⟩
          rw [ix_st _ hsk.1 (by omega) (by omega)]
          unfold posR
          split
          · rfl
          · exact hI x hx
        refine ⟨by omega, by omega, ?_⟩
        split
        · rename_i hk0
          refine ⟨⟨by omega, by omega⟩, by omega, by omega, ?_⟩
          have ek : (k : Int) - 1 = ((k - 1 : Nat) : Int) := by omega
          rw [ek]
          have ek2 : k - 1 + 1 = k := by omega
          split
          · rename_i hle
            refine sub_bad hv h fun hh => ?_
            have := hh.2.2 (k - 1) (by omega)
            rw [ek2] at this
            omega
          · rename_i hle
            refine ⟨hsk.1, by omega, nxt fun q hq => ?_⟩
            by_cases hqk : q = k - 1
            · subst hqk; rw [ek2]; omega
            · exact hA q (by omega)
        · exact ⟨hsk.1, by omega, nxt fun q hq => by omega⟩
      have hkt : k = s.length := by omega
      subst hkt
      have hok : subOk t s := ⟨by omega, hin, hA⟩
      have hst := asc_lt hA hin'
      refine ⟨by omega, by omega, ?_⟩
      refine LoopWP.fold s.length (fun k (d2 : List (List Int)) => d2.length = s.length ∧ (∀ i : Nat, i < k → ix d2 (i : Int) = subRow t s i) ∧ ∀ i j : Nat, i < k → j < s.length → 0 ≤ posR s s.length (mu t (ix s (i : Int)) (ix s (j : Int)))) ⟨by simp, fun i hi => absurd hi (Nat.not_lt_zero _), fun i j hi => absurd hi (Nat.not_lt_zero _)⟩ ?_
      rintro k d2 X3 hk3 ⟨hl2, hR, hC⟩ hX3
      show mult_Sub_L3 t s d K _ k d2
      unfold mult_Sub_L3
      split
      · have hkl : k < s.length := by omega
        have hsk := hin' _ (ix_mem (xs := s) (i := (k : Int)) (by omega) (by omega))
        refine ⟨by omega, by omega, by omega, by omega, by omega, by omega, ?_⟩
        refine LoopWP.fold s.length (fun m (d3 : List (List Int)) => d3.length = s.length ∧ (∀ i : Nat, i < k → ix d3 (i : Int) = subRow t s i) ∧ (ix d3 (k : Int)).length = s.length ∧ ∀ j : Nat, j < m → ix (ix d3 (k : Int)) (j : Int) = posR s s.length (mu t (ix s (k : Int)) (ix s (j : Int))) ∧ 0 ≤ posR s s.length (mu t (ix s (k : Int)) (ix s (j : Int))))
          ⟨by simpa using hl2, fun i hi => ?_, ?_, fun j hj => absurd hj (Nat.not_lt_zero _)⟩ ?_
        · rw [ix_st _ (by omega) (by omega) (by omega), if_neg (by omega)]; exact hR i hi
        · rw [ix_st _ (by omega) (by omega) (by omega), if_pos rfl]; simp
        rintro m d3 X4 hm ⟨hl3, hR3, hrl, hJ⟩ hX4
        show mult_Sub_L4 t s d k _ K _ m d3
        unfold mult_Sub_L4
        split
        · have hml : m < s.length := by omega
          have hsm := hin' _ (ix_mem (xs := s) (i := (m : Int)) (by omega) (by omega))
          have r1 := T.row _ hsk.1 hsk.2
          have m1 := T.mu hsk.1 hsk.2 hsm.1 hsm.2
          obtain ⟨z, hz⟩ := Int.eq_ofNat_of_zero_le m1.1
          have hp := hI z (by omega)
          have e1 : ix d (ix (ix t (ix s (k : Int))) (ix s (m : Int))) = posR s s.length (mu t (ix s (k : Int)) (ix s (m : Int))) := by
            show ix d (mu t (ix s (k : Int)) (ix s (m : Int))) = _
            rw [hz]; exact hp
          have e2 : ix (st d3 (k : Int) (st (ix d3 (k : Int)) (m : Int) (posR s s.length (mu t (ix s (k : Int)) (ix s (m : Int)))))) (k : Int) = st (ix d3 (k : Int)) (m : Int) (posR s s.length (mu t (ix s (k : Int)) (ix s (m : Int)))) := by
            rw [ix_st _ (by omega) (by omega) (by omega), if_pos rfl]
          have e3 : ix (st (ix d3 (k : Int)) (m : Int) (posR s s.length (mu t (ix s (k : Int)) (ix s (m : Int))))) (m : Int) = posR s s.length (mu t (ix s (k : Int)) (ix s (m : Int))) := by
            rw [ix_st _ (by omega) (by omega) (by omega), if_pos rfl]
          rw [e1, e2, e3]
          unfold mu at m1
          refine ⟨by omega, by omega, by omega, by omega, hsk.1, hsk.2, hsm.1, by omega, m1.1, by omega, by omega, by omega, by omega, by simp; omega, by omega, by simp; omega, ?_⟩
          split
          · rename_i hneg
            exact sub_open hv h hok fun hc => by have := hc k m hkl hml; omega
          · rename_i hneg
            refine hX4 _ hml ⟨by simpa using hl3, fun i hi => ?_, ?_, fun j hj => ?_⟩
            · rw [ix_st _ (by omega) (by omega) (by omega), if_neg (by omega)]; exact hR3 i hi
            · rw [e2]; simpa using hrl
            · rw [e2]
              by_cases hjm : j = m
              · subst hjm; exact ⟨e3, by omega⟩
              · rw [ix_st _ (by omega) (by omega) (by omega), if_neg (by omega)]; exact hJ j (by omega)
        · have hmt : m = s.length := by omega
          subst hmt
          refine hX3 _ hkl ⟨hl3, fun i hi => ?_, fun i j hi hj => ?_⟩
          · by_cases hik : i = k
            · subst hik
              exact list_ix (by simpa using hrl) fun j hj => by rw [ix_subRow (by omega)]; exact (hJ j (by omega)).1
            · exact hR3 i (by omega)
          · by_cases hik : i = k
            · subst hik; exact (hJ j hj).2
            · exact hC i j (by omega) hj
      · have hkt : k = s.length := by omega
        subst hkt
        have : d2 = subTab t s := list_ix (by simpa using hl2) fun i hi => by rw [ix_subTab (by omega)]; exact hR i (by omega)
        rw [this]
        exact sub_good hv h hok fun i j hi hj => hC i j hi hj
    · rename_i hin
      exact sub_bad hv h fun hh => hin hh.2.1
  · rename_i h0
    have hv : ¬ VT t = true := fun hv => h0 (vaC0.2 hv)
    unfold subT subE at h
    rw [if_neg fun hh => hv hh.1, if_neg hv] at h
    exact h
open Classical in
theorem ref14_Ascending_ok {t : List (List Int)} {s : List Int} {K : Bool → Prop} (h : K (decide (subOk t s))) : ref14_Ascending t s K := by
  unfold ref14_Ascending
  intro hmx
  unfold mx at hmx
  have bad : ¬ subOk t s → K false := fun hb => by rw [decide_eq_false hb] at h; exact h
  refine LoopWP.scan s.length (fun k => (0 ≤ ix s (k : Int) ∧ ix s (k : Int) < (t.length : Int)) ∧ ∀ q : Nat, q + 1 = k → ix s (q : Int) < ix s (k : Int)) ?_
  intro k X hk hI hX
  unfold ref14_Ascending_L1
  split
  · have hkl : k < s.length := by omega
    have hmem := ix_mem (xs := s) (i := (k : Int)) (by omega) (by omega)
    refine ⟨by omega, by omega, ?_⟩
    split
    · exact bad fun hh => by have := inB_mem.1 hh.2.1 _ hmem; omega
    refine fun _ => ?_
    split
    · exact bad fun hh => by have := inB_mem.1 hh.2.1 _ hmem; omega
    split
    · have ek : (k : Int) - 1 = ((k - 1 : Nat) : Int) := by omega
      have ek2 : k - 1 + 1 = k := by omega
      refine ⟨⟨by omega, by omega⟩, by omega, by omega, ?_⟩
      rw [ek]
      split
      · refine bad fun hh => ?_
        have := hh.2.2 (k - 1) (by omega)
        rw [ek2] at this
        omega
      · refine hX hkl ⟨⟨by omega, by omega⟩, fun q hq => ?_⟩
        have : q = k - 1 := by omega
        subst this; omega
    · exact hX hkl ⟨⟨by omega, by omega⟩, fun q hq => by omega⟩
  · have hks : k = s.length := by omega
    subst hks
    have hiff : subOk t s ↔ 0 < s.length := ⟨fun hh => hh.1, fun hh => ⟨hh, inB_mem.2 fun x hx => by
      obtain ⟨j, hj, rfl⟩ := mem_ix.1 hx
      exact (hI j hj).1, fun q hq => (hI (q + 1) hq).2 q rfl⟩⟩
    split
    · rename_i hp
      rw [decide_eq_true (hiff.2 (by omega))] at h; exact h
    · rename_i hp
      exact bad fun hh => hp (by have := hiff.1 hh; omega)
open Classical in
theorem ref14_Sub_ok {t : List (List Int)} {s : List Int} {K : List (List Int) → Int → Prop} (h : K (subT t s) (subE t s)) : ref14_Sub t s K := by
  unfold ref14_Sub
  refine ref14_Validate_ok ?_
  split
  · rename_i h0
    have hv := vaC0.1 h0
    have T := SH.tb (VT.sh hv)
    have n4 := T.n4
    refine ref14_Ascending_ok ?_
    split
    · rename_i hok0
      have hok : subOk t s := of_decide_eq_true hok0
      have hin' := inB_mem.1 hok.2.1
      have hst := asc_lt hok.2.2 hin'
      refine fun _ => ⟨by omega, by omega, ?_⟩
      refine LoopWP.fold t.length (fun k (d : List Int) => d.length = t.length ∧ ∀ x : Nat, x < k → ix d (x : Int) = -1) ⟨by simp, fun x hx => absurd hx (Nat.not_lt_zero _)⟩ ?_
      rintro k d X hk ⟨hl, hI⟩ hX
      show ref14_Sub_L1 t s K _ k d
      unfold ref14_Sub_L1
      rw [List.length_replicate]
      split
      · refine ⟨by omega, by omega, ⟨by omega, by omega⟩, hX _ (by omega) ⟨by simpa using hl, fun x hx => ?_⟩⟩
        rw [ix_st _ (by omega) (by omega) (by omega)]
        split
        · rfl
        · exact hI x (by omega)
      have hkt : k = t.length := by omega
      subst hkt
      intro _
      refine LoopWP.fold s.length (fun k (d : List Int) => d.length = t.length ∧ ∀ x : Nat, x < t.length → ix d (x : Int) = posR s k x) ⟨hl, fun x hx => hI x hx⟩ ?_
      rintro k d X2 hk2 ⟨hl, hI⟩ hX2
      show ref14_Sub_L2 t s K _ k d
      unfold ref14_Sub_L2
      split
      · have hkl : k < s.length := by omega
        have hsk := hin' _ (ix_mem (xs := s) (i := (k : Int)) (by omega) (by omega))
        refine ⟨by omega, by omega, hsk.1, by omega, hX2 _ hkl ⟨by simpa using hl, fun x hx => ?_⟩⟩
        rw [ix_st _ hsk.1 (by omega) (by omega)]
        unfold posR
        split
        · rfl
        · exact hI x hx
      have hkt : k = s.length := by omega
      subst hkt
      refine LoopWP.fold s.length (fun k (d2 : List (List Int)) => d2 = (iota k).map (subRow t s) ∧ ∀ i j : Nat, i < k → j < s.length → 0 ≤ posR s s.length (mu t (ix s (i : Int)) (ix s (j : Int)))) ⟨rfl, fun i j hi => absurd hi (Nat.not_lt_zero _)⟩ ?_
      rintro k d2 X3 hk3 ⟨rfl, hC⟩ hX3
      show ref14_Sub_L3 t s d K _ k _
      unfold ref14_Sub_L3
      split
      · have hkl : k < s.length := by omega
        have hsk := hin' _ (ix_mem (xs := s) (i := (k : Int)) (by omega) (by omega))
        refine ⟨by omega, by omega, ?_⟩
        refine LoopWP.fold s.length (fun m (d3 : List Int) => d3 = (iota m).map (fun j => posR s s.length (mu t (ix s (k : Int)) (ix s j))) ∧ ∀ j : Nat, j < m → 0 ≤ posR s s.length (mu t (ix s (k : Int)) (ix s (j : Int)))) ⟨rfl, fun j hj => absurd hj (Nat.not_lt_zero _)⟩ ?_
        rintro m d3 X4 hm ⟨rfl, hJ⟩ hX4
        show ref14_Sub_L4 t s d k _ _ K _ m _
        unfold ref14_Sub_L4
        split
        · have hml : m < s.length := by omega
          have hsm := hin' _ (ix_mem (xs := s) (i := (m : Int)) (by omega) (by omega))
          have r1 := T.row _ hsk.1 hsk.2
          have m1 := T.mu hsk.1 hsk.2 hsm.1 hsm.2
          obtain ⟨z, hz⟩ := Int.eq_ofNat_of_zero_le m1.1
          have hp := hI z (by omega)
          have e1 : ix d (ix (ix t (ix s (k : Int))) (ix s (m : Int))) = posR s s.length (mu t (ix s (k : Int)) (ix s (m : Int))) := by
            show ix d (mu t (ix s (k : Int)) (ix s (m : Int))) = _
            rw [hz]; exact hp
          rw [e1]
          unfold mu at m1
          refine ⟨by omega, by omega, hsk.1, hsk.2, hsm.1, by omega, m1.1, by omega, ?_⟩
          split
          · rename_i hneg
            exact sub_open hv h hok fun hc => by have := hc k m hkl hml; omega
          · rename_i hneg
            refine ⟨hsk.1, hsk.2, hsm.1, by omega, m1.1, by omega, by simp; omega, hX4 _ hml ⟨?_, fun j hj => ?_⟩⟩
            · rw [iota_succ, List.map_append]; rfl
            · by_cases hjm : j = m
              · subst hjm; omega
              · exact hJ j (by omega)
        · have hmt : m = s.length := by omega
          subst hmt
          refine ⟨by simp; omega, hX3 _ hkl ⟨?_, fun i j hi hj => ?_⟩⟩
          · rw [iota_succ, List.map_append]; rfl
          · by_cases hik : i = k
            · subst hik; exact hJ j hj
            · exact hC i j (by omega) hj
      · have hkt : k = s.length := by omega
        subst hkt
        exact sub_good hv h hok fun i j hi hj => hC i j hi hj
    · rename_i hok0
      exact sub_bad hv h fun hh => hok0 (decide_eq_true hh)
  · rename_i h0
    have hv : ¬ VT t = true := fun hv => h0 (vaC0.2 hv)
    unfold subT subE at h
    rw [if_neg fun hh => hv hh.1, if_neg hv] at h
    exact h
theorem law14_MultGenerates_ok (t : List (List Int)) (gens s : List Int) : law14_MultGenerates t gens s (fun b => b = true) := by
  unfold law14_MultGenerates
  have key : mult_Generated t gens fun r15 => (mult_Sub t s fun r21 r22 => (ref14_Sub t s fun r28 r29 => (if r22 = r29 then (ref03_SameRows r21 r28 fun r36 => (if r36 = true then (ref14_Valid t fun r42 => (if r42 = true then (ref14_In t gens fun r55 => (if r55 = true then (ref14_Generated t gens fun r68 => (ref03_Same r15 r68 fun r79 => (if r79 = true then (law14_awake  fun r85 => (r85 = true)) else (false = true)))) else (r15.length ≤ mx → (if (r15.length : Int) = (0 : Int) then (law14_awake  fun r62 => (r62 = true)) else (false = true))))) else (r15.length ≤ mx → (if (r15.length : Int) = (0 : Int) then (law14_awake  fun r49 => (r49 = true)) else (false = true))))) else (false = true))) else (false = true)))) := by
    have rest : ∀ r15 : List Int, ((inB t.length gens && VT t) = true → AscOf (Clo t gens) r15) → (¬ (inB t.length gens && VT t) = true → r15 = []) → mult_Sub t s fun r21 r22 => (ref14_Sub t s fun r28 r29 => (if r22 = r29 then (ref03_SameRows r21 r28 fun r36 => (if r36 = true then (ref14_Valid t fun r42 => (if r42 = true then (ref14_In t gens fun r55 => (if r55 = true then (ref14_Generated t gens fun r68 => (ref03_Same r15 r68 fun r79 => (if r79 = true then (law14_awake  fun r85 => (r85 = true)) else (false = true)))) else (r15.length ≤ mx → (if (r15.length : Int) = (0 : Int) then (law14_awake  fun r62 => (r62 = true)) else (false = true))))) else (r15.length ≤ mx → (if (r15.length : Int) = (0 : Int) then (law14_awake  fun r49 => (r49 = true)) else (false = true))))) else (false = true))) else (false = true))) := by
      intro l h1 h2
      refine mult_Sub_ok (ref14_Sub_ok ?_)
      rw [if_pos rfl]
      refine ref03_SameRows_ok ?_
      rw [if_pos (by simp)]
      refine ref14_Valid_ok ?_
      have no : ¬ (inB t.length gens && VT t) = true → (l.length ≤ mx → (if (l.length : Int) = (0 : Int) then (law14_awake  fun r62 => (r62 = true)) else (false = true))) := fun hh _ => by
        rw [h2 hh, if_pos (by simp)]; exact law14_awake_ok rfl
      split
      · rename_i hv
        refine ref14_In_ok ?_
        split
        · rename_i hi
          refine ref14_Generated_ok (VT.sh hv) hi fun l' hl' => ref03_Same_ok ?_
          rw [if_pos (decide_eq_true ((h1 (by rw [hi, hv]; rfl)).uniq hl'))]
          exact law14_awake_ok rfl
        · rename_i hi
          exact no fun hh => hi (by simp only [Bool.and_eq_true] at hh; exact hh.1)
      · rename_i hv
        exact no fun hh => hv (by simp only [Bool.and_eq_true] at hh; exact hh.2)
    exact mult_Generated_ok (fun hb l hl => rest l (fun _ => hl) fun hn => absurd hb hn) fun hb => rest [] (fun hh => absurd hh hb) fun _ => rfl
  refine ref14_Shape_ok ?_
  split
  · refine fun _ => ?_
    split
    · exact law14_awake_ok rfl
    · exact key
  · exact key
end Sg
