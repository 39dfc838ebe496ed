/- Words over letters, their transformations: plain laws. -/
import Derived.Test.YtjegmdkaiddokaaTransB
import Derived.Test.YtjegmdkaiddokaaPWord
namespace Sg
open Go

/-! ### Words -/

/-! ### The transformation of a word -/
/-- Generators of as many points. -/
def GV (gens : List (List Int)) : Bool := decide (1 ≤ gens.length) && decide (gens.length ≤ 6) && gens.all fun f => VF f && decide (f.length = (ix gens 0).length)
theorem GV_iff {gens : List (List Int)} : GV gens = true ↔ 1 ≤ gens.length ∧ gens.length ≤ 6 ∧ ∀ j : Nat, j < gens.length → VF (ix gens j) = true ∧ (ix gens j).length = (ix gens 0).length := by
  have : (∀ x ∈ gens, VF x = true ∧ x.length = (ix gens 0).length) ↔ ∀ j : Nat, j < gens.length → VF (ix gens j) = true ∧ (ix gens j).length = (ix gens 0).length := forall_mem_ix (p := fun x : List Int => VF x = true ∧ x.length = (ix gens 0).length)
  simp only [GV, Bool.and_eq_true, decide_eq_true_eq, List.all_eq_true, ← this, and_assoc]
theorem GV_false {gens : List (List Int)} (h : ¬ (1 ≤ gens.length ∧ gens.length ≤ 6 ∧ ∀ j : Nat, j < gens.length → VF (ix gens j) = true ∧ (ix gens j).length = (ix gens 0).length)) : GV gens = false := by
  rw [Bool.eq_false_iff, ne_eq, GV_iff]; exact h
theorem ref11_MayGens_ok {gens : List (List Int)} {K : Bool → Prop} (h : K (GV gens)) : ref11_MayGens gens K := by
  unfold ref11_MayGens
  intro _
  split
  · rw [GV_false (by omega)] at h; exact h
  · split
    · rw [GV_false (by omega)] at h; exact h
    · refine LoopWP.to gens.length (fun k : Nat => k) (fun k => k ≤ gens.length ∧ ∀ j : Nat, j < k → VF (ix gens j) = true ∧ (ix gens j).length = (ix gens 0).length) ⟨by omega, fun j hj => by omega⟩ (fun s h => h.1) ?_
      rintro k X ⟨hk, hI⟩ hX
      show ref11_MayGens_L1 gens K X k
      unfold ref11_MayGens_L1
      split
      · refine ⟨by omega, by omega, ref11_Valid_ok ?_⟩
        split
        · rename_i hv
          refine fun _ => ⟨by omega, by omega, fun _ => ?_⟩
          split
          · refine hX (k + 1) ⟨by omega, fun j hj => ?_⟩ rfl
            by_cases hjk : j = k
            · subst hjk; exact ⟨hv, by omega⟩
            · exact hI j (by omega)
          · rw [GV_false (fun hg => by have := (hg.2.2 k (by omega)).2; omega)] at h; exact h
        · rename_i hv
          rw [GV_false (fun hg => hv (hg.2.2 k (by omega)).1)] at h; exact h
      · rw [GV_iff.2 ⟨by omega, by omega, fun j hj => hI j (by omega)⟩] at h; exact h
def stepW (gens : List (List Int)) (f : List Int) (b : UInt8) : List Int := compF f (ix gens ((b.toNat : Int) - 97))
def runW (gens : List (List Int)) (f : List Int) (w : Str) : List Int := w.foldl (stepW gens) f
theorem runW_take {gens : List (List Int)} {f : List Int} {w : Str} {k : Nat} (h : k < w.length) : runW gens f (w.take (k + 1)) = stepW gens (runW gens f (w.take k)) (ix w k) := by
  rw [take_ix h, runW, runW, List.foldl_append]; rfl
theorem GV.gen {gens : List (List Int)} (hg : GV gens = true) {w : Str} (hw : WV w gens.length = true) {k : Nat} (hk : k < w.length) :
    97 ≤ (ix w k).toNat ∧ ((ix w k).toNat : Int) - 97 < gens.length ∧ VF (ix gens (((ix w k).toNat : Int) - 97)) = true ∧ (ix gens (((ix w k).toNat : Int) - 97)).length = (ix gens 0).length := by
  have h1 := (WV_iff.1 hw).2.2.2 k hk
  obtain ⟨m, hm⟩ := Int.eq_ofNat_of_zero_le (by omega : 0 ≤ ((ix w k).toNat : Int) - 97)
  have h2 := (GV_iff.1 hg).2.2 m (by omega)
  rw [← hm] at h2
  exact ⟨h1.1, h1.2, h2⟩
theorem VF_iota {n : Nat} (h1 : 1 ≤ n) (h2 : n ≤ 32) : VF (iota n) = true := by
  rw [VF_iff]
  refine ⟨by simpa using h1, by simpa using h2, fun j hj => ?_⟩
  rw [iota_length] at hj
  rw [ix_iota hj, iota_length]; omega
theorem runW_ok {gens : List (List Int)} (hg : GV gens = true) {w : Str} (hw : WV w gens.length = true) {f : List Int} (hf : VF f = true) (hl : f.length = (ix gens 0).length) (k : Nat) (hk : k ≤ w.length) :
    VF (runW gens f (w.take k)) = true ∧ (runW gens f (w.take k)).length = (ix gens 0).length := by
  induction k with
  | zero => simpa [runW] using ⟨hf, hl⟩
  | succ k ih =>
    obtain ⟨h1, h2⟩ := ih (by omega)
    obtain ⟨_, _, h3, h4⟩ := GV.gen hg hw (k := k) (by omega)
    rw [runW_take (by omega), stepW]
    exact ⟨VF_compF h1 h3 (h2.trans h4.symm), by rw [compF_length]; exact h2⟩
def ofWord (gens : List (List Int)) (w : Str) : List Int := runW gens (iota (ix gens 0).length) w
theorem GV.len0 {gens : List (List Int)} (hg : GV gens = true) : 1 ≤ (ix gens 0).length ∧ (ix gens 0).length ≤ 32 := by
  have h := (GV_iff.1 hg)
  exact VF.len (h.2.2 0 (by omega)).1
theorem ofWord_ok {gens : List (List Int)} (hg : GV gens = true) {w : Str} (hw : WV w gens.length = true) : VF (ofWord gens w) = true ∧ (ofWord gens w).length = (ix gens 0).length := by
  have h0 := GV.len0 hg
  have := runW_ok hg hw (VF_iota h0.1 h0.2) (by simp) w.length (Nat.le_refl _)
  rwa [List.take_length] at this
theorem ref11_OfWord_ok {gens : List (List Int)} (hg : GV gens = true) {w : Str} (hw : WV w gens.length = true) {K : List Int → Prop} (h : K (ofWord gens w)) : ref11_OfWord gens w K := by
  unfold ref11_OfWord
  intro _
  refine ref01_Valid_ok ?_
  rw [if_pos hw]
  have hgl := (GV_iff.1 hg).1
  have h0 := GV.len0 hg
  refine ⟨by omega, by omega, fun _ => ref03_Discrete_ok (by omega) (by omega) ?_⟩
  rw [show ((ix gens 0).length : Int).toNat = (ix gens 0).length from rfl]
  refine LoopWP.to w.length (fun s : List Int × Nat => s.2) (fun s => s.2 ≤ w.length ∧ s.1 = runW gens (iota (ix gens 0).length) (w.take s.2)) ⟨by simp, by simp [runW]⟩ (fun s h => h.1) ?_
  rintro ⟨f, k⟩ X ⟨hk, hI⟩ hX
  simp only at hk hI
  show ref11_OfWord_L1 gens w K _ f k
  unfold ref11_OfWord_L1
  intro _
  split
  · obtain ⟨g1, g2, g3, g4⟩ := GV.gen hg hw (k := k) (by omega)
    obtain ⟨r1, r2⟩ := runW_ok hg hw (VF_iota h0.1 h0.2) (by simp) k (by omega)
    rw [wrapL g1]
    refine ⟨by omega, by omega, by omega, g2, ref11_Compose_ok (by have := VF.len r1; rw [← hI] at this; omega) (fun j hj => ?_) (hX (_, k + 1) ⟨by simp only; omega, ?_⟩ rfl)⟩
    · rw [hI] at hj ⊢
      have := (VF_iff.1 r1).2.2 j hj
      omega
    · simp only
      rw [runW_take (by omega), stepW, hI]
  · have : k = w.length := by omega
    rw [hI, this, List.take_length]; exact h
theorem trans_OfWord_ok {gens : List (List Int)} {w : Str} {K : List Int → Prop} (h : K (if GV gens = true ∧ WV w gens.length = true then ofWord gens w else [])) : trans_OfWord gens w K := by
  unfold trans_OfWord
  intro _
  split
  · rw [if_neg (fun hh => by have := (GV_iff.1 hh.1).1; omega)] at h; exact h
  · refine word_Valid_ok ?_
    split
    · rename_i hg0 hw
      refine LoopWP.to gens.length (fun k : Nat => k) (fun k => k ≤ gens.length ∧ ∀ j : Nat, j < k → VF (ix gens j) = true ∧ (ix gens j).length = (ix gens 0).length) ⟨by omega, fun j hj => by omega⟩ (fun s h => h.1) ?_
      rintro k X ⟨hk, hI⟩ hX
      show trans_OfWord_L1 gens w K X k
      unfold trans_OfWord_L1
      split
      · refine ⟨by omega, by omega, fun _ => ⟨by omega, by omega, fun _ => ?_⟩⟩
        split
        · refine trans_Valid_ok ?_
          split
          · rename_i hv
            refine hX (k + 1) ⟨by omega, fun j hj => ?_⟩ rfl
            by_cases hjk : j = k
            · subst hjk; exact ⟨hv, by omega⟩
            · exact hI j (by omega)
          · rename_i hv
            rw [if_neg (fun hh => hv ((GV_iff.1 hh.1).2.2 k (by omega)).1)] at h; exact h
        · rw [if_neg (fun hh => by have := ((GV_iff.1 hh.1).2.2 k (by omega)).2; omega)] at h; exact h
      · have hg : GV gens = true := GV_iff.2 ⟨by omega, by have := (WV_iff.1 hw); omega, fun j hj => hI j (by omega)⟩
        rw [if_pos ⟨hg, hw⟩] at h
        have h0 := GV.len0 hg
        refine ⟨by omega, by omega, fun _ => trans_Identity_ok ?_⟩
        rw [if_pos (by omega), show ((ix gens 0).length : Int).toNat = (ix gens 0).length from rfl]
        refine LoopWP.to w.length (fun s : List Int × Nat => s.2) (fun s => s.2 ≤ w.length ∧ s.1 = runW gens (iota (ix gens 0).length) (w.take s.2)) ⟨by simp, by simp [runW]⟩ (fun s h => h.1) ?_
        rintro ⟨f, k⟩ X ⟨hk, hI⟩ hX
        simp only at hk hI
        show trans_OfWord_L2 gens w K _ f k
        unfold trans_OfWord_L2
        split
        · obtain ⟨g1, g2, g3, g4⟩ := GV.gen hg hw (k := k) (by omega)
          obtain ⟨r1, r2⟩ := runW_ok hg hw (VF_iota h0.1 h0.2) (by simp) k (by omega)
          have := (GV_iff.1 hg).2.1
          rw [wrapL32]
          refine ⟨by omega, by omega, g2, trans_Compose_ok (hX (_, k + 1) ⟨by simp only; omega, ?_⟩ rfl)⟩
          simp only
          rw [compT, if_pos (pairB_iff.2 ⟨by rw [hI]; exact r1, g3, by rw [hI]; omega⟩), runW_take (by omega), stepW, hI]
        · have : k = w.length := by omega
          rw [hI, this, List.take_length]; exact h
    · rename_i hw
      rw [if_neg (fun hh => hw hh.2)] at h; exact h
theorem compF_assoc {a b c : List Int} (ha : ∀ j : Nat, j < a.length → 0 ≤ ix a j ∧ ix a j < b.length) : compF (compF a b) c = compF a (compF b c) := list_ix (by simp) fun j hj => by
  simp only [compF_length] at hj
  have := ha j hj
  rw [ix_compF (by omega) (by simp; omega), ix_compF (by omega) (by omega), ix_compF (by omega) (by omega), ix_compF (by omega) (by omega)]
theorem compF_iota (g : List Int) {n : Nat} (hg : ∀ j : Nat, j < g.length → 0 ≤ ix g j ∧ ix g j < n) : compF g (iota n) = g := list_ix (by simp) fun j hj => by
  simp only [compF_length] at hj
  have := hg j hj
  rw [ix_compF (by omega) (by omega), ix_iota' this.1 this.2]
theorem compF_runW {gens : List (List Int)} (hg : GV gens = true) {w : Str} (hw : WV w gens.length = true) {a f : List Int} (ha : VF a = true) (hal : a.length = (ix gens 0).length) (hf : VF f = true) (hl : f.length = (ix gens 0).length) (k : Nat) (hk : k ≤ w.length) :
    compF a (runW gens f (w.take k)) = runW gens (compF a f) (w.take k) := by
  induction k with
  | zero => simp [runW]
  | succ k ih =>
    obtain ⟨r1, r2⟩ := runW_ok hg hw hf hl k (by omega)
    rw [runW_take (by omega), runW_take (by omega), ← ih (by omega), stepW, stepW]
    refine (compF_assoc fun j hj => ?_).symm
    have := (VF_iff.1 ha).2.2 j hj
    omega
theorem ofWord_app {gens : List (List Int)} (hg : GV gens = true) {u w : Str} (hu : WV u gens.length = true) (hw : WV w gens.length = true) : ofWord gens (u ++ w) = compF (ofWord gens u) (ofWord gens w) := by
  obtain ⟨u1, u2⟩ := ofWord_ok hg hu
  have h0 := GV.len0 hg
  have := compF_runW hg hw u1 u2 (VF_iota h0.1 h0.2) (by simp) w.length (Nat.le_refl _)
  rw [List.take_length] at this
  have h2 : ofWord gens (u ++ w) = runW gens (ofWord gens u) w := by simp [ofWord, runW, List.foldl_append]
  rw [h2]
  conv => rhs; unfold ofWord
  show _ = compF (ofWord gens u) (runW gens (iota (ix gens 0).length) w)
  rw [this, compF_iota _ fun j hj => ?_]
  have := (VF_iff.1 u1).2.2 j hj
  omega
theorem law11_TransWords_ok (gens : List (List Int)) (u w : Str) (hu : u.length ≤ 140737488351232) (hw : w.length ≤ 140737488351232) : law11_TransWords gens u w (fun b => b = true) := by
  unfold law11_TransWords
  refine trans_OfWord_ok (ref11_MayGens_ok ?_)
  split
  · rename_i hg
    refine fun _ => ref01_Valid_ok ?_
    split
    · rename_i hwv
      rw [if_pos (show GV gens = true ∧ WV w gens.length = true from ⟨hg, hwv⟩)]
      refine ref11_OfWord_ok hg hwv (ref03_Same_ok ?_)
      simp only [decide_true, if_true]
      refine ⟨by omega, ref01_Valid_ok ?_⟩
      split
      · rename_i huw
        refine ⟨by omega, trans_OfWord_ok ?_⟩
        have huv := (WV_app huw).1
        rw [if_pos (show GV gens = true ∧ WV (u ++ w) gens.length = true from ⟨hg, huw⟩)]
        refine trans_OfWord_ok ?_
        rw [if_pos (show GV gens = true ∧ WV u gens.length = true from ⟨hg, huv⟩)]
        refine trans_Compose_ok (ref03_Same_ok ?_)
        obtain ⟨u1, u2⟩ := ofWord_ok hg huv
        obtain ⟨w1, w2⟩ := ofWord_ok hg hwv
        rw [compT, if_pos (pairB_iff.2 ⟨u1, w1, u2.trans w2.symm⟩), ofWord_app hg huv hwv]
        simp only [decide_true, if_true]
        exact law11_awake_ok rfl
      · exact law11_awake_ok rfl
    · rename_i hwv
      rw [if_neg (fun hh => hwv hh.2)]
      exact fun _ => law11_awake_ok rfl
  · rename_i hg
    rw [if_neg (fun hh => hg hh.1)]
    exact fun _ => law11_awake_ok rfl
end Sg
