/- Transformations: products associate; permutations and their inverses. Plain laws. -/
import Derived.Test.YtjegmdkaiddokaaTransH
namespace Sg
open Go

theorem compF_VF {f g : List Int} (hf : VF f = true) (hg : VF g = true) (hl : f.length = g.length) : VF (compF f g) = true := by
  have hn := VF.len hf
  have hlen : (compF f g).length = f.length := by simp [compF]
  refine VF_iff.2 ⟨by omega, by omega, fun j hj => ?_⟩
  rw [hlen] at hj ⊢
  have h1 := (VF_iff.1 hf).2.2 j hj
  rw [ix_compF (by omega) (by omega), hl]
  exact VF.at_ hg h1.1 (by omega)
theorem iota_VF {n : Nat} (h1 : 1 ≤ n) (h2 : n ≤ 32) : VF (iota n) = true :=
  VF_iff.2 ⟨by simpa using h1, by simpa using h2, fun j hj => by
    rw [iota_length] at hj ⊢
    rw [ix_iota hj]; omega⟩
theorem compF_as {f g h : List Int} (hf : VF f = true) (hg : VF g = true) (hfg : f.length = g.length) (hgh : g.length = h.length) : compF (compF f g) h = compF f (compF g h) := by
  have l1 : (compF f g).length = f.length := by simp [compF]
  refine list_ix (by simp [compF]) fun j hj => ?_
  have hj' : j < f.length := by simpa [compF] using hj
  have h1 := (VF_iff.1 hf).2.2 j hj'
  rw [ix_compF (by omega) (by omega), ix_compF (by omega) (by omega), ix_compF (by omega) (by omega), ix_compF h1.1 (by omega)]
theorem iota_comp {f : List Int} : compF (iota f.length) f = f :=
  list_ix (by simp [compF]) fun j hj => by
    have hj' : j < f.length := by simpa [compF] using hj
    rw [ix_compF (by omega) (by simpa using hj'), ix_iota hj']
theorem comp_iota {f : List Int} (hf : VF f = true) : compF f (iota f.length) = f :=
  list_ix (by simp [compF]) fun j hj => by
    have hj' : j < f.length := by simpa [compF] using hj
    have h1 := (VF_iff.1 hf).2.2 j hj'
    rw [ix_compF (by omega) (by omega), ix_iota' h1.1 h1.2]
theorem im_pos {f : List Int} (hf : VF f = true) : 0 < (imL f).length := by
  have hn := VF.len hf
  exact List.length_pos_of_mem (((imL_asc hf).2 (ix f ((0 : Nat) : Int))).2 (ix_mem (by omega) (by omega)))
theorem mem_compF {f g : List Int} {x : Int} : x ∈ compF f g ↔ ∃ y ∈ f, ix g y = x := by simp [compF]
theorem im_le_right {f g : List Int} (hf : VF f = true) (hg : VF g = true) (hl : f.length = g.length) : (imL (compF f g)).length ≤ (imL g).length := by
  have hc := imL_asc (compF_VF hf hg hl)
  refine nodup_sub hc.nodup fun x hx => ?_
  obtain ⟨y, hy, rfl⟩ := mem_compF.1 ((hc.2 x).1 hx)
  obtain ⟨j, hj, rfl⟩ := mem_ix.1 hy
  have h1 := (VF_iff.1 hf).2.2 j hj
  exact ((imL_asc hg).2 _).2 (ix_mem h1.1 (by omega))
theorem im_le_left {f g : List Int} (hf : VF f = true) (hg : VF g = true) (hl : f.length = g.length) : (imL (compF f g)).length ≤ (imL f).length := by
  have hc := imL_asc (compF_VF hf hg hl)
  rw [← List.length_map (as := imL f) fun y => ix g y]
  refine nodup_sub hc.nodup fun x hx => ?_
  obtain ⟨y, hy, rfl⟩ := mem_compF.1 ((hc.2 x).1 hx)
  exact List.mem_map.2 ⟨y, ((imL_asc hf).2 y).2 hy, rfl⟩
theorem law11_TransAssociates_ok (f g h : List Int) : law11_TransAssociates f g h (fun b => b = true) := by
  unfold law11_TransAssociates
  refine law11_pair_ok ?_
  by_cases hp : pairB f g = true
  · rw [if_pos hp]
    refine law11_pair_ok ?_
    by_cases hq : pairB g h = true
    · rw [if_pos hq]
      obtain ⟨hf, hg, hl⟩ := pairB_iff.1 hp
      obtain ⟨_, hh, hl2⟩ := pairB_iff.1 hq
      have hn := VF.len hf
      have hfg := compF_VF hf hg hl
      have hgh := compF_VF hg hh hl2
      have l1 : (compF f g).length = f.length := by simp [compF]
      have l2 : (compF g h).length = g.length := by simp [compF]
      have l3 : (compF (compF f g) h).length = f.length := by simp [compF]
      have e1 : compT f g = compF f g := by rw [compT, if_pos hp]
      have e2 : compT (compF f g) h = compF (compF f g) h := by rw [compT, if_pos (pairB_iff.2 ⟨hfg, hh, by omega⟩)]
      have e3 : compT g h = compF g h := by rw [compT, if_pos hq]
      have e4 : compT f (compF g h) = compF f (compF g h) := by rw [compT, if_pos (pairB_iff.2 ⟨hf, hgh, by omega⟩)]
      have hi := iota_VF hn.1 hn.2
      have e5 : compT (iota f.length) f = f := by rw [compT, if_pos (pairB_iff.2 ⟨hi, hf, by simp⟩), iota_comp]
      have e6 : compT f (iota f.length) = f := by rw [compT, if_pos (pairB_iff.2 ⟨hf, hi, by simp⟩), comp_iota hf]
      refine trans_Compose_ok (trans_Compose_ok (trans_Compose_ok (trans_Compose_ok fun _ => trans_Identity_ok (trans_Compose_ok (trans_Rank_ok fun _ => ?_)))))
      rw [if_pos (⟨by omega, by omega⟩ : (1 : Int) ≤ (f.length : Int) ∧ (f.length : Int) ≤ 32), Int.toNat_natCast, e1, e2, e3, e4, if_pos hfg, if_pos (by omega)]
      refine ref03_Same_ok ?_
      rw [if_pos (by rw [compF_as hf hg hl hl2]; simp)]
      refine trans_Compose_ok (ref03_Same_ok ?_)
      rw [e5, if_pos (by simp)]
      refine trans_Compose_ok (ref03_Same_ok ?_)
      have hpos := im_pos hfg
      have hr1 := im_le_left hf hg hl
      have hr2 := im_le_right hf hg hl
      rw [e6, if_pos (by simp), if_pos (by omega)]
      refine trans_Rank_ok ?_
      rw [if_pos hf, if_pos (by omega)]
      refine trans_Rank_ok ?_
      rw [if_pos hg, if_pos (by omega)]
      exact law11_awake_ok rfl
    · rw [if_neg hq]; exact law11_awake_ok rfl
  · rw [if_neg hp]; exact law11_awake_ok rfl

/-! ### Permutations -/
def perB (f : List Int) : Bool := VF f && decide ((imL f).length = f.length)
theorem trans_IsPermutation_ok {f : List Int} {K : Bool → Prop} (h : K (perB f)) : trans_IsPermutation f K := by
  unfold trans_IsPermutation
  refine trans_Valid_ok ?_
  by_cases hf : VF f = true
  · rw [if_pos hf]
    refine trans_Rank_ok fun _ => ?_
    rw [if_pos hf]
    unfold perB at h
    rw [hf] at h
    by_cases hl : (imL f).length = f.length
    · rw [if_pos (by omega)]; simpa [hl] using h
    · rw [if_neg (by omega)]; simpa [hl] using h
  · rw [if_neg hf]
    unfold perB at h
    rw [Bool.eq_false_iff.2 hf] at h; exact h
theorem ref11_IsPermutation_ok {f : List Int} {K : Bool → Prop} (h : K (perB f)) : ref11_IsPermutation f K := by
  unfold ref11_IsPermutation
  refine ref11_Valid_ok ?_
  by_cases hf : VF f = true
  · rw [if_pos hf]
    refine ref11_Image_ok hf fun _ _ => ?_
    unfold perB at h
    rw [hf] at h
    by_cases hl : (imL f).length = f.length
    · rw [if_pos (by omega)]; simpa [hl] using h
    · rw [if_neg (by omega)]; simpa [hl] using h
  · rw [if_neg hf]
    unfold perB at h
    rw [Bool.eq_false_iff.2 hf] at h; exact h
/-- The inverse, as it is being written. -/
def invS (f : List Int) : Nat → List Int
  | 0 => List.replicate f.length 0
  | k + 1 => st (invS f k) (ix f (k : Int)) (k : Int)
@[simp] theorem invS_len {f : List Int} : ∀ k, (invS f k).length = f.length
  | 0 => by simp [invS]
  | k + 1 => by simp [invS, invS_len k]
theorem ref11_Inverse_ok {f : List Int} (hf : VF f = true) {K : List Int → Prop} (h : K (invS f f.length)) : ref11_Inverse f K := by
  unfold ref11_Inverse
  have hn := VF.len hf
  refine fun _ => ⟨by omega, by omega, LoopWP.fold f.length (fun k (g : List Int) => g = invS f k) rfl ?_⟩
  rintro k g X hk rfl hX
  show ref11_Inverse_L1 f K _ k _
  unfold ref11_Inverse_L1
  split
  · have hkl : k < f.length := by omega
    have h1 := (VF_iff.1 hf).2.2 k hkl
    exact ⟨by omega, by omega, h1.1, by simpa using h1.2, hX _ hkl rfl⟩
  · have : k = f.length := by omega
    subst this; exact h
theorem trans_Inverse_ok {f : List Int} {K : List Int → Prop} (h : K (if perB f = true then invS f f.length else [])) : trans_Inverse f K := by
  unfold trans_Inverse
  refine trans_IsPermutation_ok ?_
  by_cases hp : perB f = true
  · rw [if_pos hp] at h ⊢
    have hf : VF f = true := by simp only [perB, Bool.and_eq_true] at hp; exact hp.1
    have hn := VF.len hf
    refine fun _ => ⟨by omega, by omega, LoopWP.fold f.length (fun k (g : List Int) => g = invS f k) rfl ?_⟩
    rintro k g X hk rfl hX
    show trans_Inverse_L1 f K _ k _
    unfold trans_Inverse_L1
    split
    · have hkl : k < f.length := by omega
      have h1 := (VF_iff.1 hf).2.2 k hkl
      exact ⟨by omega, by omega, h1.1, by simpa using h1.2, hX _ hkl rfl⟩
    · have : k = f.length := by omega
      subst this; exact h
  · rw [if_neg hp] at h ⊢; exact h
theorem invS_at {f : List Int} (hf : VF f = true) {x : Int} (h0 : 0 ≤ x) : ∀ k : Nat, k ≤ f.length → (∃ i : Nat, i < k ∧ ix f (i : Int) = x) → ∃ i : Nat, i < k ∧ ix (invS f k) x = i ∧ ix f (i : Int) = x
  | 0, _, ⟨i, hi, _⟩ => absurd hi (Nat.not_lt_zero _)
  | k + 1, hk, ⟨i, hi, e⟩ => by
    have h1 := (VF_iff.1 hf).2.2 k (by omega)
    unfold invS
    rw [ix_st _ h1.1 (by simpa using h1.2) h0]
    split
    · rename_i he; exact ⟨k, by omega, rfl, he.symm⟩
    · rename_i he
      obtain ⟨j, hj, e1, e2⟩ := invS_at hf h0 k (by omega) ⟨i, by
        by_cases hik : i = k
        · subst hik; exact absurd e.symm he
        · omega, e⟩
      exact ⟨j, by omega, e1, e2⟩
theorem law11_TransInverts_ok (f : List Int) : law11_TransInverts f (fun b => b = true) := by
  unfold law11_TransInverts
  refine trans_IsPermutation_ok (trans_Inverse_ok (ref11_IsPermutation_ok ?_))
  by_cases hp : perB f = true
  · simp only [if_pos hp]
    have hp2 := hp
    simp only [perB, Bool.and_eq_true, decide_eq_true_eq] at hp2
    have hf := hp2.1
    have hn := VF.len hf
    -- every point is reached
    have sur : ∀ x : Int, 0 ≤ x → x < f.length → ∃ i : Nat, i < f.length ∧ ix f (i : Int) = x := fun x h0 h1 => by
      have hA := imL_asc hf
      refine mem_ix.1 ((hA.2 x).1 (Classical.byContradiction fun hn2 => ?_))
      have h2 : (x :: imL f).Nodup := List.nodup_cons.2 ⟨hn2, hA.nodup⟩
      have h3 := nodup_sub (l' := iota f.length) h2 fun y hy => mem_iota.2 (by
        rcases List.mem_cons.1 hy with e | hy
        · subst e; exact ⟨h0, h1⟩
        · obtain ⟨j, hj, rfl⟩ := mem_ix.1 ((hA.2 y).1 hy)
          exact (VF_iff.1 hf).2.2 j hj)
      simp only [List.length_cons, iota_length] at h3
      omega
    have hg : ∀ x : Nat, x < f.length → ∃ i : Nat, i < f.length ∧ ix (invS f f.length) (x : Int) = i ∧ ix f (i : Int) = x := fun x hx => invS_at hf (by omega) f.length (Nat.le_refl _) (sur x (by omega) (by omega))
    have hgl : (invS f f.length).length = f.length := by simp
    have hgV : VF (invS f f.length) = true := VF_iff.2 ⟨by omega, by omega, fun j hj => by
      rw [hgl] at hj ⊢
      obtain ⟨i, hi, e, _⟩ := hg j hj
      rw [e]; omega⟩
    have hnd : (invS f f.length).Nodup := by
      refine List.pairwise_iff_getElem.2 fun i j hi hj hij he => ?_
      rw [hgl] at hi hj
      obtain ⟨a, ha, e1, e2⟩ := hg i hi
      obtain ⟨b, hb, e3, e4⟩ := hg j hj
      rw [ix_lt (by omega)] at e1 e3
      have : (a : Int) = b := by rw [← e1, ← e3]; exact he
      rw [this, e4] at e2
      omega
    have sur2 : ∀ i : Nat, i < f.length → ∃ x : Nat, x < f.length ∧ ix (invS f f.length) (x : Int) = i := fun i hi => by
      have h4 : (i : Int) ∈ invS f f.length := Classical.byContradiction fun hn2 => by
        have h3 := nodup_sub (l' := iota f.length) (List.nodup_cons.2 ⟨hn2, hnd⟩) fun y hy => mem_iota.2 (by
          rcases List.mem_cons.1 hy with e | hy
          · subst e; exact ⟨by omega, by omega⟩
          · obtain ⟨j, hj, rfl⟩ := mem_ix.1 hy
            have := (VF_iff.1 hgV).2.2 j hj
            rw [hgl] at this; exact this)
        simp only [List.length_cons, iota_length, hgl] at h3
        omega
      obtain ⟨x, hx, e⟩ := mem_ix.1 h4
      exact ⟨x, by omega, e⟩
    have c1 : compT f (invS f f.length) = iota f.length := by
      rw [compT, if_pos (pairB_iff.2 ⟨hf, hgV, hgl.symm⟩)]
      refine list_ix (by simp [compF]) fun j hj => ?_
      have hj' : j < f.length := by simpa [compF] using hj
      rw [ix_compF (by omega) (by omega), ix_iota hj']
      obtain ⟨x, hx, e⟩ := sur2 j hj'
      obtain ⟨i, hi, e1, e2⟩ := hg x hx
      have : (i : Int) = j := by rw [← e1, e]
      rw [← this, e2, e1]
    have c2 : compT (invS f f.length) f = iota f.length := by
      rw [compT, if_pos (pairB_iff.2 ⟨hgV, hf, hgl⟩)]
      refine list_ix (by simp [compF]) fun j hj => ?_
      have hj' : j < f.length := by simpa [compF] using hj
      rw [ix_compF (by omega) (by omega), ix_iota hj']
      obtain ⟨i, hi, e1, e2⟩ := hg j hj'
      rw [e1, e2]
    refine fun _ => trans_Identity_ok (ref11_Inverse_ok hf (ref03_Same_ok ?_))
    rw [if_pos (by simp), if_pos ⟨by omega, by omega⟩, Int.toNat_natCast]
    refine trans_Compose_ok (ref03_Same_ok ?_)
    rw [if_pos (by rw [c1]; simp)]
    refine trans_Compose_ok (ref03_Same_ok ?_)
    rw [if_pos (by rw [c2]; simp)]
    refine trans_Rank_ok ?_
    rw [if_pos hf, if_pos (by omega)]
    exact law11_awake_ok rfl
  · simp only [if_neg hp]
    intro _
    rw [if_pos (by simp)]
    exact law11_awake_ok rfl
end Sg
