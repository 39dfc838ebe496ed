/- Tables: what generates closes; what is needed. Plain laws. -/
import Derived.Test.YtolobiljalelgaaMultN
namespace Sg
open Go

theorem posR_some {s : List Int} {x : Int} : ∀ k : Nat, 0 ≤ posR s k x → ∃ q : Nat, q < k ∧ ix s (q : Int) = x ∧ posR s k x = q
  | 0, h => by unfold posR at h; omega
  | k + 1, h => by
    unfold posR at h ⊢
    split
    · rename_i he; exact ⟨k, by omega, he.symm, rfl⟩
    · rename_i he
      rw [if_neg he] at h
      obtain ⟨q, hq, e, e2⟩ := posR_some k h
      exact ⟨q, by omega, e, e2⟩
theorem posR_mem {s : List Int} {x : Int} : ∀ k : Nat, (∃ q : Nat, q < k ∧ ix s (q : Int) = x) → 0 ≤ posR s k x
  | 0, ⟨q, hq, _⟩ => absurd hq (Nat.not_lt_zero _)
  | k + 1, ⟨q, hq, e⟩ => by
    unfold posR
    split
    · omega
    · rename_i he
      refine posR_mem k ⟨q, ?_, e⟩
      by_cases hqk : q = k
      · subst hqk; exact absurd e.symm he
      · omega
theorem posR_in {s : List Int} {x : Int} : 0 ≤ posR s s.length x ↔ x ∈ s := by
  rw [mem_ix]
  exact ⟨fun h => let ⟨q, hq, e, _⟩ := posR_some _ h; ⟨q, hq, e⟩, posR_mem _⟩
theorem asc_ix {s : List Int} (h : s.Pairwise (· < ·)) {i j : Nat} (hi : i < s.length) (hj : j < s.length) (he : ix s (i : Int) = ix s (j : Int)) : i = j := by
  rw [ix_lt hi, ix_lt hj] at he
  have := List.pairwise_iff_getElem.1 h
  rcases Nat.lt_trichotomy i j with hlt | rfl | hlt
  · have := this i j hi hj hlt; omega
  · rfl
  · have := this j i hj hi hlt; omega
theorem asc_P {s : List Int} (h : s.Pairwise (· < ·)) : ascP s := fun q hq => by
  rw [ix_lt (by omega), ix_lt hq]
  exact List.pairwise_iff_getElem.1 h q (q + 1) (by omega) hq (by omega)
/-- What a closed set's table is. -/
theorem mu_sub {t : List (List Int)} {s : List Int} (hc : subCl t s) {i j : Nat} (hi : i < s.length) (hj : j < s.length) : ∃ z : Nat, z < s.length ∧ mu (subTab t s) i j = z ∧ ix s (z : Int) = mu t (ix s (i : Int)) (ix s (j : Int)) := by
  obtain ⟨q, hq, e, e2⟩ := posR_some s.length (hc i j hi hj)
  refine ⟨q, hq, ?_, e⟩
  unfold mu
  rw [ix_subTab hi, ix_subRow hj]
  exact e2
theorem sub_VT {t : List (List Int)} {s : List Int} (hv : VT t = true) (hs : subOk t s) (hp : s.Pairwise (· < ·)) (hc : subCl t s) : VT (subTab t s) = true := by
  have T := SH.tb (VT.sh hv)
  have n4 := T.n4
  have hin := inB_mem.1 hs.2.1
  have hle := asc_lt hs.2.2 hin
  have h0 := hs.1
  have inn : ∀ q : Nat, q < s.length → 0 ≤ ix s (q : Int) ∧ ix s (q : Int) < (t.length : Int) := fun q hq => hin _ (ix_mem (by omega) (by omega))
  refine VT_of (by simp; omega) (by simp; omega) (fun x hx => ?_) (fun x y hx hy => ?_) fun x y z hx hy hz => ?_
  · rw [subTab_len] at hx ⊢
    rw [ix_subTab hx, subRow_len]
  · rw [subTab_len] at hx hy ⊢
    obtain ⟨z, hz, e, _⟩ := mu_sub hc hx hy
    rw [e]; omega
  · rw [subTab_len] at hx hy hz
    obtain ⟨a, ha, ea, ea2⟩ := mu_sub hc hx hy
    obtain ⟨b, hb, eb, eb2⟩ := mu_sub hc hy hz
    obtain ⟨c, hc', ec, ec2⟩ := mu_sub hc ha hz
    obtain ⟨d, hd, ed, ed2⟩ := mu_sub hc hx hb
    rw [ea, eb, ec, ed]
    have : c = d := asc_ix hp hc' hd (by
      rw [ec2, ed2, ea2, eb2]
      exact (VT.as hv).all (inn x hx) (inn y hy) (inn z hz))
    rw [this]
theorem clo_sub {t : List (List Int)} {s G : List Int} (hc : subCl t s) (hG : ∀ x ∈ G, x ∈ s) {x : Int} (hx : Clo t G x) : x ∈ s := by
  induction hx with
  | gen hg => exact hG _ hg
  | mul _ _ i1 i2 =>
    obtain ⟨i, hi, rfl⟩ := mem_ix.1 i1
    obtain ⟨j, hj, rfl⟩ := mem_ix.1 i2
    exact posR_in.1 (hc i j hi hj)
theorem law14_MultCloses_ok (t : List (List Int)) (gens s : List Int) : law14_MultCloses t gens s (fun b => b = true) := by
  unfold law14_MultCloses
  refine law14_small_ok ?_
  by_cases hs0 : (decide ((t.length : Int) ≤ 14) && VT t) = true
  · rw [if_pos hs0]
    have hs := hs0
    simp only [Bool.and_eq_true] at hs
    have hv := hs.2
    have T := SH.tb (VT.sh hv)
    have n4 := T.n4
    refine ref14_In_ok ?_
    by_cases hi : inB t.length gens = true
    · rw [if_pos hi]
      have hin := inB_mem.1 hi
      intro _
      split
      · exact law14_awake_ok rfl
      rename_i hne
      refine mult_Generated_ok (fun _ l hl => ?_) fun hn => absurd (by rw [hi, hv]; rfl) hn
      have hlin : ∀ x ∈ l, 0 ≤ x ∧ x < (t.length : Int) := fun x hx => ((hl.2 x).1 hx).in_ T hin
      have hgl : ∀ q : Nat, q < gens.length → ix gens (q : Int) ∈ l := fun q hq => (hl.2 _).2 (.gen (ix_mem (by omega) (by omega)))
      have hpos : 0 < l.length := List.length_pos_of_mem (hgl 0 (by omega))
      have hok : subOk t l := ⟨hpos, inB_mem.2 hlin, asc_P hl.1⟩
      have hcl : subCl t l := fun i j hi hj => posR_in.2 ((hl.2 _).2 (.mul ((hl.2 _).1 (ix_mem (by omega) (by omega))) ((hl.2 _).1 (ix_mem (by omega) (by omega)))))
      refine mult_Sub_ok ?_
      have eE : subE t l = 0 := by unfold subE; rw [if_pos hv, if_pos hok, if_pos hcl]
      have eT : subT t l = subTab t l := by unfold subT; rw [if_pos ⟨hv, hok, hcl⟩]
      rw [if_pos eE, eT]
      refine mult_Validate_ok ?_
      rw [if_pos (vaC0.2 (sub_VT hv hok hl.1 hcl))]
      intro _ _
      rw [if_pos (by simp)]
      intro _
      refine ref03_Set_ok (by omega) (by omega) fun b hbl hb => ?_
      rw [Int.toNat_natCast] at hbl hb
      refine LoopWP.scan gens.length (fun _ => True) ?_
      intro k X hk _ hX
      unfold law14_MultCloses_L1
      split
      · have hkl : k < gens.length := by omega
        have hg := hin _ (ix_mem (xs := gens) (i := (k : Int)) (by omega) (by omega))
        have hm := hgl k hkl
        obtain ⟨z, hz⟩ := Int.eq_ofNat_of_zero_le hg.1
        refine ⟨by omega, by omega, hg.1, by omega, ?_⟩
        rw [if_pos (by rw [hz] at hm ⊢; exact (hb z (by omega)).2 hm)]
        exact hX hkl trivial
      refine mult_Sub_ok ?_
      split
      · rename_i hE
        have hok2 : subOk t s ∧ subCl t s := by
          unfold subE at hE
          rw [if_pos hv] at hE
          split at hE
          · rename_i h1
            split at hE
            · rename_i h2; exact ⟨h1, h2⟩
            · omega
          · omega
        have hin2 := inB_mem.1 hok2.1.2.1
        refine ref03_Set_ok (by omega) (by omega) fun b2 hbl2 hb2 => ?_
        rw [Int.toNat_natCast] at hbl2 hb2
        refine LoopWP.scan gens.length (fun q => ix gens (q : Int) ∈ s) ?_
        intro k X2 hk2 hI hX2
        unfold law14_MultCloses_L2
        split
        · have hkl : k < gens.length := by omega
          have hg := hin _ (ix_mem (xs := gens) (i := (k : Int)) (by omega) (by omega))
          obtain ⟨z, hz⟩ := Int.eq_ofNat_of_zero_le hg.1
          refine ⟨by omega, by omega, hg.1, by omega, ?_⟩
          split
          · rename_i hm
            refine hX2 hkl ?_
            rw [hz] at hm ⊢
            exact (hb2 z (by omega)).1 hm
          · exact law14_awake_ok rfl
        · have hke : k = gens.length := by omega
          subst hke
          refine LoopWP.scan l.length (fun _ => True) ?_
          intro m X3 hm3 _ hX3
          unfold law14_MultCloses_L3
          split
          · have hml : m < l.length := by omega
            have hmem := ix_mem (xs := l) (i := (m : Int)) (by omega) (by omega)
            have hx := hlin _ hmem
            have hxs : ix l (m : Int) ∈ s := clo_sub hok2.2 (fun x hx => by
              obtain ⟨q, hq, rfl⟩ := mem_ix.1 hx
              exact hI q hq) ((hl.2 _).1 hmem)
            obtain ⟨z, hz⟩ := Int.eq_ofNat_of_zero_le hx.1
            refine ⟨by omega, by omega, hx.1, by omega, ?_⟩
            rw [if_pos (by rw [hz] at hxs ⊢; exact (hb2 z (by omega)).2 hxs)]
            exact hX3 hml trivial
          · exact law14_awake_ok rfl
      · exact law14_awake_ok rfl
    · rw [if_neg hi]; exact law14_awake_ok rfl
  · rw [if_neg hs0]; exact law14_awake_ok rfl

/-! ### What is needed -/
theorem clo_gre {t : List (List Int)} : ∀ k : Nat, ∀ x : Nat, x < k → Clo t (gre t k) x
  | 0, x, hx => absurd hx (Nat.not_lt_zero _)
  | k + 1, x, hx => by
    unfold gre
    split
    · rename_i hc
      by_cases hxk : x = k
      · subst hxk; exact hc
      · exact clo_gre k x (by omega)
    · by_cases hxk : x = k
      · subst hxk; exact .gen (by simp)
      · exact (clo_gre k x (by omega)).mono fun y hy => List.mem_append_left _ hy
theorem clo_ind {t : List (List Int)} {G : List Int} (T : Tb t t.length) (hG : ∀ x ∈ G, 0 ≤ x ∧ x < (t.length : Int)) {x : Int} (hx : Clo t G x) (hn : ¬ prB t x) : x ∈ G := by
  cases hx with
  | gen hg => exact hg
  | mul h1 h2 =>
    refine absurd ?_ hn
    have i1 := h1.in_ T hG
    have i2 := h2.in_ T hG
    rename_i a b
    obtain ⟨a', rfl⟩ := Int.eq_ofNat_of_zero_le i1.1
    obtain ⟨b', rfl⟩ := Int.eq_ofNat_of_zero_le i2.1
    exact ⟨a', b', by omega, by omega, rfl⟩
theorem mem_indF {t : List (List Int)} {x : Int} (h : x ∈ indF t) : (0 ≤ x ∧ x < (t.length : Int)) ∧ ¬ prB t x := by
  unfold indF at h
  rw [List.mem_filter, mem_iota] at h
  exact ⟨h.1, by simpa using h.2⟩
theorem law14_MultNeeds_ok (t : List (List Int)) (s : List Int) : law14_MultNeeds t s (fun b => b = true) := by
  unfold law14_MultNeeds
  refine law14_small_ok ?_
  by_cases hs0 : (decide ((t.length : Int) ≤ 14) && VT t) = true
  · rw [if_pos hs0]
    have hs := hs0
    simp only [Bool.and_eq_true] at hs
    have hv := hs.2
    have T := SH.tb (VT.sh hv)
    have n4 := T.n4
    refine ref14_In_ok ?_
    by_cases hi : inB t.length s = true
    · rw [if_pos hi]
      have hin := inB_mem.1 hi
      refine mult_Generators_ok ?_
      rw [if_pos hv]
      have hgin : ∀ x ∈ gre t t.length, 0 ≤ x ∧ x < (t.length : Int) := gre_in t.length
      have hgall : ∀ x : Int, 0 ≤ x ∧ x < (t.length : Int) → Clo t (gre t t.length) x := fun x hx => by
        obtain ⟨m, rfl⟩ := Int.eq_ofNat_of_zero_le hx.1
        exact clo_gre t.length m (by omega)
      refine mult_Generated_ok (fun _ l hl => ?_) fun hn => absurd (by rw [inB_mem.2 hgin, hv]; rfl) hn
      have hlen : l.length = t.length := hl.full fun x => ⟨fun hx => hx.in_ T hgin, hgall x⟩
      intro _ _
      rw [if_pos (by omega)]
      refine mult_Generated_ok (fun _ l2 hl2 => ?_) fun hn => absurd (by rw [hi, hv]; rfl) hn
      intro _
      split
      · rename_i he
        refine ref03_Set_ok (by omega) (by omega) fun b hbl hb => ref03_Set_ok (by omega) (by omega) fun b2 hbl2 hb2 => mult_Indecomposable_ok ?_
        rw [Int.toNat_natCast] at hbl hb hbl2 hb2
        rw [if_pos hv]
        refine fun _ => LoopWP.scan (indF t).length (fun _ => True) ?_
        intro k X hk _ hX
        unfold law14_MultNeeds_L1
        split
        · have hkl : k < (indF t).length := by omega
          obtain ⟨hx, hn⟩ := mem_indF (ix_mem (xs := indF t) (i := (k : Int)) (by omega) (by omega))
          have m1 := clo_ind T hgin (hgall _ hx) hn
          have m2 := clo_ind T hin (hl2.all (fun x hx => hx.in_ T hin) (by omega) hx) hn
          obtain ⟨z, hz⟩ := Int.eq_ofNat_of_zero_le hx.1
          refine ⟨by omega, by omega, hx.1, by omega, ?_⟩
          rw [if_pos (by rw [hz] at m1 ⊢; exact (hb z (by omega)).2 m1)]
          refine ⟨hx.1, by omega, ?_⟩
          rw [if_pos (by rw [hz] at m2 ⊢; exact (hb2 z (by omega)).2 m2)]
          exact hX hkl trivial
        · exact law14_awake_ok rfl
      · refine ref03_Set_ok (by omega) (by omega) fun b hbl hb => ref03_Set_ok (by omega) (by omega) fun b2 _ _ => mult_Indecomposable_ok ?_
        rw [Int.toNat_natCast] at hbl hb
        rw [if_pos hv]
        refine fun _ => LoopWP.scan (indF t).length (fun _ => True) ?_
        intro k X hk _ hX
        unfold law14_MultNeeds_L2
        split
        · have hkl : k < (indF t).length := by omega
          obtain ⟨hx, hn⟩ := mem_indF (ix_mem (xs := indF t) (i := (k : Int)) (by omega) (by omega))
          have m1 := clo_ind T hgin (hgall _ hx) hn
          obtain ⟨z, hz⟩ := Int.eq_ofNat_of_zero_le hx.1
          refine ⟨by omega, by omega, hx.1, by omega, ?_⟩
          rw [if_pos (by rw [hz] at m1 ⊢; exact (hb z (by omega)).2 m1)]
          exact hX hkl trivial
        · exact law14_awake_ok rfl
    · rw [if_neg hi]; exact law14_awake_ok rfl
  · rw [if_neg hs0]; exact law14_awake_ok rfl
end Sg
