/- Green's relations: two-sided ideals, partitions of elements that lie in each other's ideals. Plain laws. -/
import Derived.Test.YthobeabghciknaaGreen
namespace Sg
open Go
set_option linter.unusedVariables false
set_option linter.unusedSimpArgs false
theorem twoSided_ok {n : Nat} (n4 : n ≤ 400) {right left : List (List Int)} {eR eL : Nat → Nat → Prop} (hR : IdF n right eR) (hL : IdF n left eL) {K : List (List Int) → Prop} (h : ∀ r, IdF n r (fun x y => ∃ z : Nat, z < n ∧ eL z y ∧ eR x z) → K r) : green_twoSided right left K := by
  have hrl := hR.len
  have hll := hL.len
  unfold green_twoSided
  rw [hrl]
  refine fun _ => ⟨by omega, by omega, LoopWP.fold n (fun k (r : List (List Int)) => IdK n k r (fun x y => ∃ z : Nat, z < n ∧ eL z y ∧ eR x z)) IdK.start ?_⟩
  rintro k r X hk hI hX
  show green_twoSided_L1 right left K _ k r
  unfold green_twoSided_L1
  have hlen := hI.len
  rw [List.length_replicate, hrl]
  split
  · have hkt' : k < n := by omega
    refine newIdeal_ok n4 fun s0 hs0 h0 => ⟨by omega, by omega, ?_⟩
    refine LoopWP.fold n (fun m (q : List (List Int)) => ∃ s, q = st r (k : Int) s ∧ IdW n s ∧ ∀ x : Nat, x < n → (hasB s x = true ↔ ∃ z : Nat, z < m ∧ eL z k ∧ eR x z)) ⟨s0, rfl, hs0, fun x hx => ?_⟩ ?_
    · rw [h0]
      exact ⟨(fun hh => by cases hh), fun ⟨j, hj, _⟩ => absurd hj (Nat.not_lt_zero _)⟩
    rintro m q X2 hm ⟨s, rfl, hs, hh⟩ hX2
    show green_twoSided_L2 right left k _ K _ m _
    unfold green_twoSided_L2
    rw [hrl]
    split
    · have hml : m < n := by omega
      refine ⟨by omega, by omega, has_ok n4 (hL.wd k hkt') hml ?_⟩
      have hq := hL.has m k hml hkt'
      split
      · rename_i hb
        have hu := hR.wd m hml
        refine ⟨by omega, by rw [st_length]; omega, by omega, by omega, ?_⟩
        refine LoopWP.fold s.length (fun w (d : List (List Int)) => ∃ s', d = st r (k : Int) s' ∧ s'.length = s.length ∧ (∀ j : Nat, j < w → ix s' (j : Int) = bits .or .u64 (ix s (j : Int)) (ix (ix right (m : Int)) (j : Int))) ∧ ∀ j : Nat, w ≤ j → ix s' (j : Int) = ix s (j : Int)) ⟨s, rfl, rfl, fun j hj => by omega, fun j hj => rfl⟩ ?_
        rintro w d X3 hw ⟨s', rfl, hl', hlo, hhi⟩ hX3
        show green_twoSided_L3 right k m _ _ K _ w _
        unfold green_twoSided_L3
        rw [ix_st_same (by omega), ix_st_same (by omega)]
        have hsl := hs.len
        have hul := hu.len
        split
        · rename_i hws
          refine ⟨by omega, by omega, by rw [st_length]; omega, by omega, by omega, by omega, by omega, by omega, by rw [st_length]; omega, by omega, ⟨by omega, by omega⟩, hX3 _ (by omega) ⟨_, st_st, by rw [st_length]; exact hl', fun j hj => ?_, fun j hj => ?_⟩⟩
          · rw [ix_st _ (by omega) (by omega) (by omega)]
            by_cases hjw : j = w
            · subst hjw; rw [if_pos rfl, hhi j (Nat.le_refl _)]
            · rw [if_neg (by omega)]; exact hlo j (by omega)
          · rw [ix_st _ (by omega) (by omega) (by omega), if_neg (by omega)]; exact hhi j (by omega)
        · obtain rfl : w = s.length := by omega
          refine hX2 _ (by omega) ⟨s', rfl, ⟨by rw [hl']; exact hs.len, fun j hj => ?_⟩, fun x hx => ?_⟩
          · rw [hlo j (by omega)]
            have := uniW hs hu (j := j) (by omega)
            exact ⟨this.1, this.2.1⟩
          · obtain ⟨hxl, _⟩ := hs.at_ hx
            have e1 : hasB s' x = (hasB s x || hasB (ix right (m : Int)) x) := by
              unfold hasB
              rw [hlo (x / 64) hxl]
              exact (uniW hs hu hxl).2.2 (x % 64)
            rw [e1, Bool.or_eq_true, hh x hx, hR.has x m hx hml]
            constructor
            · rintro (⟨z, hz, h1⟩ | h1)
              · exact ⟨z, by omega, h1⟩
              · exact ⟨m, by omega, hq.1 hb, h1⟩
            · rintro ⟨z, hz, h1, h2⟩
              by_cases hzm : z = m
              · subst hzm; exact .inr h2
              · exact .inl ⟨z, by omega, h1, h2⟩
      · rename_i hb
        refine hX2 _ (by omega) ⟨s, rfl, hs, fun x hx => ?_⟩
        rw [hh x hx]
        constructor
        · rintro ⟨z, hz, h1⟩; exact ⟨z, by omega, h1⟩
        · rintro ⟨z, hz, h1, h2⟩
          by_cases hzm : z = m
          · subst hzm; exact absurd (hq.2 h1) hb
          · exact ⟨z, by omega, h1, h2⟩
    · obtain rfl : m = n := by omega
      exact ⟨⟨by omega, by omega⟩, hX _ hkt' (hI.put hkt' hs hh)⟩
  · obtain rfl : k = n := by omega
    exact h r hI.fin

/-! ### Partitions of points -/
/-- p is the partition of n points into classes of e. -/
structure PartOf (p : List Int) (n : Nat) (e : Nat → Nat → Prop) : Prop where
  len : p.length = n
  can : CanP p
  ker : ∀ i j : Nat, i < n → j < n → (ix p (i : Int) = ix p (j : Int) ↔ e i j)
theorem PartOf.uniq {p q : List Int} {n : Nat} {e e' : Nat → Nat → Prop} (hp : PartOf p n e) (hq : PartOf q n e') (h : ∀ i j : Nat, i < n → j < n → (e i j ↔ e' i j)) : p = q := by
  have h1 := hp.len
  have h2 := hq.len
  exact (IsCan.self hp.can).uniq (IsCan.self hq.can) (by omega) fun i j hi hj => by rw [hp.ker i j (by omega) (by omega), hq.ker i j (by omega) (by omega)]; exact h i j (by omega) (by omega)
theorem IsCan.part {κ : Type} [Inhabited κ] {p : List Int} {l : List κ} {n : Nat} {e : Nat → Nat → Prop} (h : IsCan p l) (hl : l.length = n) (he : ∀ i j : Nat, i < n → j < n → (ix l (i : Int) = ix l (j : Int) ↔ e i j)) : PartOf p n e :=
  ⟨h.len.trans hl, h.can, fun i j hi hj => (h.ker i j (by omega) (by omega)).trans (he i j hi hj)⟩
theorem CanP.le {p : List Int} (hp : CanP p) : ∀ k : Nat, k < p.length → ix p (k : Int) ≤ (k : Int) := by
  intro k
  induction k using Nat.strongRecOn with
  | _ k ih =>
    intro hk
    by_cases h0 : ix p (k : Int) ≤ 0
    · omega
    · obtain ⟨j, hj, he⟩ := (hp k hk).2 (ix p (k : Int) - 1) (by omega) (by omega)
      have := ih j hj (by omega); omega
/-- The least point of the class. -/
structure Lst (e : Nat → Nat → Prop) (l : List Int) (k : Nat) : Prop where
  at_ : ∀ j : Nat, j < k → ∃ m : Nat, m ≤ j ∧ ix l (j : Int) = (m : Int) ∧ e m j ∧ ∀ i : Nat, i < m → ¬ e i j
theorem Lst.ker {e : Nat → Nat → Prop} {l : List Int} {n : Nat} (h : Lst e l n) (hs : ∀ i j : Nat, i < n → j < n → e i j → e j i) (ht : ∀ i j k : Nat, i < n → j < n → k < n → e i j → e j k → e i k) (i j : Nat) (hi : i < n) (hj : j < n) : ix l (i : Int) = ix l (j : Int) ↔ e i j := by
  obtain ⟨a, ha, ea, fa, ga⟩ := h.at_ i hi
  obtain ⟨b, hb, eb, fb, gb⟩ := h.at_ j hj
  rw [ea, eb]
  constructor
  · intro hab
    obtain rfl : a = b := by omega
    exact ht i a j hi (by omega) hj (hs a i (by omega) hi fa) fb
  · intro hij
    rcases Nat.lt_trichotomy a b with hab | hab | hab
    · exact absurd (ht a i j (by omega) hi hj fa hij) (gb a hab)
    · rw [hab]
    · exact absurd (ht b j i (by omega) hj hi fb (hs i j hi hj hij)) (ga b hab)
theorem Lst.put {e : Nat → Nat → Prop} {l : List Int} {n k m : Nat} (h : Lst e l k) (hl : l.length = n) (hk : k < n) (hm : m ≤ k) (he : e m k) (hn : ∀ i : Nat, i < m → ¬ e i k) : Lst e (st l (k : Int) (m : Int)) (k + 1) := by
  refine ⟨fun j hj => ?_⟩
  rw [ix_st _ (by omega) (by omega) (by omega)]
  by_cases hjk : j = k
  · subst hjk; rw [if_pos rfl]; exact ⟨m, hm, rfl, he, hn⟩
  · rw [if_neg (by omega)]; exact h.at_ j (by omega)
theorem green_mutual_ok {n : Nat} (n4 : n ≤ 400) {r : List (List Int)} {le : Nat → Nat → Prop} (hr : IdF n r le) (hrf : ∀ i : Nat, i < n → le i i) (htr : ∀ i j k : Nat, i < n → j < n → k < n → le i j → le j k → le i k)
    {K : List Int → Prop} (h : ∀ p, PartOf p n (fun i j => le i j ∧ le j i) → K p) : green_mutual r K := by
  have hrl := hr.len
  unfold green_mutual
  rw [hrl]
  refine fun _ => ⟨by omega, by omega, LoopWP.fold n (fun k (c : List Int) => c.length = n ∧ Lst (fun i j => le i j ∧ le j i) c k) ⟨by simp, ⟨fun j hj => by omega⟩⟩ ?_⟩
  rintro k c X hk ⟨hl, hI⟩ hX
  show green_mutual_L1 r K _ k c
  unfold green_mutual_L1
  rw [hrl]
  split
  · have hkn : k < n := by omega
    refine ⟨by omega, by omega, ?_⟩
    refine LoopWP.scan k (fun y => ¬ (le y k ∧ le k y)) ?_
    rintro y X2 hy hno hX2
    show green_mutual_L2 r k c _ K X2 y
    unfold green_mutual_L2
    rw [hrl]
    split
    · refine ⟨by omega, by omega, has_ok n4 (hr.wd k hkn) (by omega) ?_⟩
      have h1 := hr.has y k (by omega) hkn
      have h2 := hr.has k y hkn (by omega)
      split
      · rename_i hb
        refine ⟨by omega, by omega, has_ok n4 (hr.wd y (by omega)) hkn ?_⟩
        split
        · rename_i hb2
          refine ⟨by omega, by rw [st_length]; omega, hX _ hkn ⟨by rw [st_length, st_length]; exact hl, ?_⟩⟩
          rw [st_st]
          exact hI.put hl hkn hy ⟨h1.1 hb, h2.1 hb2⟩ hno
        · rename_i hb2
          exact ⟨⟨by omega, by omega⟩, hX2 (by omega) fun hh => hb2 (h2.2 hh.2)⟩
      · rename_i hb
        exact ⟨⟨by omega, by omega⟩, hX2 (by omega) fun hh => hb (h1.2 hh.1)⟩
    · obtain rfl : y = k := by omega
      exact hX _ hkn ⟨by rw [st_length]; exact hl, hI.put hl hkn (Nat.le_refl _) ⟨hrf y hkn, hrf y hkn⟩ hno⟩
  · obtain rfl : k = n := by omega
    exact partition_Canonical_ok (by omega) fun p hp => h p (hp.part hl fun i j hi hj => hI.ker (fun i j _ _ hh => ⟨hh.2, hh.1⟩) (fun i j k hi hj hk a b => ⟨htr i j k hi hj hk a.1 b.1, htr k j i hk hj hi b.2 a.2⟩) i j hi hj)
end Sg
