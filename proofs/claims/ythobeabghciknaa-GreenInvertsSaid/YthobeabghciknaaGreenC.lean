/- Partitions: validity, meets, classes; the reference's ideals. Plain laws. -/
import Derived.Test.YthobeabghciknaaGreenB
namespace Sg
open Go
set_option linter.unusedVariables false
set_option linter.unusedSimpArgs false
theorem partition_Valid_ok {p : List Int} (hp : CanP p) (hl : p.length ≤ 4096) {K : Bool → Prop} (h : K true) : partition_Valid p K := by
  unfold partition_Valid
  intro _
  rw [if_neg (by omega)]
  refine LoopWP.foldR p.length (fun k (c : Nat) => c ≤ k ∧ ∀ v : Int, (0 ≤ v ∧ v < (c : Int)) ↔ ∃ j : Nat, j < k ∧ ix p (j : Int) = v) 0 (by omega) ⟨by omega, fun v => ⟨fun hh => by omega, fun ⟨j, hj, _⟩ => absurd hj (Nat.not_lt_zero _)⟩⟩ ?_
  rintro k c X hk ⟨hck, hI⟩ hX
  show partition_Valid_L1 p K _ c k
  unfold partition_Valid_L1
  split
  · have hkp : k < p.length := by omega
    obtain ⟨p0, p1⟩ := hp k hkp
    have hle : ix p (k : Int) ≤ (c : Int) := by
      by_cases hlt : (c : Int) < ix p (k : Int)
      · have := (hI (c : Int)).2 (p1 _ (by omega) hlt); omega
      · omega
    refine ⟨by omega, by omega, ?_⟩
    rw [if_neg (by omega), if_neg (by omega)]
    split
    · rename_i he
      refine ⟨⟨by omega, by omega⟩, hX _ hkp ⟨by omega, fun v => ?_⟩⟩
      constructor
      · intro hv
        by_cases hvc : v = (c : Int)
        · exact ⟨k, by omega, by rw [he, hvc]⟩
        · obtain ⟨j, hj, hh⟩ := (hI v).1 (by omega); exact ⟨j, by omega, hh⟩
      · rintro ⟨j, hj, hh⟩
        by_cases hjk : j = k
        · subst hjk; omega
        · have := (hI v).2 ⟨j, by omega, hh⟩; omega
    · rename_i he
      refine hX _ hkp ⟨by omega, fun v => ?_⟩
      rw [hI v]
      constructor
      · rintro ⟨j, hj, hh⟩; exact ⟨j, by omega, hh⟩
      · rintro ⟨j, hj, hh⟩
        by_cases hjk : j = k
        · subst hjk
          exact (hI v).1 (by omega)
        · exact ⟨j, by omega, hh⟩
  · exact h
theorem ref03_Valid_ok {p : List Int} (hp : CanP p) (hl : p.length ≤ 4096) {K : Bool → Prop} (h : K true) : ref03_Valid p K := by
  unfold ref03_Valid
  intro _
  rw [if_pos (by omega)]
  refine ref03_Canonical_ok hl fun q hq => ref03_Same_ok ?_
  rw [decide_eq_true ((IsCan.self hp).uniq hq rfl fun _ _ _ _ => Iff.rfl)]
  exact h
theorem partition_Count_ok {p : List Int} (hp : CanP p) (hl : p.length ≤ 4096) {K : Int → Prop} (h : ∀ c, IsCnt p c → K c) : partition_Count p K := by
  unfold partition_Count
  refine partition_Valid_ok hp hl ?_
  rw [if_pos rfl]
  exact ref03_Count_ok hp hl h
/-- The classes as lists. -/
def clsF (p : List Int) (c : Nat) : List (List Int) := (iota c).map fun v => (iota p.length).filter fun i => decide (ix p i = v)
theorem clsF_len {p : List Int} {c : Nat} : (clsF p c).length = c := by simp [clsF]
theorem ix_clsF {p : List Int} {c v : Nat} (h : v < c) : ix (clsF p c) (v : Int) = (iota p.length).filter fun i => decide (ix p i = (v : Int)) := by
  unfold clsF
  rw [ix_map _ (by omega) (by simpa using h), ix_iota h]
theorem cnt_le {p : List Int} (hp : CanP p) {c : Int} (hc : IsCnt p c) : c ≤ (p.length : Int) := by
  by_cases h : (p.length : Int) < c
  · obtain ⟨j, hj, he⟩ := (hc.2 (c - 1)).1 ⟨by omega, by omega⟩
    have := hp.le j hj; omega
  · omega
theorem ref03_Classes_ok {p : List Int} (hp : CanP p) (hl : p.length ≤ 400) {K : List (List Int) → Prop} (h : ∀ c : Nat, IsCnt p c → K (clsF p c)) : ref03_Classes p K := by
  unfold ref03_Classes
  refine ref03_Count_ok hp (by omega) fun c hc => ?_
  have hcl := cnt_le hp hc
  obtain ⟨c, rfl⟩ := Int.eq_ofNat_of_zero_le hc.1
  refine ⟨by omega, by omega, fun _ => LoopWP.fold p.length (fun k (r : List (List Int)) => r.length = c ∧ ∀ v : Nat, v < c → ix r (v : Int) = (iota k).filter fun i => decide (ix p i = (v : Int))) ⟨by simp, fun v hv => ?_⟩ ?_⟩
  · rw [ix_replicate _ _ (by simpa using hv)]; rfl
  rintro k r X hk ⟨hr, hI⟩ hX
  show ref03_Classes_L1 p K _ k r
  unfold ref03_Classes_L1
  split
  · have hkp : k < p.length := by omega
    have hv := (hc.2 (ix p (k : Int))).2 ⟨k, hkp, rfl⟩
    obtain ⟨v, hv'⟩ := Int.eq_ofNat_of_zero_le hv.1
    rw [hv'] at hv ⊢
    have hvc : v < c := by omega
    refine ⟨by omega, by omega, by omega, by omega, ?_, by omega, by omega, hX _ hkp ⟨by rw [st_length]; exact hr, fun u hu => ?_⟩⟩
    · rw [hI v hvc]
      have := List.length_filter_le (fun i => decide (ix p i = (v : Int))) (iota k); simp at this ⊢; omega
    · rw [ix_st _ (by omega) (by omega) (by omega), iota_succ, List.filter_append]
      by_cases huv : u = v
      · subst huv
        rw [if_pos rfl, hI u hvc]
        simp [hv']
      · rw [if_neg (by omega), hI u hu]
        have : ¬ (v : Int) = (u : Int) := by omega
        simp [hv', this]
  · obtain rfl : k = p.length := by omega
    have : r = clsF p c := by
      refine list_ix (by rw [clsF_len, hr]) fun j hj => ?_
      rw [ix_clsF (by omega)]; exact hI j (by omega)
    rw [this]
    exact h c hc
theorem partition_Classes_ok {p : List Int} (hp : CanP p) (hl : p.length ≤ 400) {K : List (List Int) → Prop} (h : ∀ c : Nat, IsCnt p c → K (clsF p c)) : partition_Classes p K := by
  unfold partition_Classes
  refine partition_Valid_ok hp (by omega) ?_
  rw [if_pos rfl]
  refine partition_Count_ok hp (by omega) fun c hc => ?_
  have := ref03_Classes_ok hp hl (K := K) h
  unfold ref03_Classes at this
  have hcl := cnt_le hp hc
  obtain ⟨c, rfl⟩ := Int.eq_ofNat_of_zero_le hc.1
  refine ⟨by omega, by omega, fun _ => LoopWP.fold p.length (fun k (r : List (List Int)) => r.length = c ∧ ∀ v : Nat, v < c → ix r (v : Int) = (iota k).filter fun i => decide (ix p i = (v : Int))) ⟨by simp, fun v hv => ?_⟩ ?_⟩
  · rw [ix_replicate _ _ (by simpa using hv)]; rfl
  rintro k r X hk ⟨hr, hI⟩ hX
  show partition_Classes_L1 p K _ k r
  unfold partition_Classes_L1
  split
  · have hkp : k < p.length := by omega
    have hv := (hc.2 (ix p (k : Int))).2 ⟨k, hkp, rfl⟩
    obtain ⟨v, hv'⟩ := Int.eq_ofNat_of_zero_le hv.1
    rw [hv'] at hv ⊢
    have hvc : v < c := by omega
    refine ⟨by omega, by omega, by omega, by omega, ?_, by omega, by omega, hX _ hkp ⟨by rw [st_length]; exact hr, fun u hu => ?_⟩⟩
    · rw [hI v hvc]
      have := List.length_filter_le (fun i => decide (ix p i = (v : Int))) (iota k); simp at this ⊢; omega
    · rw [ix_st _ (by omega) (by omega) (by omega), iota_succ, List.filter_append]
      by_cases huv : u = v
      · subst huv
        rw [if_pos rfl, hI u hvc]
        simp [hv']
      · rw [if_neg (by omega), hI u hu]
        have : ¬ (v : Int) = (u : Int) := by omega
        simp [hv', this]
  · obtain rfl : k = p.length := by omega
    have : r = clsF p c := by
      refine list_ix (by rw [clsF_len, hr]) fun j hj => ?_
      rw [ix_clsF (by omega)]; exact hI j (by omega)
    rw [this]
    exact h c hc
theorem partition_canonical_2_int_ok {l : List (Int × Int)} (hl : l.length ≤ 4096) {K : List Int → Prop} (h : ∀ p, IsCan p l → K p) : partition_canonical_2_int l K := by
  unfold partition_canonical_2_int
  refine fun _ => ⟨by omega, by omega, LoopWP.fold l.length (fun k (s : List ((Int × Int) × Int) × List Int) => CN l k s.1 s.2) CN.start ?_⟩
  rintro k ⟨m, p⟩ X hk hI hX
  show partition_canonical_2_int_L1 l K _ k m p
  unfold partition_canonical_2_int_L1
  have hlen : p.length = l.length := hI.len
  split
  · refine ⟨by omega, by omega, ?_⟩
    split
    · rename_i hx
      exact ⟨by omega, by omega, hX _ (by omega) (hI.old (by omega) hx)⟩
    · rename_i hx
      exact ⟨by omega, by omega, hX _ (by omega) (hI.new (by omega) hx)⟩
  · obtain rfl : k = l.length := by omega
    exact h p hI.fin
theorem partition_Meet_ok {p q : List Int} {n : Nat} (n4 : n ≤ 400) {e e' : Nat → Nat → Prop} (hp : PartOf p n e) (hq : PartOf q n e') {K : List Int → Prop} (h : ∀ m, PartOf m n (fun i j => e i j ∧ e' i j) → K m) : partition_Meet p q K := by
  have h1 := hp.len
  have h2 := hq.len
  unfold partition_Meet partition_matching
  refine fun _ _ => ?_
  rw [if_pos (by omega)]
  refine partition_Valid_ok hp.can (by omega) ?_
  rw [if_pos rfl]
  refine partition_Valid_ok hq.can (by omega) ?_
  show (if true = true then _ else _)
  rw [if_pos rfl]
  refine fun _ => ⟨by omega, by omega, LoopWP.fold p.length (fun k (l : List (Int × Int)) => l.length = n ∧ ∀ j : Nat, j < k → ix l (j : Int) = (ix p (j : Int), ix q (j : Int))) ⟨by simp [h1], fun j hj => by omega⟩ ?_⟩
  rintro k l X hk ⟨hl, hI⟩ hX
  show partition_Meet_L1 p q K _ k l
  unfold partition_Meet_L1
  split
  · refine ⟨by omega, by omega, by omega, by omega, by omega, by omega, hX _ (by omega) ⟨by rw [st_length]; exact hl, fun j hj => ?_⟩⟩
    rw [ix_st _ (by omega) (by omega) (by omega)]
    by_cases hjk : j = k
    · subst hjk; rw [if_pos rfl]
    · rw [if_neg (by omega)]; exact hI j (by omega)
  · refine partition_canonical_2_int_ok (by omega) fun m hm => h m (hm.part hl fun i j hi hj => ?_)
    rw [hI i (by omega), hI j (by omega), Prod.mk.injEq, hp.ker i j hi hj, hq.ker i j hi hj]
theorem ref03_Meet_ok {p q : List Int} {n : Nat} (n4 : n ≤ 400) {e e' : Nat → Nat → Prop} (hp : PartOf p n e) (hq : PartOf q n e') {K : List Int → Prop} (h : ∀ m, PartOf m n (fun i j => e i j ∧ e' i j) → K m) : ref03_Meet p q K := by
  have h1 := hp.len
  have h2 := hq.len
  unfold ref03_Meet
  refine fun _ => ⟨by omega, by omega, LoopWP.fold p.length (fun k (l : List Int) => l.length = n ∧ ∀ j : Nat, j < k → ix l (j : Int) = ix p (j : Int) * 4096 + ix q (j : Int)) ⟨by simp [h1], fun j hj => by omega⟩ ?_⟩
  rintro k l X hk ⟨hl, hI⟩ hX
  show ref03_Meet_L1 p q K _ k l
  unfold ref03_Meet_L1
  split
  · have a1 := hp.can k (by omega)
    have a2 := hp.can.le k (by omega)
    have b1 := hq.can k (by omega)
    have b2 := hq.can.le k (by omega)
    refine ⟨by omega, by omega, ⟨by omega, by omega⟩, by omega, by omega, ⟨by omega, by omega⟩, by omega, by omega, hX _ (by omega) ⟨by rw [st_length]; exact hl, fun j hj => ?_⟩⟩
    rw [ix_st _ (by omega) (by omega) (by omega)]
    by_cases hjk : j = k
    · subst hjk; rw [if_pos rfl]
    · rw [if_neg (by omega)]; exact hI j (by omega)
  · refine ref03_Canonical_ok (by omega) fun m hm => h m (hm.part hl fun i j hi hj => ?_)
    rw [hI i (by omega), hI j (by omega), ← hp.ker i j hi hj, ← hq.ker i j hi hj]
    have a1 := hp.can i (by omega)
    have a2 := hp.can j (by omega)
    have b1 := hq.can i (by omega)
    have b2 := hq.can j (by omega)
    have c1 := hq.can.le i (by omega)
    have c2 := hq.can.le j (by omega)
    constructor
    · intro hh; omega
    · rintro ⟨r1, r2⟩; rw [r1, r2]

/-! ### The reference's ideals -/
/-- b is the set of x with p x. -/
structure SetB (n : Nat) (b : List Bool) (p : Nat → Prop) : Prop where
  len : b.length = n
  has : ∀ x : Nat, x < n → (ix b (x : Int) = true ↔ p x)
theorem SetB.put {n : Nat} {b : List Bool} {p : Nat → Prop} (h : SetB n b p) {z : Nat} (hz : z < n) {q : Nat → Prop} (hq : ∀ x : Nat, x < n → (q x ↔ p x ∨ x = z)) : SetB n (st b (z : Int) true) q := by
  refine ⟨by rw [st_length]; exact h.len, fun x hx => ?_⟩
  rw [ix_st _ (by omega) (by rw [h.len]; omega) (by omega), hq x hx, ← h.has x hx]
  by_cases hxz : x = z
  · subst hxz; rw [if_pos rfl]; exact ⟨fun _ => .inr rfl, fun _ => rfl⟩
  · rw [if_neg (by omega)]; exact ⟨.inl, fun hh => hh.resolve_right hxz⟩
theorem SetB.empty {n : Nat} : SetB n (List.replicate n false) (fun _ => False) := ⟨by simp, fun x hx => by rw [ix_replicate _ _ hx]; exact ⟨(fun h => by cases h), False.elim⟩⟩
theorem ref15_Right_ok {t : List (List Int)} (ht : SH t = true) {x : Nat} (hx : x < t.length) {K : List Bool → Prop} (h : ∀ b, SetB t.length b (fun y => leR t y x) → K b) : ref15_Right t (x : Int) K := by
  have T := SH.tb ht
  have n4 := T.n4
  have hrow := T.row (x : Int) (by omega) (by omega)
  unfold ref15_Right
  refine fun _ => ⟨by omega, by omega, by omega, by simp; omega, by omega, by omega, fun _ => ?_⟩
  refine LoopWP.fold (ix t (x : Int)).length (fun k (b : List Bool) => SetB t.length b (fun y => y = x ∨ ∃ s : Nat, s < k ∧ mu t (x : Int) (s : Int) = (y : Int))) (SetB.empty.put hx fun y hy => ?_) ?_
  · constructor
    · rintro (h1 | ⟨j, hj, _⟩)
      · exact .inr h1
      · exact absurd hj (Nat.not_lt_zero _)
    · rintro (h1 | h1)
      · exact h1.elim
      · exact .inl h1
  rintro k b X hk hI hX
  show ref15_Right_L1 t x K _ k b
  unfold ref15_Right_L1
  have hl := hI.len
  split
  · have hb := T.mu (x := (x : Int)) (y := (k : Int)) (by omega) (by omega) (by omega) (by omega)
    obtain ⟨z, hz⟩ := Int.eq_ofNat_of_zero_le hb.1
    have hz' : ix (ix t (x : Int)) (k : Int) = (z : Int) := hz
    have hzl : z < t.length := by omega
    rw [hz']
    refine ⟨by omega, by omega, by omega, by omega, hX _ (by omega) (hI.put hzl fun y hy => ?_)⟩
    constructor
    · rintro (h1 | ⟨j, hj, h1⟩)
      · exact .inl (.inl h1)
      · by_cases hjk : j = k
        · subst hjk; right; rw [hz] at h1; omega
        · exact .inl (.inr ⟨j, by omega, h1⟩)
    · rintro ((h1 | ⟨j, hj, h1⟩) | h1)
      · exact .inl h1
      · exact .inr ⟨j, by omega, h1⟩
      · exact .inr ⟨k, by omega, by rw [h1]; exact hz⟩
  · obtain rfl : k = (ix t (x : Int)).length := by omega
    refine h b ⟨hl, fun y hy => ?_⟩
    rw [hI.has y hy, hrow]; rfl
theorem ref15_Left_ok {t : List (List Int)} (ht : SH t = true) {x : Nat} (hx : x < t.length) {K : List Bool → Prop} (h : ∀ b, SetB t.length b (fun y => leL t y x) → K b) : ref15_Left t (x : Int) K := by
  have T := SH.tb ht
  have n4 := T.n4
  unfold ref15_Left
  refine fun _ => ⟨by omega, by omega, by omega, by simp; omega, ?_⟩
  refine LoopWP.fold t.length (fun k (b : List Bool) => SetB t.length b (fun y => y = x ∨ ∃ s : Nat, s < k ∧ mu t (s : Int) (x : Int) = (y : Int))) (SetB.empty.put hx fun y hy => ?_) ?_
  · constructor
    · rintro (h1 | ⟨j, hj, _⟩)
      · exact .inr h1
      · exact absurd hj (Nat.not_lt_zero _)
    · rintro (h1 | h1)
      · exact h1.elim
      · exact .inl h1
  rintro k b X hk hI hX
  show ref15_Left_L1 t x K _ k b
  unfold ref15_Left_L1
  have hl := hI.len
  split
  · have hrow := T.row (k : Int) (by omega) (by omega)
    have hb := T.mu (x := (k : Int)) (y := (x : Int)) (by omega) (by omega) (by omega) (by omega)
    obtain ⟨z, hz⟩ := Int.eq_ofNat_of_zero_le hb.1
    have hz' : ix (ix t (k : Int)) (x : Int) = (z : Int) := hz
    have hzl : z < t.length := by omega
    rw [hz']
    refine ⟨by omega, by omega, by omega, by omega, by omega, by omega, hX _ (by omega) (hI.put hzl fun y hy => ?_)⟩
    constructor
    · rintro (h1 | ⟨j, hj, h1⟩)
      · exact .inl (.inl h1)
      · by_cases hjk : j = k
        · subst hjk; right; rw [hz] at h1; omega
        · exact .inl (.inr ⟨j, by omega, h1⟩)
    · rintro ((h1 | ⟨j, hj, h1⟩) | h1)
      · exact .inl h1
      · exact .inr ⟨j, by omega, h1⟩
      · exact .inr ⟨k, by omega, by rw [h1]; exact hz⟩
  · obtain rfl : k = t.length := by omega
    exact h b ⟨hl, fun y hy => hI.has y hy⟩
theorem ref15_Both_ok {t : List (List Int)} (ht : SH t = true) {x : Nat} (hx : x < t.length) {K : List Bool → Prop} (h : ∀ b, SetB t.length b (fun y => leJ t y x) → K b) : ref15_Both t (x : Int) K := by
  have T := SH.tb ht
  have n4 := T.n4
  unfold ref15_Both
  refine fun _ => ⟨by omega, by omega, ref15_Left_ok ht hx fun l hl => fun _ => ?_⟩
  have hll := hl.len
  refine LoopWP.fold l.length (fun k (b : List Bool) => SetB t.length b (fun y => ∃ z : Nat, z < k ∧ leL t z x ∧ leR t y z)) ⟨by simp, fun y hy => ?_⟩ ?_
  · rw [ix_replicate _ _ hy]
    exact ⟨(fun hh => by cases hh), fun ⟨j, hj, _⟩ => absurd hj (Nat.not_lt_zero _)⟩
  rintro k b X hk hI hX
  show ref15_Both_L1 t l K _ k b
  unfold ref15_Both_L1
  have hbl := hI.len
  split
  · have hkn : k < t.length := by omega
    have hrow := T.row (k : Int) (by omega) (by omega)
    have hk1 := hl.has k hkn
    refine ⟨by omega, by omega, ?_⟩
    split
    · rename_i hb
      refine ⟨by omega, by omega, by omega, by omega, fun _ => ?_⟩
      refine LoopWP.fold (ix t (k : Int)).length (fun m (d : List Bool) => SetB t.length d (fun y => (∃ z : Nat, z < k ∧ leL t z x ∧ leR t y z) ∨ y = k ∨ ∃ s : Nat, s < m ∧ mu t (k : Int) (s : Int) = (y : Int))) (hI.put hkn fun y hy => ?_) ?_
      · constructor
        · rintro (h1 | h1 | ⟨j, hj, _⟩)
          · exact .inl h1
          · exact .inr h1
          · exact absurd hj (Nat.not_lt_zero _)
        · rintro (h1 | h1)
          · exact .inl h1
          · exact .inr (.inl h1)
      rintro m d X2 hm hJ hX2
      show ref15_Both_L2 t k _ K _ m d
      unfold ref15_Both_L2
      have hdl := hJ.len
      split
      · have hb := T.mu (x := (k : Int)) (y := (m : Int)) (by omega) (by omega) (by omega) (by omega)
        obtain ⟨z, hz⟩ := Int.eq_ofNat_of_zero_le hb.1
        have hz' : ix (ix t (k : Int)) (m : Int) = (z : Int) := hz
        have hzl : z < t.length := by omega
        rw [hz']
        refine ⟨by omega, by omega, by omega, by omega, hX2 _ (by omega) (hJ.put hzl fun y hy => ?_)⟩
        constructor
        · rintro (h1 | h1 | ⟨j, hj, h1⟩)
          · exact .inl (.inl h1)
          · exact .inl (.inr (.inl h1))
          · by_cases hjm : j = m
            · subst hjm; right; rw [hz] at h1; omega
            · exact .inl (.inr (.inr ⟨j, by omega, h1⟩))
        · rintro ((h1 | h1 | ⟨j, hj, h1⟩) | h1)
          · exact .inl h1
          · exact .inr (.inl h1)
          · exact .inr (.inr ⟨j, by omega, h1⟩)
          · exact .inr (.inr ⟨m, by omega, by rw [h1]; exact hz⟩)
      · obtain rfl : m = (ix t (k : Int)).length := by omega
        refine hX _ (by omega) ⟨hdl, fun y hy => ?_⟩
        rw [hJ.has y hy, hrow]
        constructor
        · rintro (⟨z, hz, h1⟩ | h1)
          · exact ⟨z, by omega, h1⟩
          · exact ⟨k, by omega, hk1.1 hb, h1⟩
        · rintro ⟨z, hz, h1, h2⟩
          by_cases hzk : z = k
          · subst hzk; exact .inr h2
          · exact .inl ⟨z, by omega, h1, h2⟩
    · rename_i hb
      refine hX _ (by omega) ⟨hbl, fun y hy => ?_⟩
      rw [hI.has y hy]
      constructor
      · rintro ⟨z, hz, h1⟩; exact ⟨z, by omega, h1⟩
      · rintro ⟨z, hz, h1, h2⟩
        by_cases hzk : z = k
        · subst hzk; exact absurd (hk1.2 h1) hb
        · exact ⟨z, by omega, h1, h2⟩
  · obtain rfl : k = l.length := by omega
    refine h b ⟨hbl, fun y hy => ?_⟩
    rw [hI.has y hy, hll]; rfl
/-- The sets of all elements. -/
structure BF (n : Nat) (r : List (List Bool)) (le : Nat → Nat → Prop) : Prop where
  len : r.length = n
  at_ : ∀ y : Nat, y < n → SetB n (ix r (y : Int)) (fun x => le x y)
theorem BF.snoc {n k : Nat} {r : List (List Bool)} {le : Nat → Nat → Prop} (hl : r.length = k) (h : ∀ y : Nat, y < k → SetB n (ix r (y : Int)) (fun x => le x y)) {b : List Bool} (hb : SetB n b (fun x => le x k)) :
    (r ++ [b]).length = k + 1 ∧ ∀ y : Nat, y < k + 1 → SetB n (ix (r ++ [b]) (y : Int)) (fun x => le x y) := by
  refine ⟨by simp [hl], fun y hy => ?_⟩
  by_cases hyk : y = k
  · subst hyk
    have : ix (r ++ [b]) (y : Int) = b := by rw [ix_eq (by simp [hl])]; simp [hl]
    rw [this]; exact hb
  · rw [ix_app (by omega)]; exact h y (by omega)
theorem ref15_ideals_ok {t : List (List Int)} (ht : SH t = true) {w : Int} {le : Nat → Nat → Prop} {K : List (List Bool) → Prop}
    (hw : ∀ (x : Nat) (K : List Bool → Prop), x < t.length → (∀ b, SetB t.length b (fun y => le y x) → K b) → (if w = 82 then ref15_Right t (x : Int) K else if w = 76 then ref15_Left t (x : Int) K else ref15_Both t (x : Int) K))
    (h : ∀ r, BF t.length r le → K r) : ref15_ideals t w K := by
  have T := SH.tb ht
  have n4 := T.n4
  unfold ref15_ideals
  refine fun _ => LoopWP.fold t.length (fun k (r : List (List Bool)) => r.length = k ∧ ∀ y : Nat, y < k → SetB t.length (ix r (y : Int)) (fun x => le x y)) ⟨rfl, fun y hy => by omega⟩ ?_
  rintro k r X hk ⟨hl, hI⟩ hX
  show ref15_ideals_L1 t w K _ k r
  unfold ref15_ideals_L1
  split
  · have hkn : k < t.length := by omega
    have h3 := hw k (fun b => r.length + [b].length ≤ 1099511627776 ∧ X (k + 1, r ++ [b])) hkn fun b hb => ⟨by simp; omega, hX _ hkn (BF.snoc hl hI hb)⟩
    exact h3
  · obtain rfl : k = t.length := by omega
    exact h r ⟨hl, hI⟩
theorem ref15_mutual_ok {n : Nat} (n4 : n ≤ 400) {r : List (List Bool)} {le : Nat → Nat → Prop} (hr : BF n r le) (hrf : ∀ i : Nat, i < n → le i i) (htr : ∀ i j k : Nat, i < n → j < n → k < n → le i j → le j k → le i k)
    {K : List Int → Prop} (h : ∀ p, PartOf p n (fun i j => le i j ∧ le j i) → K p) : ref15_mutual r K := by
  have hrl := hr.len
  unfold ref15_mutual
  rw [hrl]
  refine fun _ => ⟨by omega, by omega, LoopWP.fold n (fun k (c : List Int) => c.length = n ∧ Lst (fun i j => le i j ∧ le j i) c k) ⟨by simp, ⟨fun j hj => by omega⟩⟩ ?_⟩
  rintro k c X hk ⟨hl, hI⟩ hX
  show ref15_mutual_L1 r K _ k c
  unfold ref15_mutual_L1
  rw [List.length_replicate, hrl]
  split
  · have hkn : k < n := by omega
    have hwk := (hr.at_ k hkn).len
    refine ⟨by omega, by omega, ?_⟩
    refine LoopWP.scan k (fun y => ¬ (le y k ∧ le k y)) ?_
    rintro y X2 hy hno hX2
    show ref15_mutual_L2 r k c _ K X2 y
    unfold ref15_mutual_L2
    rw [hrl]
    split
    · have hyn : y < n := by omega
      have hwy := (hr.at_ y hyn).len
      have h1 := (hr.at_ k hkn).has y hyn
      have h2 := (hr.at_ y hyn).has k hkn
      refine ⟨by omega, by omega, by omega, by omega, ?_⟩
      split
      · rename_i hb
        refine ⟨by omega, by omega, by omega, by omega, ?_⟩
        split
        · rename_i hb2
          have hyk : y < k := by omega
          obtain ⟨m, hm, e1, f1, g1⟩ := hI.at_ y hyk
          have hmy : m = y := by
            rcases Nat.lt_or_ge m y with hlt | hge
            · exact absurd (show le m k ∧ le k m from ⟨htr m y k (by omega) hyn hkn f1.1 (h1.1 hb), htr k y m hkn hyn (by omega) (h2.1 hb2) f1.2⟩) (hno m hlt)
            · omega
          refine ⟨by omega, by rw [st_length]; omega, by omega, by rw [st_length]; omega, ⟨by omega, by omega⟩, hX _ hkn ⟨by rw [st_length, st_length]; exact hl, ?_⟩⟩
          rw [st_st, ix_st _ (by omega) (by omega) (by omega), if_neg (by omega), e1, hmy]
          exact hI.put hl hkn (by omega) ⟨h1.1 hb, h2.1 hb2⟩ hno
        · rename_i hb2
          exact ⟨⟨by omega, by omega⟩, hX2 (by omega) fun hh => hb2 (h2.2 hh.2)⟩
      · rename_i hb
        exact ⟨⟨by omega, by omega⟩, hX2 (by omega) fun hh => hb (h1.2 hh.1)⟩
    · obtain rfl : y = k := by omega
      exact ⟨⟨by omega, by omega⟩, hX _ hkn ⟨by rw [st_length]; exact hl, hI.put hl hkn (Nat.le_refl _) ⟨hrf y hkn, hrf y hkn⟩ hno⟩⟩
  · obtain rfl : k = n := by omega
    exact ref03_Canonical_ok (by omega) fun p hp => h p (hp.part hl fun i j hi hj => hI.ker (fun i j _ _ hh => ⟨hh.2, hh.1⟩) (fun i j k hi hj hk a b => ⟨htr i j k hi hj hk a.1 b.1, htr k j i hk hj hi b.2 a.2⟩) i j hi hj)
end Sg
