/- Tables: exponents; idempotents. Plain laws. -/
import Derived.Test.YtolobiljalelgaaMultG
namespace Sg
open Go

theorem law14_small_ok {t : List (List Int)} {m : Int} {K : Bool → Prop} (h : K (decide ((t.length : Int) ≤ m) && VT t)) : law14_small t m K := by
  unfold law14_small
  refine fun _ => ?_
  split
  · rename_i hl
    refine ref14_Valid_ok ?_
    simpa [hl] using h
  · rename_i hl
    simpa [hl] using h
theorem mult_Power_at {t : List (List Int)} (hv : VT t = true) {x : Int} (hx : 0 ≤ x ∧ x < t.length) {k : Nat} (hk : k < 9223372036854775807) {K : Int → Prop} (h : K (pow t x k)) : mult_Power t x (((k + 1 : Nat) : Int)) K := by
  refine mult_Power_ok ⟨by omega, by omega⟩ ?_
  have hb : (inB t.length [x] && VT t) = true := by rw [hv, Bool.and_true]; exact inB_mem.2 fun y hy => by rw [List.mem_singleton] at hy; subst hy; exact hx
  rw [if_pos ⟨by omega, hb⟩, show (((k + 1 : Nat) : Int) - 1).toNat = k from by omega]
  exact h
theorem law14_MultExponents_ok (t : List (List Int)) (x a b : Int) (hx : I64 x) (ha : 0 ≤ a ∧ a ≤ 255) (hb : 0 ≤ b ∧ b ≤ 255) : law14_MultExponents t x a b (fun b => b = true) := by
  unfold law14_MultExponents
  refine law14_small_ok ?_
  by_cases hs0 : (decide ((t.length : Int) ≤ 20) && VT t) = true
  · rw [if_pos hs0]
    have hs := hs0
    simp only [Bool.and_eq_true] at hs
    have hv := hs.2
    have T := SH.tb (VT.sh hv)
    refine ref14_In_ok ?_
    by_cases hi : inB t.length [x] = true
    · rw [if_pos hi]
      have hxn : 0 ≤ x ∧ x < t.length := inB_mem.1 hi x (by simp)
      have hbb : (inB t.length [x] && VT t) = true := by rw [hi, hv]; rfl
      rw [wrap_i64_id (n := a) ⟨by omega, by omega⟩, wrap_i64_id (n := b) ⟨by omega, by omega⟩]
      obtain ⟨A, rfl⟩ := Int.eq_ofNat_of_zero_le ha.1
      obtain ⟨B, rfl⟩ := Int.eq_ofNat_of_zero_le hb.1
      have hA : A ≤ 255 := by omega
      have hB : B ≤ 255 := by omega
      have e1 : (1 : Int) + ((A : Nat) : Int) = ((A + 1 : Nat) : Int) := by omega
      have e2 : (1 : Int) + ((B : Nat) : Int) = ((B + 1 : Nat) : Int) := by omega
      simp only [Int.ofNat_eq_natCast]
      rw [e1, e2]
      have e3 : ((A + 1 : Nat) : Int) + ((B + 1 : Nat) : Int) = ((A + B + 1 + 1 : Nat) : Int) := by omega
      have hmul : 1 ≤ (A + 1) * (B + 1) := Nat.mul_pos (by omega) (by omega)
      have hmul2 : (A + 1) * (B + 1) ≤ 256 * 256 := Nat.mul_le_mul (by omega) (by omega)
      have e4 : ((A + 1 : Nat) : Int) * ((B + 1 : Nat) : Int) = (((A + 1) * (B + 1) - 1 + 1 : Nat) : Int) := by
        rw [Nat.sub_add_cancel hmul]; simp
      rw [e3, e4]
      have pA := pow_in T hxn A
      have pB := pow_in T hxn B
      have rA := T.row _ pA.1 pA.2
      refine ⟨⟨by omega, by omega⟩, ⟨by omega, by omega⟩, mult_Power_at hv hxn (by omega) (mult_Power_at hv hxn (by omega) (ref14_In_ok ?_))⟩
      rw [if_pos (inB_mem.2 fun y hy => by
        simp only [List.mem_cons, List.not_mem_nil, or_false] at hy
        rcases hy with rfl | rfl
        · exact pA
        · exact pB)]
      refine ⟨pA.1, pA.2, pB.1, by rw [rA]; exact pB.2, ⟨by omega, by omega⟩, mult_Power_at hv hxn (by omega) ?_⟩
      rw [if_pos (show ix (ix t (pow t x A)) (pow t x B) = pow t x (A + B + 1) from pow_mu hv hxn A B)]
      refine ⟨⟨by omega, by omega⟩, mult_Power_at hv pA (by omega) (mult_Power_at hv hxn (by omega) ?_)⟩
      rw [if_pos (pow_pow hv hxn A B)]
      refine mult_IndexPeriod_ok fun i p hip => mult_Omega_ok fun o ho => ?_
      rw [if_pos hbb] at hip ho
      obtain ⟨q, m, hR, rfl, rfl⟩ := hip
      have hlt := hR.lt
      have hle := hR.le (pow_in T hxn)
      have hn4 := T.n4
      rw [if_pos (by omega), if_pos (by omega)]
      have e5 : (q : Int) + 1 + ((A + 1 : Nat) : Int) = ((q + A + 1 + 1 : Nat) : Int) := by omega
      have e6 : (q : Int) + 1 + ((A + 1 : Nat) : Int) + ((m : Int) - q) = ((q + A + 1 + (m - q) + 1 : Nat) : Int) := by omega
      rw [e6, e5]
      refine ⟨⟨by omega, by omega⟩, ⟨by omega, by omega⟩, ⟨by omega, by omega⟩, mult_Power_at hv hxn (by omega) (mult_Power_at hv hxn (by omega) ?_)⟩
      rw [if_pos (pow_shift hR (q + A + 1) (by omega)).symm]
      obtain ⟨j, rfl, hjj⟩ := ho
      have pj := pow_in T hxn j
      have rj := T.row _ pj.1 pj.2
      have rx := T.row _ hxn.1 hxn.2
      refine ref14_In_ok ?_
      rw [if_pos (inB_mem.2 fun y hy => by rw [List.mem_singleton] at hy; subst hy; exact pj)]
      refine ⟨pj.1, pj.2, pj.1, by rw [rj]; exact pj.2, ?_⟩
      rw [if_pos (show ix (ix t (pow t x j)) (pow t x j) = pow t x j from hjj)]
      have hcom : mu t (pow t x j) x = mu t x (pow t x j) := by
        have h1 := pow_mu hv hxn j 0
        have h2 := pow_mu hv hxn 0 j
        rw [show j + 0 + 1 = 0 + j + 1 from by omega] at h1
        exact h1.trans h2.symm
      refine ⟨pj.1, pj.2, hxn.1, by rw [rj]; exact hxn.2, hxn.1, hxn.2, pj.1, by rw [rx]; exact pj.2, ?_⟩
      rw [if_pos (show ix (ix t (pow t x j)) x = ix (ix t x) (pow t x j) from hcom)]
      have hm1 : q + 1 ≤ (q + 1) * (m - q) := Nat.le_mul_of_pos_right _ (by omega)
      have hm2 : (q + 1) * (m - q) ≤ 400 * 400 := Nat.mul_le_mul (by omega) (by omega)
      have e7 : ((q : Int) + 1) * ((m : Int) - q) = (((q + 1) * (m - q) - 1 + 1 : Nat) : Int) := by
        rw [Nat.sub_add_cancel (by omega), Int.natCast_mul]
        congr 1; omega
      rw [e7]
      refine ⟨⟨by omega, by omega⟩, mult_Power_at hv hxn (by omega) ?_⟩
      have hid := omR.mul (q := q + 1) hv hxn hR hm1
      rw [if_pos (omR.uniq hv hxn ⟨_, rfl, hid⟩ ⟨j, rfl, hjj⟩)]
      exact law14_awake_ok rfl
    · rw [if_neg hi]; exact law14_awake_ok rfl
  · rw [if_neg hs0]; exact law14_awake_ok rfl

/-! ### What DeleteFunc keeps -/
/-- Of the first numbers those up to j that are wanted lie ahead, behind j all lie as they did. -/
structure DI (p : Int → Bool) (n i j : Nat) (s : List Int) : Prop where
  len : s.length = n
  ij : i ≤ j
  jn : j ≤ n
  hd : s.take i = (iota j).filter p
  tl : ∀ k : Nat, j ≤ k → k < n → ix s (k : Int) = k
theorem DI.start {p : Int → Bool} {n k : Nat} (hk : k < n) (h : ∀ j : Nat, j < k → p j = true) (hn : p k = false) : DI p n k (k + 1) (iota n) := by
  refine ⟨by simp, by omega, by omega, ?_, fun m _ hm => ix_iota hm⟩
  have e1 : (iota n).take k = iota k := by
    unfold iota; rw [← List.map_take, List.take_range, Nat.min_eq_left (by omega)]
  rw [e1, iota_succ, List.filter_append, List.filter_eq_self.2 fun x hx => ?_]
  · simp [hn]
  · obtain ⟨h0, h1⟩ := mem_iota.1 hx
    obtain ⟨m, rfl⟩ := Int.eq_ofNat_of_zero_le h0
    exact h m (by omega)
theorem DI.drop {p : Int → Bool} {n i j : Nat} {s : List Int} (h : DI p n i j s) (hj : j < n) (hp : p j = false) : DI p n i (j + 1) s :=
  ⟨h.len, by have := h.ij; omega, by omega, by rw [h.hd, iota_succ, List.filter_append]; simp [hp], fun k hk hkn => h.tl k (by omega) hkn⟩
theorem DI.keep {p : Int → Bool} {n i j : Nat} {s : List Int} (h : DI p n i j s) (hj : j < n) (hp : p j = true) : DI p n (i + 1) (j + 1) (st s (i : Int) (ix s (j : Int))) := by
  have hij := h.ij
  have hl := h.len
  refine ⟨by simpa using hl, by omega, by omega, ?_, fun k hk hkn => ?_⟩
  · rw [h.tl j (Nat.le_refl _) hj, iota_succ, List.filter_append, ← h.hd]
    simp only [st, Int.toNat_natCast]
    rw [List.take_set, List.take_succ_eq_append_getElem (by omega), List.set_append_right _ _ (by simp; omega)]
    have h5 : i - min i s.length = 0 := by omega
    simp [hp, h5]
  · rw [ix_st _ (by omega) (by omega) (by omega), if_neg (by omega)]
    exact h.tl k (by omega) hkn
theorem DI.fin {p : Int → Bool} {n i : Nat} {s : List Int} (h : DI p n i n s) (q : List Int) : (s.take i ++ q).take i = (iota n).filter p := by
  have := h.ij
  have := h.len
  rw [List.take_append_of_le_length (by simp; omega), List.take_take, Nat.min_self, h.hd]
theorem filter_all {p : Int → Bool} {n : Nat} (h : ∀ j : Nat, j < n → p j = true) : (iota n).filter p = iota n := by
  rw [List.filter_eq_self]
  intro x hx
  obtain ⟨h0, h1⟩ := mem_iota.1 hx
  obtain ⟨m, rfl⟩ := Int.eq_ofNat_of_zero_le h0
  exact h m (by omega)
theorem foldD {S : Type} {body : Nat × Nat × S → (Nat × Nat × S → Prop) → Prop} (n : Nat) (I : Nat → Nat → S → Prop) {i0 j0 : Nat} {s0 : S} (hj : j0 ≤ n) (h0 : I i0 j0 s0)
    (h : ∀ i j s X, j ≤ n → I i j s → (∀ i' s', j < n → I i' (j + 1) s' → X (i', j + 1, s')) → body (i, j, s) X) : LoopWP body (i0, j0, s0) := by
  refine LoopWP.to n (fun s : Nat × Nat × S => s.2.1) (fun s => s.2.1 ≤ n ∧ I s.1 s.2.1 s.2.2) ⟨hj, h0⟩ (fun s h => h.1) ?_
  rintro ⟨i, j, s⟩ X ⟨hj, hI⟩ hX
  exact h i j s X hj hI fun i' s' hjn hs' => hX (i', j + 1, s') ⟨hjn, hs'⟩ rfl
def idemB (t : List (List Int)) (x : Int) : Bool := decide (mu t x x = x)
theorem mult_Idempotents_ok {t : List (List Int)} {K : List Int → Prop} (h : K (if VT t = true then (iota t.length).filter (idemB t) else [])) : mult_Idempotents t K := by
  unfold mult_Idempotents
  refine mult_valid_ok ?_
  split
  · rename_i hv
    rw [if_pos hv] at h
    have T := SH.tb (VT.sh hv)
    have n4 := T.n4
    refine mult_elements_ok n4 (LoopWP.scan t.length (fun j => idemB t j = true) ?_)
    intro k X hk hI hX
    show mult_Idempotents_L1 t (iota t.length) K _ k
    unfold mult_Idempotents_L1
    rw [iota_length]
    split
    · have hkl : k < t.length := by omega
      rw [ix_iota hkl]
      have r1 := T.row k (by omega) (by omega)
      refine ⟨by omega, by omega, by omega, by omega, by omega, by omega, ?_⟩
      split
      · rename_i he; exact hX hkl (decide_eq_true he)
      · rename_i he
        rw [if_neg (by omega)]
        refine foldD t.length (DI (idemB t) t.length) (by omega) (DI.start hkl hI (decide_eq_false he)) ?_
        intro i j s X2 hj hD hX2
        show mult_Idempotents_L2 t K _ i j s
        unfold mult_Idempotents_L2
        have hl := hD.len
        have hij := hD.ij
        split
        · have hjl : j < t.length := by omega
          have e1 := hD.tl j (Nat.le_refl _) hjl
          have r2 := T.row j (by omega) (by omega)
          rw [e1]
          refine ⟨by omega, by omega, by omega, by omega, by omega, by omega, ?_⟩
          split
          · rename_i hp
            have := hD.keep hjl (p := idemB t) (decide_eq_true hp)
            rw [e1] at this
            exact ⟨by omega, by omega, ⟨by omega, by omega⟩, ⟨by omega, by omega⟩, hX2 _ _ hjl this⟩
          · rename_i hp; exact hX2 _ _ hjl (hD.drop hjl (decide_eq_false hp))
        · have : j = t.length := by omega
          subst this
          refine ⟨by omega, by omega, by omega, by simp; omega, ?_⟩
          rw [show ((i : Int)).toNat = i from rfl, hD.fin]
          exact h
    · rw [if_pos rfl]
      have : k = t.length := by omega
      subst this
      rw [filter_all hI] at h; exact h
  · rename_i hv
    rw [if_neg hv] at h; exact h
theorem ref14_Idempotents_ok {t : List (List Int)} (ht : SH t = true) {K : List Int → Prop} (h : K ((iota t.length).filter (idemB t))) : ref14_Idempotents t K := by
  unfold ref14_Idempotents
  have T := SH.tb ht
  have n4 := T.n4
  refine fun _ => LoopWP.fold t.length (fun k (l : List Int) => l = (iota k).filter (idemB t)) rfl ?_
  rintro k l X hk rfl hX
  show ref14_Idempotents_L1 t K _ k _
  unfold ref14_Idempotents_L1
  split
  · have r1 := T.row k (by omega) (by omega)
    refine ⟨by omega, by omega, by omega, by omega, ?_⟩
    split
    · rename_i he
      refine ⟨?_, hX _ (by omega) ?_⟩
      · have := List.length_filter_le (idemB t) (iota k); simp at this ⊢; omega
      · rw [iota_succ, List.filter_append]; simp [idemB, mu, he]
    · rename_i he
      refine hX _ (by omega) ?_
      rw [iota_succ, List.filter_append]; simp [idemB, mu, he]
  · have : k = t.length := by omega
    subst this; exact h
/-- The powers come again. -/
theorem exRP {t : List (List Int)} {n : Nat} (T : Tb t n) {x : Int} (hx : 0 ≤ x ∧ x < n) : ∃ a m, RP (pow t x) a m := by
  obtain ⟨a, b, hab, _, he⟩ := pigeon n (pow t x) fun k _ => pow_in T hx k
  obtain ⟨m, ⟨a', ha', he'⟩, hm, hmin⟩ := least_of (fun m => ∃ a, a < m ∧ pow t x m = pow t x a) b ⟨a, hab, he.symm⟩
  exact ⟨a', m, ha', he', fun i j hij hj hh => hmin j hj ⟨i, hij, hh.symm⟩⟩
theorem exIdem {t : List (List Int)} (hv : VT t = true) : ∃ e : Int, (0 ≤ e ∧ e < t.length) ∧ mu t e e = e := by
  have T := SH.tb (VT.sh hv)
  have hx : 0 ≤ (0 : Int) ∧ (0 : Int) < t.length := ⟨by omega, by have := T.n1; omega⟩
  obtain ⟨a, m, hR⟩ := exRP T hx
  have hlt := hR.lt
  exact ⟨_, pow_in T hx _, omR.mul (q := a + 1) hv hx hR (Nat.le_mul_of_pos_right _ (by omega))⟩
theorem law14_MultSpecial_ok (t : List (List Int)) : law14_MultSpecial t (fun b => b = true) := by
  unfold law14_MultSpecial
  refine mult_Identity_ok fun e he => mult_Zero_ok fun z hz => mult_Idempotents_ok ?_
  have key : ref14_Valid t fun r33 => (if r33 = true then (ref14_Identity t fun r48 => (if e = r48 then (ref14_Zero t fun r55 => (if z = r55 then (ref14_Idempotents t fun r62 => (ref03_Same (if VT t = true then (iota t.length).filter (idemB t) else []) r62 fun r68 => (if r68 = true then ((if VT t = true then (iota t.length).filter (idemB t) else []).length ≤ mx → (if (0 : Int) < ((if VT t = true then (iota t.length).filter (idemB t) else []).length : Int) then (law14_awake  fun r75 => (r75 = true)) else (false = true))) else (false = true)))) else (false = true))) else (false = true))) else (if e = (-1 : Int) then (if z = (-1 : Int) then ((if VT t = true then (iota t.length).filter (idemB t) else []).length ≤ mx → (if ((if VT t = true then (iota t.length).filter (idemB t) else []).length : Int) = (0 : Int) then (law14_awake  fun r42 => (r42 = true)) else (false = true))) else (false = true)) else (false = true))) := by
    refine ref14_Valid_ok ?_
    by_cases hv : VT t = true
    · simp only [if_pos hv] at he hz ⊢
      refine ref14_Identity_ok (VT.sh hv) fun e' he' => ?_
      rw [if_pos (he.uniq he')]
      refine ref14_Zero_ok (VT.sh hv) fun z' hz' => ?_
      rw [if_pos (hz.uniq hz')]
      refine ref14_Idempotents_ok (VT.sh hv) (ref03_Same_ok ?_)
      rw [if_pos (by simp)]
      refine fun _ => ?_
      obtain ⟨x, hx, hxx⟩ := exIdem hv
      have hmem : x ∈ (iota t.length).filter (idemB t) := List.mem_filter.2 ⟨mem_iota.2 hx, decide_eq_true hxx⟩
      have := List.length_pos_of_mem hmem
      rw [if_pos (by omega)]
      exact law14_awake_ok rfl
    · simp only [if_neg hv] at he hz ⊢
      rw [if_pos he, if_pos hz]
      refine fun _ => ?_
      rw [if_pos (by simp)]
      exact law14_awake_ok rfl
  refine ref14_Shape_ok ?_
  split
  · refine fun _ => ?_
    split
    · exact law14_awake_ok rfl
    · exact key
  · exact key
end Sg
