/- Tables: powers. Plain laws. -/
import Derived.Test.YtolobiljalelgaaMultB
namespace Sg
open Go

/-- The powers of an element: at k the one with the exponent k + 1. -/
def pow (t : List (List Int)) (x : Int) : Nat → Int
  | 0 => x
  | k + 1 => mu t (pow t x k) x
theorem pow_in {t : List (List Int)} {n : Nat} (T : Tb t n) {x : Int} (hx : 0 ≤ x ∧ x < n) : ∀ k, 0 ≤ pow t x k ∧ pow t x k < n
  | 0 => hx
  | k + 1 => T.mu (pow_in T hx k).1 (pow_in T hx k).2 hx.1 hx.2
section
variable {t : List (List Int)} (hv : VT t = true) {x : Int} (hx : 0 ≤ x ∧ x < t.length)
include hv hx
theorem pow_mu (a b : Nat) : mu t (pow t x a) (pow t x b) = pow t x (a + b + 1) := by
  have T := SH.tb (VT.sh hv)
  induction b with
  | zero => rfl
  | succ b ih =>
    show mu t (pow t x a) (mu t (pow t x b) x) = mu t (pow t x (a + b + 1)) x
    rw [← ih, (VT.as hv).all (pow_in T hx a) (pow_in T hx b) hx]
theorem pow_pow (a b : Nat) : pow t (pow t x a) b = pow t x ((a + 1) * (b + 1) - 1) := by
  induction b with
  | zero => simp [pow]
  | succ b ih =>
    show mu t (pow t (pow t x a) b) (pow t x a) = _
    rw [ih, pow_mu hv hx]
    congr 1
    rw [Nat.mul_add (a + 1) (b + 1) 1]
    have : 1 ≤ (a + 1) * (b + 1) := Nat.mul_pos (by omega) (by omega)
    omega
end
/-- The values come again: at m the value of at, none before. -/
structure RP (g : Nat → Int) (a m : Nat) : Prop where
  lt : a < m
  eq : g m = g a
  inj : ∀ i j, i < j → j < m → g i ≠ g j
theorem RP.uniq {g : Nat → Int} {a m a' m' : Nat} (h : RP g a m) (k : RP g a' m') : a = a' ∧ m = m' := by
  have hm : m = m' := by
    rcases Nat.lt_trichotomy m m' with hx | hx | hx
    · exact absurd h.eq.symm (k.inj _ _ h.lt hx)
    · exact hx
    · exact absurd k.eq.symm (h.inj _ _ k.lt hx)
  subst hm
  refine ⟨?_, rfl⟩
  have e := h.eq.symm.trans k.eq
  rcases Nat.lt_trichotomy a a' with hx | hx | hx
  · exact absurd e (h.inj _ _ hx k.lt)
  · exact hx
  · exact absurd e.symm (h.inj _ _ hx h.lt)
theorem inj_le {g : Nat → Int} {n m : Nat} (hg : ∀ k, 0 ≤ g k ∧ g k < (n : Int)) (h : ∀ i j, i < j → j < m → g i ≠ g j) : m ≤ n := by
  rcases Nat.lt_or_ge n m with hlt | hge
  · obtain ⟨a, b, hab, hb, he⟩ := pigeon n g fun k _ => hg k
    exact absurd he (h a b hab (by omega))
  · exact hge
theorem RP.le {g : Nat → Int} {n a m : Nat} (h : RP g a m) (hg : ∀ k, 0 ≤ g k ∧ g k < (n : Int)) : m ≤ n := inj_le hg h.inj
/-- Powers from the index on come again with the period. -/
theorem pow_shift {t : List (List Int)} {x : Int} {a m : Nat} (h : RP (pow t x) a m) : ∀ k, a ≤ k → pow t x (k + (m - a)) = pow t x k := by
  intro k hk
  obtain ⟨d, rfl⟩ := Nat.exists_eq_add_of_le hk
  induction d with
  | zero => rw [Nat.add_zero, show a + (m - a) = m from by have := h.lt; omega]; exact h.eq
  | succ d ih =>
    have := ih (by omega)
    show pow t x (a + (d + 1) + (m - a)) = mu t (pow t x (a + d)) x
    rw [← this]
    show _ = pow t x (a + d + (m - a) + 1)
    congr 1; omega
theorem pow_shift_mul {t : List (List Int)} {x : Int} {a m : Nat} (h : RP (pow t x) a m) (q k : Nat) (hk : a ≤ k) : pow t x (k + q * (m - a)) = pow t x k := by
  induction q with
  | zero => simp
  | succ q ih => rw [Nat.succ_mul, ← Nat.add_assoc, pow_shift h _ (by omega), ih]
theorem pow_wrap {t : List (List Int)} {x : Int} {a m : Nat} (h : RP (pow t x) a m) (k : Nat) (hk : a ≤ k) : pow t x (a + (k - a) % (m - a)) = pow t x k := by
  have := pow_shift_mul h ((k - a) / (m - a)) (a + (k - a) % (m - a)) (by omega)
  rw [← this]
  congr 1
  have := Nat.mod_add_div (k - a) (m - a)
  rw [Nat.mul_comm] at this
  omega
/-- What the program and the reference say of a power: index and period, as numbers. -/
def ipR (t : List (List Int)) (x i p : Int) : Prop := ∃ a m : Nat, RP (pow t x) a m ∧ i = (a : Int) + 1 ∧ p = (m : Int) - a
theorem ipR.uniq {t : List (List Int)} {x i p i' p' : Int} (h : ipR t x i p) (k : ipR t x i' p') : i = i' ∧ p = p' := by
  obtain ⟨a, m, h1, rfl, rfl⟩ := h
  obtain ⟨b, l, k1, rfl, rfl⟩ := k
  obtain ⟨rfl, rfl⟩ := h1.uniq k1
  exact ⟨rfl, rfl⟩
theorem ref14_Powers_ok {t : List (List Int)} {x : Int} (ht : SH t = true) (hx : 0 ≤ x ∧ x < t.length) {K : List Int → Int → Prop}
    (h : ∀ (l : List Int) (a : Nat), RP (pow t x) a l.length → (∀ j : Nat, j < l.length → ix l j = pow t x j) → K l a) : ref14_Powers t x K := by
  unfold ref14_Powers
  have T := SH.tb ht
  have n4 := T.n4
  refine LoopWP.to t.length (fun l : List Int => l.length) (fun l => 1 ≤ l.length ∧ (∀ j : Nat, j < l.length → ix l j = pow t x j) ∧ ∀ i j, i < j → j < l.length → pow t x i ≠ pow t x j)
    ⟨by simp, fun j hj => (by simp at hj; subst hj; rfl), fun i j hij hj => (by simp at hj; omega)⟩ (fun s hs => inj_le (pow_in T hx) hs.2.2) ?_
  rintro l X ⟨h1, hl, hinj⟩ hX
  show ref14_Powers_L1 t x K X l
  unfold ref14_Powers_L1
  have hle := inj_le (pow_in T hx) hinj
  have e1 : ix l ((l.length : Int) - 1) = pow t x (l.length - 1) := by
    have := hl (l.length - 1) (by omega)
    rwa [show ((l.length - 1 : Nat) : Int) = (l.length : Int) - 1 from by omega] at this
  rw [e1]
  have hp := pow_in T hx (l.length - 1)
  have r1 := T.row _ hp.1 hp.2
  have e2 : ix (ix t (pow t x (l.length - 1))) x = pow t x l.length := by
    show mu t (pow t x (l.length - 1)) x = _
    obtain ⟨d, hd⟩ : ∃ d, l.length = d + 1 := ⟨l.length - 1, by omega⟩
    rw [hd]; rfl
  refine ⟨⟨by omega, by omega⟩, by omega, by omega, hp.1, hp.2, hx.1, by omega, LoopWP.scan l.length (fun j => pow t x j ≠ pow t x l.length) ?_⟩
  intro k X2 hk hI hX2
  show ref14_Powers_L2 t x l _ K _ k
  unfold ref14_Powers_L2
  rw [e1, e2]
  split
  · refine ⟨by omega, by omega, ?_⟩
    rw [hl k (by omega)]
    split
    · rename_i he; exact h l k ⟨by omega, he.symm, hinj⟩ hl
    · rename_i he; exact hX2 (by omega) he
  · refine ⟨by simp; omega, hX _ ⟨by simp, fun j hj => ?_, fun i j hij hj => ?_⟩ (by simp)⟩
    · simp only [List.length_append, List.length_cons, List.length_nil] at hj
      by_cases hjl : j = l.length
      · subst hjl; rw [ix_lt (by simp)]; simp
      · rw [ix_lt (by simp; omega), List.getElem_append_left (by omega), ← ix_lt (by omega)]; exact hl j (by omega)
    · simp only [List.length_append, List.length_cons, List.length_nil] at hj
      by_cases hjl : j = l.length
      · subst hjl; exact hI i (by omega)
      · exact hinj i j hij (by omega)
theorem ref14_IndexPeriod_ok {t : List (List Int)} {x : Int} (ht : SH t = true) (hx : 0 ≤ x ∧ x < t.length) {K : Int → Int → Prop} (h : ∀ i p, ipR t x i p → K i p) : ref14_IndexPeriod t x K := by
  unfold ref14_IndexPeriod
  refine ref14_Powers_ok ht hx fun l a hR _ => ?_
  have := hR.le (pow_in (SH.tb ht) hx)
  have := (SH.tb ht).n4
  have := hR.lt
  exact ⟨⟨by omega, by omega⟩, fun _ => ⟨⟨by omega, by omega⟩, h _ _ ⟨a, l.length, hR, rfl, rfl⟩⟩⟩
theorem ref14_Power_ok {t : List (List Int)} {x k : Int} (ht : SH t = true) (hx : 0 ≤ x ∧ x < t.length) (hk : 1 ≤ k) (hk2 : I64 k) {K : Int → Prop} (h : K (pow t x (k - 1).toNat)) : ref14_Power t x k K := by
  unfold ref14_Power
  refine ref14_Powers_ok ht hx fun l a hR hl => ?_
  have := hR.le (pow_in (SH.tb ht) hx)
  have := (SH.tb ht).n4
  have hlt := hR.lt
  unfold I64 at *
  refine fun _ => ?_
  obtain ⟨d, rfl⟩ : ∃ d : Nat, k = d + 1 := ⟨(k - 1).toNat, by omega⟩
  rw [show ((d : Int) + 1 - 1) = (d : Int) from by omega] at *
  rw [show ((d : Int)).toNat = d from rfl] at h
  split
  · refine ⟨by omega, by omega, by omega, ?_⟩
    rw [hl d (by omega)]; exact h
  · have e1 : ((d : Int) - (a : Int)).tmod ((l.length : Int) - (a : Int)) = (((d - a) % (l.length - a) : Nat) : Int) := by
      rw [show (d : Int) - (a : Int) = ((d - a : Nat) : Int) from by omega, show (l.length : Int) - (a : Int) = ((l.length - a : Nat) : Int) from by omega]
      exact (Int.ofNat_tmod _ _).symm
    rw [e1]
    have hm := Nat.mod_lt (d - a) (show 0 < l.length - a by omega)
    refine ⟨by omega, by omega, by omega, by omega, by omega, by omega, by omega, ?_⟩
    have := hl (a + (d - a) % (l.length - a)) (by omega)
    rw [show ((a : Int) + (((d - a) % (l.length - a) : Nat) : Int)) = ((a + (d - a) % (l.length - a) : Nat) : Int) from by omega, this, pow_wrap hR d (by omega)]
    exact h
/-- The idempotent power. -/
def omR (t : List (List Int)) (x r : Int) : Prop := ∃ j, r = pow t x j ∧ mu t r r = r
theorem omR.uniq {t : List (List Int)} (hv : VT t = true) {x : Int} (hx : 0 ≤ x ∧ x < t.length) {r r' : Int} (h : omR t x r) (k : omR t x r') : r = r' := by
  obtain ⟨a, rfl, ha⟩ := h
  obtain ⟨b, rfl, hb⟩ := k
  have id_pow : ∀ y : Int, mu t y y = y → ∀ c, pow t y c = y := fun y hy c => by
    induction c with
    | zero => rfl
    | succ c ih => show mu t (pow t y c) y = y; rw [ih, hy]
  have e1 := pow_pow hv hx a b
  have e2 := pow_pow hv hx b a
  rw [id_pow _ ha b] at e1
  rw [id_pow _ hb a, Nat.mul_comm] at e2
  rw [e1, e2]
/-- There is one among the powers up to the first that comes again. -/
theorem omR.mul {t : List (List Int)} (hv : VT t = true) {x : Int} (hx : 0 ≤ x ∧ x < t.length) {a m q : Nat} (h : RP (pow t x) a m) (hq : a + 1 ≤ q * (m - a)) : mu t (pow t x (q * (m - a) - 1)) (pow t x (q * (m - a) - 1)) = pow t x (q * (m - a) - 1) := by
  rw [pow_mu hv hx]
  have := pow_shift_mul h q (q * (m - a) - 1) (by omega)
  rw [← this]
  congr 1; omega
theorem ref14_Omega_ok {t : List (List Int)} {x : Int} (hv : VT t = true) (hx : 0 ≤ x ∧ x < t.length) {K : Int → Prop} (h : ∀ r, omR t x r → K r) : ref14_Omega t x K := by
  unfold ref14_Omega
  have ht := VT.sh hv
  have T := SH.tb ht
  refine ref14_Powers_ok ht hx fun l a hR hl => ?_
  have := hR.le (pow_in T hx)
  have := T.n4
  have hlt := hR.lt
  refine fun _ => LoopWP.scan l.length (fun j => mu t (pow t x j) (pow t x j) ≠ pow t x j) ?_
  intro k X hk hI hX
  show ref14_Omega_L1 t l K _ k
  unfold ref14_Omega_L1
  split
  · have hp := pow_in T hx k
    have r1 := T.row _ hp.1 hp.2
    rw [hl k (by omega)]
    refine ⟨by omega, by omega, hp.1, hp.2, hp.1, by omega, ?_⟩
    split
    · rename_i he; exact h _ ⟨k, rfl, he⟩
    · rename_i he; exact hX (by omega) he
  · exfalso
    -- the idempotent lies in the list
    have hd : 0 < l.length - a := by omega
    obtain ⟨q, hq1, hq2⟩ : ∃ q, a + 1 ≤ q * (l.length - a) ∧ q * (l.length - a) ≤ l.length := by
      refine ⟨(a + (l.length - a)) / (l.length - a), ?_, ?_⟩
      · have h1 := Nat.mod_add_div (a + (l.length - a)) (l.length - a)
        have h2 := Nat.mod_lt (a + (l.length - a)) hd
        rw [Nat.mul_comm] at h1; omega
      · have := Nat.div_mul_le_self (a + (l.length - a)) (l.length - a); omega
    exact hI (q * (l.length - a) - 1) (by omega) (omR.mul hv hx hR hq1)
theorem mult_IndexPeriod_ok {t : List (List Int)} {x : Int} {K : Int → Int → Prop} (h : ∀ i p, (if inB t.length [x] && VT t then ipR t x i p else i = 0 ∧ p = 0) → K i p) : mult_IndexPeriod t x K := by
  unfold mult_IndexPeriod
  refine mult_has_ok ?_
  split
  · rename_i hb
    simp only [if_pos hb] at h
    simp only [Bool.and_eq_true] at hb
    have hx : 0 ≤ x ∧ x < t.length := inB_mem.1 hb.1 x (by simp)
    have ht := VT.sh hb.2
    have T := SH.tb ht
    have n4 := T.n4
    refine fun _ => ⟨by omega, by omega, ?_⟩
    refine LoopWP.to (t.length + 1) (fun s : Int × Nat × List Int => s.2.1) (fun s => 1 ≤ s.2.1 ∧ s.1 = pow t x (s.2.1 - 1) ∧ s.2.2.length = t.length ∧ (∀ i j, i < j → j < s.2.1 - 1 → pow t x i ≠ pow t x j) ∧
      (∀ j, j < s.2.1 - 1 → ix s.2.2 (pow t x j) = (j : Int) + 1) ∧ ∀ y : Int, 0 ≤ y → y < t.length → ix s.2.2 y ≠ 0 → ∃ j, j < s.2.1 - 1 ∧ y = pow t x j)
      ⟨by simp, rfl, by simp, fun i j _ hj => (by simp at hj), fun j hj => (by simp at hj), fun y h0 h1 hy => ?_⟩ (fun s hs => by have := inj_le (pow_in T hx) hs.2.2.2.1; omega) ?_
    · obtain ⟨m, rfl⟩ := Int.eq_ofNat_of_zero_le h0
      simp only at hy
      rw [ix_replicate _ _ (by omega)] at hy; exact absurd rfl hy
    · rintro ⟨y, k, ex⟩ X ⟨hk, hy, hl, hinj, hex, hz⟩ hX
      simp only at hk hy hl hinj hex hz
      obtain ⟨d, rfl⟩ : ∃ d, k = d + 1 := ⟨k - 1, by omega⟩
      simp only [Nat.add_sub_cancel] at *
      subst hy
      show mult_IndexPeriod_L1 t x K _ (pow t x d) (d + 1) ex
      unfold mult_IndexPeriod_L1
      have hp := pow_in T hx d
      have r1 := T.row _ hp.1 hp.2
      have hdn := inj_le (pow_in T hx) hinj
      refine ⟨hp.1, by omega, ?_⟩
      split
      · rename_i h0
        have hnew : ∀ j, j < d → pow t x j ≠ pow t x d := fun j hj he => by
          have := hex j hj; rw [he, h0] at this; omega
        refine ⟨hp.1, by omega, hp.1, hp.2, hx.1, by omega, ⟨by omega, by omega⟩, hX (_, d + 1 + 1, _) ⟨by simp, rfl, by simpa using hl, fun i j hij hj => ?_, fun j hj => ?_, fun y h0y h1y hy => ?_⟩ rfl⟩
        · simp only [Nat.add_sub_cancel] at hj
          by_cases hjd : j = d
          · subst hjd; exact hnew i hij
          · exact hinj i j hij (by omega)
        · simp only [Nat.add_sub_cancel] at hj ⊢
          rw [ix_st _ hp.1 (by omega) (pow_in T hx j).1]
          by_cases hjd : j = d
          · subst hjd; rw [if_pos rfl]; omega
          · rw [if_neg (hnew j (by omega))]; exact hex j (by omega)
        · simp only [Nat.add_sub_cancel] at hy ⊢
          rw [ix_st _ hp.1 (by omega) h0y] at hy
          split at hy
          · rename_i he; exact ⟨d, by omega, he⟩
          · obtain ⟨j, hj, he⟩ := hz y h0y h1y hy; exact ⟨j, by omega, he⟩
      · rename_i h0
        obtain ⟨j, hj, he⟩ := hz _ hp.1 hp.2 h0
        have hj1 := hex j hj
        rw [← he] at hj1
        rw [hj1]
        exact ⟨hp.1, by omega, hp.1, by omega, ⟨by omega, by omega⟩, h _ _ ⟨j, d, ⟨hj, he, hinj⟩, rfl, by omega⟩⟩
  · rename_i hb
    simp only [if_neg hb] at h
    exact h _ _ ⟨rfl, rfl⟩
theorem mult_power_ok {t : List (List Int)} {x k : Int} (hv : VT t = true) (hx : 0 ≤ x ∧ x < t.length) (hk : 1 ≤ k) (hk2 : I64 k) {K : Int → Prop} (h : K (pow t x (k - 1).toNat)) : mult_power t x k K := by
  unfold mult_power
  have T := SH.tb (VT.sh hv)
  unfold I64 at hk2
  obtain ⟨m, rfl⟩ : ∃ m : Nat, k = m + 1 := ⟨(k - 1).toNat, by omega⟩
  rw [show ((m : Int) + 1 - 1) = (m : Int) from by omega] at *
  rw [show ((m : Int)).toNat = m from rfl] at h
  refine ⟨⟨by omega, by omega⟩, ?_⟩
  refine LoopWP.intro (fun s : Int × Int × Int => ∃ (r a q : Nat), s = (pow t x q, (r : Int), pow t x a) ∧ a + (q + 1) * r = m ∧ r ≤ m) (fun s => s.2.1.toNat) ⟨m, 0, 0, rfl, by omega, Nat.le_refl _⟩ ?_
  rintro s X ⟨r, a, q, rfl, he, hr⟩ hX
  show mult_power_L1 t K _ (pow t x q) (r : Int) (pow t x a)
  unfold mult_power_L1
  have hp := pow_in T hx q
  have ha := pow_in T hx a
  have r1 := T.row _ hp.1 hp.2
  have r2 := T.row _ ha.1 ha.2
  have e1 : ix (ix t (pow t x q)) (pow t x q) = pow t x (q + q + 1) := pow_mu hv hx q q
  have e2 : ix (ix t (pow t x a)) (pow t x q) = pow t x (a + q + 1) := pow_mu hv hx a q
  split
  · rw [and1_i64 (by omega)]
    split
    · rw [shr_i64_1, e1, e2]
      refine ⟨ha.1, ha.2, hp.1, by omega, hp.1, hp.2, hp.1, by omega, hX _ ⟨r / 2, a + q + 1, q + q + 1, rfl, ?_, by omega⟩ (by simp only; omega)⟩
      rw [← he]
      have : r = 2 * (r / 2) + 1 := by omega
      generalize hd : r / 2 = d at this
      rw [this, Nat.mul_add, ← Nat.mul_assoc, Nat.mul_two, show q + 1 + (q + 1) = q + q + 1 + 1 from by omega]; omega
    · rw [shr_i64_1, e1]
      refine ⟨hp.1, hp.2, hp.1, by omega, hX _ ⟨r / 2, a, q + q + 1, rfl, ?_, by omega⟩ (by simp only; omega)⟩
      rw [← he]
      have : r = 2 * (r / 2) := by omega
      generalize hd : r / 2 = d at this
      rw [this, ← Nat.mul_assoc, Nat.mul_two, show q + 1 + (q + 1) = q + q + 1 + 1 from by omega]
  · have : r = 0 := by omega
    subst this
    have : a = m := by simpa using he
    rw [this]; exact h
theorem mult_Power_ok {t : List (List Int)} {x k : Int} (hk : I64 k) {K : Int → Prop} (h : K (if 1 ≤ k ∧ (inB t.length [x] && VT t) = true then pow t x (k - 1).toNat else -1)) : mult_Power t x k K := by
  unfold mult_Power
  split
  · rw [if_neg (by omega)] at h; exact h
  · refine mult_has_ok ?_
    split
    · rename_i hb
      rw [if_pos ⟨by omega, hb⟩] at h
      simp only [Bool.and_eq_true] at hb
      exact mult_power_ok hb.2 (inB_mem.1 hb.1 x (by simp)) (by omega) hk h
    · rename_i hb
      rw [if_neg (fun hh => hb hh.2)] at h; exact h
/-- The least multiple of the period that is not less than the index. -/
theorem ceil_mul {i p : Nat} (hi : 1 ≤ i) (hp : 1 ≤ p) : ∃ q, ((((i : Int) + p - 1).tdiv p) * p) = ((q * p : Nat) : Int) ∧ i ≤ q * p ∧ q * p ≤ i + p - 1 ∧ ((i : Int) + p - 1).tdiv p = q := by
  refine ⟨(i + p - 1) / p, ?_, ?_, ?_, ?_⟩
  · rw [show (i : Int) + p - 1 = ((i + p - 1 : Nat) : Int) from by omega, ← Int.ofNat_tdiv]; simp
  · have h1 := Nat.mod_add_div (i + p - 1) p
    have h2 := Nat.mod_lt (i + p - 1) (show 0 < p by omega)
    rw [Nat.mul_comm] at h1; omega
  · have := Nat.div_mul_le_self (i + p - 1) p; omega
  · rw [show (i : Int) + p - 1 = ((i + p - 1 : Nat) : Int) from by omega, ← Int.ofNat_tdiv]
theorem mult_Omega_ok {t : List (List Int)} {x : Int} {K : Int → Prop} (h : ∀ r, (if inB t.length [x] && VT t then omR t x r else r = -1) → K r) : mult_Omega t x K := by
  unfold mult_Omega
  refine mult_IndexPeriod_ok fun i p hip => ?_
  by_cases hb : (inB t.length [x] && VT t) = true
  · simp only [if_pos hb] at h hip
    obtain ⟨a, m, hR, rfl, rfl⟩ := hip
    simp only [Bool.and_eq_true] at hb
    have hx : 0 ≤ x ∧ x < t.length := inB_mem.1 hb.1 x (by simp)
    have T := SH.tb (VT.sh hb.2)
    have := hR.le (pow_in T hx)
    have := T.n4
    have hlt := hR.lt
    rw [if_neg (by omega)]
    obtain ⟨q, h1, h2, h3, h4⟩ := ceil_mul (i := a + 1) (p := m - a) (by omega) (by omega)
    rw [show (((a + 1 : Nat) : Int)) = (a : Int) + 1 from by omega, show (((m - a : Nat) : Int)) = (m : Int) - a from by omega] at h1 h4
    have hq : q ≤ q * (m - a) := Nat.le_mul_of_pos_right _ (by omega)
    refine ⟨⟨by omega, by omega⟩, ⟨by omega, by omega⟩, by omega, ?_, ?_, ?_⟩
    · rw [h4]; exact ⟨by omega, by omega⟩
    · rw [h1]; exact ⟨by omega, by omega⟩
    · rw [h1]
      refine mult_power_ok hb.2 hx (by omega) ⟨by omega, by omega⟩ (h _ ⟨(((q * (m - a) : Nat) : Int) - 1).toNat, rfl, ?_⟩)
      rw [show (((q * (m - a) : Nat) : Int) - 1).toNat = q * (m - a) - 1 from by omega]
      exact omR.mul hb.2 hx hR h2
  · simp only [if_neg hb] at h hip
    obtain ⟨rfl, rfl⟩ := hip
    rw [if_pos rfl]; exact h _ rfl
end Sg
