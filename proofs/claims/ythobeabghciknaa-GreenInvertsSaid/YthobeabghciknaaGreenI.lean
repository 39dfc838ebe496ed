/- Green's relations of a finite semigroup: stability; J is the join of R and L. Plain law. -/
import Derived.Test.YthobeabghciknaaGreenH
namespace Sg
open Go
set_option linter.unusedVariables false
set_option linter.unusedSimpArgs false
def itN (f : Nat → Nat) : Nat → Nat → Nat
  | 0, x => x
  | k + 1, x => f (itN f k x)
theorem itN_in {n : Nat} {f : Nat → Nat} (hf : ∀ z, z < n → f z < n) {x : Nat} (hx : x < n) : ∀ k, itN f k x < n
  | 0 => hx
  | k + 1 => hf _ (itN_in hf hx k)
theorem itN_add (f : Nat → Nat) (x : Nat) (a : Nat) : ∀ b, itN f (b + a) x = itN f b (itN f a x)
  | 0 => by rw [Nat.zero_add]; rfl
  | b + 1 => by rw [show b + 1 + a = (b + a) + 1 by omega]; simp only [itN]; rw [itN_add f x a b]
theorem itN_comm {n : Nat} {f g : Nat → Nat} (hf : ∀ z, z < n → f z < n) (hg : ∀ z, z < n → g z < n) (hc : ∀ z, z < n → f (g z) = g (f z)) (a : Nat) : ∀ (b x : Nat), x < n → itN f a (itN g b x) = itN g b (itN f a x) := by
  have one : ∀ (a x : Nat), x < n → itN f a (g x) = g (itN f a x) := by
    intro a
    induction a with
    | zero => intro x hx; rfl
    | succ a ih => intro x hx; simp only [itN]; rw [ih x hx, hc _ (itN_in hf hx a)]
  intro b
  induction b with
  | zero => intro x hx; rfl
  | succ b ih => intro x hx; simp only [itN]; rw [one a _ (itN_in hg hx b), ih x hx]
/-- If f undoes g at x, some power of g leaves x where it is. -/
theorem stab {n : Nat} {f g : Nat → Nat} (hf : ∀ z, z < n → f z < n) (hg : ∀ z, z < n → g z < n) (hc : ∀ z, z < n → f (g z) = g (f z)) {x : Nat} (hx : x < n) (h : f (g x) = x) : ∃ m : Nat, itN g (m + 1) x = x := by
  have back : ∀ k, itN f k (itN g k x) = x := by
    intro k
    induction k with
    | zero => rfl
    | succ k ih =>
      have e1 : itN g (k + 1) x = itN g k (g x) := by have := itN_add g x 1 k; exact this
      have e2 : itN f (k + 1) (itN g (k + 1) x) = f (itN f k (itN g (k + 1) x)) := rfl
      rw [e2, e1, itN_comm hf hg hc k k (g x) (hg x hx)]
      have e3 : itN f k (g x) = g (itN f k x) := itN_comm hf hg hc k 1 x hx
      have e4 : itN g k (g (itN f k x)) = g (itN g k (itN f k x)) := by
        have a1 := itN_add g (itN f k x) 1 k
        have a2 := itN_add g (itN f k x) k 1
        rw [Nat.add_comm] at a2
        exact a1.symm.trans a2
      rw [e3, e4, ← itN_comm hf hg hc k k x hx, ih]
      exact h
  obtain ⟨a, b, hab, hb, he⟩ := pigeon n (fun k => (itN g k x : Int)) fun m _ => ⟨by omega, by have := itN_in hg hx m; omega⟩
  have he' : itN g a x = itN g b x := by
    have h9 : (itN g a x : Int) = (itN g b x : Int) := he
    omega
  refine ⟨b - a - 1, ?_⟩
  have e1 : itN g b x = itN g (b - a) (itN g a x) := by rw [← itN_add]; congr 1; omega
  have e2 := back a
  rw [he', e1, itN_comm hf hg hc a (b - a) _ (itN_in hg hx a), back a] at e2
  rw [show b - a - 1 + 1 = b - a by omega]
  exact e2
/-- A product on the table's elements as a map. -/
def mN (t : List (List Int)) (x y : Nat) : Nat := (mu t (x : Int) (y : Int)).toNat
theorem mN_eq {t : List (List Int)} (T : Tb t t.length) {x y : Nat} (hx : x < t.length) (hy : y < t.length) : mN t x y < t.length ∧ mu t (x : Int) (y : Int) = (mN t x y : Int) := by
  obtain ⟨z, hz, e⟩ := mu_cl T hx hy
  unfold mN
  rw [e]
  exact ⟨by simpa using hz, by simp⟩
theorem mN_as {t : List (List Int)} (hv : VT t = true) {x y z : Nat} (hx : x < t.length) (hy : y < t.length) (hz : z < t.length) : mN t (mN t x y) z = mN t x (mN t y z) := by
  have T := SH.tb (VT.sh hv)
  obtain ⟨a1, a2⟩ := mN_eq T hx hy
  obtain ⟨b1, b2⟩ := mN_eq T hy hz
  obtain ⟨c1, c2⟩ := mN_eq T a1 hz
  obtain ⟨d1, d2⟩ := mN_eq T hx b1
  have := VT.as hv x y z hx hy hz
  rw [a2, b2, c2, d2] at this
  omega
theorem leR_mul {t : List (List Int)} (T : Tb t t.length) {x s : Nat} (hx : x < t.length) (hs : s < t.length) : leR t (mN t x s) x := .inr ⟨s, hs, (mN_eq T hx hs).2⟩
theorem leL_mul {t : List (List Int)} (T : Tb t t.length) {x s : Nat} (hx : x < t.length) (hs : s < t.length) : leL t (mN t s x) x := .inr ⟨s, hs, (mN_eq T hs hx).2⟩
/-- Stability on the right. -/
theorem stableR {t : List (List Int)} (hv : VT t = true) {x s : Nat} (hx : x < t.length) (hs : s < t.length) (h : leJ t x (mN t x s)) : leR t x (mN t x s) := by
  have T := SH.tb (VT.sh hv)
  have hxs := (mN_eq T hx hs).1
  obtain ⟨z, hz, h1, h2⟩ := h
  -- the two maps
  obtain ⟨f, hf, hfz, hfa⟩ : ∃ f : Nat → Nat, (∀ w, w < t.length → f w < t.length) ∧ f (mN t x s) = z ∧ ∀ w u, w < t.length → u < t.length → f (mN t w u) = mN t (f w) u := by
    rcases h1 with rfl | ⟨a, ha, h1⟩
    · exact ⟨id, fun w hw => hw, rfl, fun w u _ _ => rfl⟩
    · refine ⟨fun w => mN t a w, fun w hw => (mN_eq T ha hw).1, ?_, fun w u hw hu => (mN_as hv ha hw hu).symm⟩
      have := (mN_eq T ha hxs).2
      show mN t a (mN t x s) = z
      omega
  obtain ⟨g, hg, hgz, hgr, hgc⟩ : ∃ g : Nat → Nat, (∀ w, w < t.length → g w < t.length) ∧ (f (g x) = x) ∧ (∀ w, w < t.length → leR t (g w) (mN t w s)) ∧ ∀ w, w < t.length → f (g w) = g (f w) := by
    rcases h2 with rfl | ⟨b, hb, h2⟩
    · exact ⟨fun w => mN t w s, fun w hw => (mN_eq T hw hs).1, hfz, fun w hw => leR_refl t _, fun w hw => hfa w s hw hs⟩
    · refine ⟨fun w => mN t (mN t w s) b, fun w hw => (mN_eq T (mN_eq T hw hs).1 hb).1, ?_, fun w hw => leR_mul T (mN_eq T hw hs).1 hb, fun w hw => ?_⟩
      · show f (mN t (mN t x s) b) = x
        rw [hfa _ b hxs hb, hfz]
        have := (mN_eq T hz hb).2
        omega
      · show f (mN t (mN t w s) b) = mN t (mN t (f w) s) b
        rw [hfa _ b (mN_eq T hw hs).1 hb, hfa w s hw hs]
  obtain ⟨m, hm⟩ := stab hf hg hgc hx hgz
  have key : ∀ k, leR t (itN g (k + 1) x) (mN t x s) := by
    intro k
    induction k with
    | zero => exact hgr x hx
    | succ k ih =>
      have hw := itN_in hg hx (k + 1)
      exact leR_trans hv hxs (leR_trans hv hw (hgr _ hw) (leR_mul T hw hs)) ih
  have := key m
  rw [hm] at this
  exact this
theorem mN_opp {t : List (List Int)} {x y : Nat} (hx : x < t.length) (hy : y < t.length) : mN (opp t) x y = mN t y x := by
  unfold mN; rw [mu_opp hx hy]
theorem stableL {t : List (List Int)} (hv : VT t = true) {x s : Nat} (hx : x < t.length) (hs : s < t.length) (h : leJ t x (mN t s x)) : leL t x (mN t s x) := by
  have T := SH.tb (VT.sh hv)
  have hsx := (mN_eq T hs hx).1
  have h1 : leJ (opp t) x (mN (opp t) x s) := by
    rw [mN_opp hx hs]
    exact (leJ_opp hv hx hsx).2 h
  have := stableR (opp_VT hv) (by rw [opp_len]; exact hx) (by rw [opp_len]; exact hs) h1
  rw [mN_opp hx hs] at this
  exact (leR_opp hsx).1 this
/-- What lies in R-order and in one J-class lies in one R-class. -/
theorem leR_J_eR {t : List (List Int)} (hv : VT t = true) {x y : Nat} (hx : x < t.length) (hy : y < t.length) (h : leR t x y) (k : leJ t y x) : eR t x y := by
  refine ⟨h, ?_⟩
  have T := SH.tb (VT.sh hv)
  rcases h with rfl | ⟨s, hs, h⟩
  · exact leR_refl t x
  · have e : mN t y s = x := by have := (mN_eq T hy hs).2; omega
    rw [← e] at k ⊢
    exact stableR hv hy hs k
theorem leL_J_eL {t : List (List Int)} (hv : VT t = true) {x y : Nat} (hx : x < t.length) (hy : y < t.length) (h : leL t x y) (k : leJ t y x) : eL t x y := by
  refine ⟨h, ?_⟩
  have T := SH.tb (VT.sh hv)
  rcases h with rfl | ⟨s, hs, h⟩
  · exact leL_refl t x
  · have e : mN t s y = x := by have := (mN_eq T hs hy).2; omega
    rw [← e] at k ⊢
    exact stableL hv hy hs k
/-- D = J. -/
theorem eJ_D {t : List (List Int)} (hv : VT t = true) {x y : Nat} (hx : x < t.length) (hy : y < t.length) (h : eJ t x y) : ∃ z : Nat, z < t.length ∧ eR t x z ∧ eL t z y := by
  obtain ⟨⟨z, hz, h1, h2⟩, h3⟩ := h
  have j1 := leL_J hz h1
  have j2 := leR_J hz h2
  exact ⟨z, hz, leR_J_eR hv hx hz h2 (leJ_trans hv hy hx j1 h3), leL_J_eL hv hz hy h1 (leJ_trans hv hx hz h3 j2)⟩
theorem eR_J {t : List (List Int)} {x y : Nat} (hx : x < t.length) (hy : y < t.length) (h : eR t x y) : eJ t x y := ⟨leR_J hy h.1, leR_J hx h.2⟩
theorem eL_J {t : List (List Int)} {x y : Nat} (hx : x < t.length) (hy : y < t.length) (h : eL t x y) : eJ t x y := ⟨leL_J hx h.1, leL_J hy h.2⟩
theorem eJ_trans {t : List (List Int)} (hv : VT t = true) {x y z : Nat} (hx : x < t.length) (hy : y < t.length) (hz : z < t.length) (h : eJ t x y) (k : eJ t y z) : eJ t x z := ⟨leJ_trans hv hy hz h.1 k.1, leJ_trans hv hy hx k.2 h.2⟩
theorem eR_trans {t : List (List Int)} (hv : VT t = true) {x y z : Nat} (hx : x < t.length) (hz : z < t.length) (h : eR t x y) (k : eR t y z) : eR t x z := ⟨leR_trans hv hz h.1 k.1, leR_trans hv hx k.2 h.2⟩
theorem eL_trans {t : List (List Int)} (hv : VT t = true) {x y z : Nat} (hx : x < t.length) (hz : z < t.length) (h : eL t x y) (k : eL t y z) : eL t x z := ⟨leL_trans hv hz h.1 k.1, leL_trans hv hx k.2 h.2⟩

/-! ### Joins -/
theorem ref03_Join_ok {p q : List Int} {n : Nat} (n4 : n ≤ 400) {e e' E : Nat → Nat → Prop} (hp : PartOf p n e) (hq : PartOf q n e') (hs : ∀ i j : Nat, i < n → j < n → E i j → E j i) (ht : ∀ i j k : Nat, i < n → j < n → k < n → E i j → E j k → E i k)
    (h1 : ∀ i j : Nat, i < n → j < n → e i j → E i j) (h2 : ∀ i j : Nat, i < n → j < n → e' i j → E i j) (h3 : ∀ i j : Nat, i < n → j < n → E i j → ∃ z : Nat, z < n ∧ e i z ∧ e' z j) {K : List Int → Prop} (h : ∀ j, PartOf j n E → K j) : ref03_Join p q K := by
  have hpl := hp.len
  have hql := hq.len
  unfold ref03_Join
  refine ⟨by simp; omega, fun _ => ?_⟩
  rw [List.nil_append]
  refine LoopWP.fold n (fun k (o : List Int) => o.length = n ∧ (∀ i j : Nat, i < n → j < n → e i j → ix o (i : Int) = ix o (j : Int)) ∧ (∀ i j : Nat, i < n → j < n → ix o (i : Int) = ix o (j : Int) → E i j) ∧ ∀ i j : Nat, i < k → j < i → ix q (i : Int) = ix q (j : Int) → ix o (i : Int) = ix o (j : Int)) ⟨hpl, fun i j hi hj he => (hp.ker i j hi hj).2 he, fun i j hi hj he => h1 i j hi hj ((hp.ker i j hi hj).1 he), fun i j hi => by omega⟩ ?_
  rintro k o X hk ⟨ho, hA, hB, hC⟩ hX
  show ref03_Join_L1 q K _ k o
  unfold ref03_Join_L1
  rw [hql]
  split
  · have hkn : k < n := by omega
    refine LoopWP.scan k (fun j => ¬ ix q (k : Int) = ix q (j : Int)) ?_
    rintro j X2 hj hno hX2
    show ref03_Join_L2 q k o _ K X2 j
    unfold ref03_Join_L2
    split
    · have hjk : j < k := by omega
      refine ⟨by omega, by omega, by omega, by omega, ?_⟩
      split
      · rename_i heq
        refine ⟨by omega, by omega, by omega, by omega, ?_⟩
        have hE : E k j := h2 k j hkn (by omega) ((hq.ker k j hkn (by omega)).1 heq)
        refine LoopWP.fold n (fun m (r : List Int) => r.length = n ∧ (∀ i : Nat, i < m → ix r (i : Int) = if ix o (i : Int) = ix o (j : Int) then ix o (k : Int) else ix o (i : Int)) ∧ ∀ i : Nat, m ≤ i → ix r (i : Int) = ix o (i : Int)) ⟨ho, fun i hi => by omega, fun i hi => rfl⟩ ?_
        rintro m r X3 hm ⟨hr, hlo, hhi⟩ hX3
        show ref03_Join_L3 k o _ j K _ m r
        unfold ref03_Join_L3
        rw [ho]
        split
        · have hmn : m < n := by omega
          have em := hhi m (Nat.le_refl _)
          refine ⟨by omega, by omega, ?_⟩
          split
          · rename_i hmj
            refine ⟨by omega, by omega, ⟨by omega, by omega⟩, hX3 _ hmn ⟨by rw [st_length]; exact hr, fun i hi => ?_, fun i hi => ?_⟩⟩
            · rw [ix_st _ (by omega) (by omega) (by omega)]
              by_cases him : i = m
              · subst him; rw [if_pos rfl, if_pos (by rw [← em]; exact hmj)]
              · rw [if_neg (by omega)]; exact hlo i (by omega)
            · rw [ix_st _ (by omega) (by omega) (by omega), if_neg (by omega)]; exact hhi i (by omega)
          · rename_i hmj
            refine ⟨⟨by omega, by omega⟩, hX3 _ hmn ⟨hr, fun i hi => ?_, fun i hi => hhi i (by omega)⟩⟩
            by_cases him : i = m
            · subst him; rw [if_neg (by rw [← em]; exact hmj)]; exact em
            · exact hlo i (by omega)
        · obtain rfl : m = n := by omega
          have val : ∀ i : Nat, i < m → ix r (i : Int) = if ix o (i : Int) = ix o (j : Int) then ix o (k : Int) else ix o (i : Int) := hlo
          have keep : ∀ i l : Nat, i < m → l < m → ix o (i : Int) = ix o (l : Int) → ix r (i : Int) = ix r (l : Int) := fun i l hi hl hh => by rw [val i hi, val l hl, hh]
          refine hX _ hkn ⟨hr, fun i l hi hl he => keep i l hi hl (hA i l hi hl he), fun i l hi hl he => ?_, fun i l hi hl he => ?_⟩
          · rw [val i hi, val l hl] at he
            by_cases hi' : ix o (i : Int) = ix o (j : Int)
            · have b1 := hB i j hi (by omega) hi'
              by_cases hl' : ix o (l : Int) = ix o (j : Int)
              · exact hB i l hi hl (hi'.trans hl'.symm)
              · rw [if_pos hi', if_neg hl'] at he
                exact ht i j l hi (by omega) hl b1 (ht j k l (by omega) hkn hl (hs k j hkn (by omega) hE) (hB k l hkn hl he))
            · by_cases hl' : ix o (l : Int) = ix o (j : Int)
              · rw [if_neg hi', if_pos hl'] at he
                exact ht i k l hi hkn hl (hB i k hi hkn he) (ht k j l hkn (by omega) hl hE (hs l j hl (by omega) (hB l j hl (by omega) hl')))
              · rw [if_neg hi', if_neg hl'] at he
                exact hB i l hi hl he
          · by_cases hik : i = k
            · subst hik
              have hjl : ix o (j : Int) = ix o (l : Int) ∨ l = j := by
                rcases Nat.lt_trichotomy l j with hlt | rfl | hgt
                · exact absurd he (hno l hlt)
                · exact .inr rfl
                · exact .inl (hC l j (by omega) hgt (he.symm.trans heq)).symm
              have e2 : ix r (j : Int) = ix r (i : Int) := by
                rw [val j (by omega), val i hkn, if_pos rfl]
                split
                · rfl
                · rfl
              rcases hjl with hjl | rfl
              · rw [← keep j l (by omega) (by omega) hjl]; exact e2.symm
              · exact e2.symm
            · exact keep i l (by omega) (by omega) (hC i l (by omega) hl he)
      · rename_i hne
        exact ⟨⟨by omega, by omega⟩, hX2 (by omega) hne⟩
    · obtain rfl : j = k := by omega
      refine hX _ hkn ⟨ho, hA, hB, fun i l hi hl he => ?_⟩
      by_cases hij : i = j
      · subst hij; exact absurd he (hno l hl)
      · exact hC i l (by omega) hl he
  · obtain rfl : k = n := by omega
    refine ref03_Canonical_ok (by omega) fun c hc => h c (hc.part ho fun i j hi hj => ⟨hB i j hi hj, fun hE => ?_⟩)
    obtain ⟨z, hz, a, b⟩ := h3 i j hi hj hE
    rw [hA i z hi hz a]
    have hqz := (hq.ker z j hz hj).2 b
    rcases Nat.lt_trichotomy z j with hlt | rfl | hgt
    · exact (hC j z hj hlt hqz.symm).symm
    · rfl
    · exact hC z j hz hgt hqz
theorem law15_GreenStable_ok (t : List (List Int)) (x y : Int) (hx : I64 x) (hy : I64 y) : law15_GreenStable t x y (fun b => b = true) := by
  unfold law15_GreenStable
  refine law15_small_ok ?_
  by_cases hs0 : (decide ((t.length : Int) ≤ 16) && VT t) = true
  · rw [if_pos hs0]
    simp only [Bool.and_eq_true, decide_eq_true_eq] at hs0
    obtain ⟨h16, hv⟩ := hs0
    have T := SH.tb (VT.sh hv)
    refine ref14_In_ok ?_
    by_cases hin : inB t.length [x, y] = true
    · rw [if_pos hin]
      have hb := inB2.1 hin
      obtain ⟨a, rfl⟩ := Int.eq_ofNat_of_zero_le hb.1.1
      obtain ⟨b, rfl⟩ := Int.eq_ofNat_of_zero_le hb.2.1
      have ha : a < t.length := by omega
      have hbb : b < t.length := by omega
      refine green_Classes_ok (fun _ g hg => ?_) fun h => absurd hv h
      have l1 := hg.R.len
      have l2 := hg.L.len
      have l3 := hg.J.len
      refine ref03_Valid_ok hg.R.can (by omega) ?_
      rw [if_pos rfl]
      refine ref03_Valid_ok hg.L.can (by omega) ?_
      rw [if_pos rfl]
      refine fun _ _ => ?_
      rw [if_pos (by omega)]
      refine fun _ => ?_
      rw [if_pos (by omega)]
      refine fun _ => ?_
      rw [if_pos (by omega)]
      refine ref03_Join_ok (E := eJ t) (by omega) hg.R hg.L (fun i j _ _ h => ⟨h.2, h.1⟩) (fun i j k hi hj hk => eJ_trans hv hi hj hk) (fun i j hi hj => eR_J hi hj) (fun i j hi hj => eL_J hi hj) (fun i j hi hj => eJ_D hv hi hj) fun j hj => ?_
      refine ref03_Same_ok ?_
      rw [decide_eq_true (hg.J.uniq hj fun _ _ _ _ => Iff.rfl), if_pos rfl]
      have hra := T.row (a : Int) (by omega) (by omega)
      obtain ⟨hp, ep⟩ := mN_eq T ha hbb
      have ep' : ix (ix t (a : Int)) (b : Int) = (mN t a b : Int) := ep
      rw [ep']
      have q1 : ix g.J (mN t a b : Int) = ix g.J (a : Int) → ix g.R (mN t a b : Int) = ix g.R (a : Int) := fun h => by
        have hJ := (hg.J.ker _ a hp ha).1 h
        exact (hg.R.ker _ a hp ha).2 (leR_J_eR hv hp ha (leR_mul T ha hbb) hJ.2)
      have q2 : ix g.J (mN t a b : Int) = ix g.J (b : Int) → ix g.L (mN t a b : Int) = ix g.L (b : Int) := fun h => by
        have hJ := (hg.J.ker _ b hp hbb).1 h
        exact (hg.L.ker _ b hp hbb).2 (leL_J_eL hv hp hbb (leL_mul T hbb ha) hJ.2)
      refine ⟨by omega, by omega, by omega, by omega, by omega, by omega, by omega, by omega, ?_⟩
      split
      · rename_i hj1
        refine ⟨by omega, by omega, by omega, by omega, ?_⟩
        rw [if_pos (q1 hj1)]
        refine ⟨by omega, by omega, by omega, by omega, ?_⟩
        split
        · rename_i hj2
          refine ⟨by omega, by omega, by omega, by omega, ?_⟩
          rw [if_pos (q2 hj2)]
          exact law15_awake_ok rfl
        · exact law15_awake_ok rfl
      · refine ⟨by omega, by omega, by omega, by omega, ?_⟩
        split
        · rename_i hj2
          refine ⟨by omega, by omega, by omega, by omega, ?_⟩
          rw [if_pos (q2 hj2)]
          exact law15_awake_ok rfl
        · exact law15_awake_ok rfl
    · rw [if_neg hin]
      exact law15_awake_ok rfl
  · rw [if_neg hs0]
    exact law15_awake_ok rfl
end Sg
