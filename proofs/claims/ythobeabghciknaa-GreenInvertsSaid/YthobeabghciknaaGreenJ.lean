/- Inverses: one for each pair of idempotents. Plain law. -/
import Derived.Test.YthobeabghciknaaGreenI
namespace Sg
open Go
set_option linter.unusedVariables false
set_option linter.unusedSimpArgs false
def prodL (l m : List Int) : List (Int × Int) := l.flatMap fun a => m.map fun b => (a, b)
theorem prodL_len (l m : List Int) : (prodL l m).length = l.length * m.length := by
  induction l with
  | nil => simp [prodL]
  | cons a l ih =>
    have : prodL (a :: l) m = m.map (fun b => (a, b)) ++ prodL l m := rfl
    rw [this, List.length_append, ih, List.length_map, List.length_cons, Nat.add_mul, Nat.one_mul, Nat.add_comm]
theorem mem_prodL {l m : List Int} {p : Int × Int} : p ∈ prodL l m ↔ p.1 ∈ l ∧ p.2 ∈ m := by
  obtain ⟨a, b⟩ := p
  simp [prodL]
theorem nodup_prodL {l m : List Int} (hl : l.Nodup) (hm : m.Nodup) : (prodL l m).Nodup := by
  induction l with
  | nil => simp [prodL]
  | cons a l ih =>
    obtain ⟨h1, h2⟩ := List.nodup_cons.1 hl
    have : prodL (a :: l) m = m.map (fun b => (a, b)) ++ prodL l m := rfl
    rw [this]
    refine List.nodup_append.2 ⟨List.pairwise_map.2 (hm.imp fun hne h => hne (by simpa using h)), ih h2, ?_⟩
    intro p hp q hq hpq
    subst hpq
    obtain ⟨b, _, rfl⟩ := List.mem_map.1 hp
    exact h1 (mem_prodL.1 hq).1
theorem nodup_iota_filter (n : Nat) (p : Int → Bool) : ((iota n).filter p).Nodup := ((iota_asc n).imp fun h => Int.ne_of_lt h).filter _
/-- y is an inverse of x. -/
def IsInv (t : List (List Int)) (x y : Nat) : Prop := mN t (mN t x y) x = x ∧ mN t (mN t y x) y = y
theorem mem_invL {t : List (List Int)} (T : Tb t t.length) {x : Nat} (hx : x < t.length) {y : Nat} (hy : y < t.length) : (y : Int) ∈ invL t (x : Int) ↔ IsInv t x y := by
  unfold invL
  rw [List.mem_filter, mem_iota]
  unfold invB IsInv
  obtain ⟨a1, a2⟩ := mN_eq T hx hy
  obtain ⟨b1, b2⟩ := mN_eq T hy hx
  obtain ⟨c1, c2⟩ := mN_eq T a1 hx
  obtain ⟨d1, d2⟩ := mN_eq T b1 hy
  rw [a2, b2, c2, d2]
  simp only [Bool.and_eq_true, decide_eq_true_eq]
  constructor
  · rintro ⟨_, h1, h2⟩; exact ⟨by omega, by omega⟩
  · rintro ⟨h1, h2⟩; exact ⟨⟨by omega, by omega⟩, by omega, by omega⟩
/-- An idempotent of the R-class is neutral on the left. -/
theorem idem_left {t : List (List Int)} (hv : VT t = true) {e x : Nat} (he : e < t.length) (hx : x < t.length) (hid : mN t e e = e) (h : leR t x e) : mN t e x = x := by
  have T := SH.tb (VT.sh hv)
  rcases h with rfl | ⟨s, hs, h⟩
  · exact hid
  · have e1 : mN t e s = x := by have := (mN_eq T he hs).2; omega
    rw [← e1, ← mN_as hv he he hs, hid]
theorem idem_right {t : List (List Int)} (hv : VT t = true) {e x : Nat} (he : e < t.length) (hx : x < t.length) (hid : mN t e e = e) (h : leL t x e) : mN t x e = x := by
  have T := SH.tb (VT.sh hv)
  rcases h with rfl | ⟨s, hs, h⟩
  · exact hid
  · have e1 : mN t s e = x := by have := (mN_eq T hs he).2; omega
    rw [← e1, mN_as hv hs he he, hid]
/-- The inverse of x at a pair of idempotents. -/
theorem inv_ex {t : List (List Int)} (hv : VT t = true) {x e f : Nat} (hx : x < t.length) (he : e < t.length) (hf : f < t.length) (ide : mN t e e = e) (idf : mN t f f = f) (hR : eR t e x) (hL : eL t f x) :
    ∃ y : Nat, y < t.length ∧ IsInv t x y ∧ mN t x y = e ∧ mN t y x = f := by
  have T := SH.tb (VT.sh hv)
  have ex : mN t e x = x := idem_left hv he hx ide hR.2
  have xf : mN t x f = x := idem_right hv hf hx idf hL.2
  -- e = x u
  obtain ⟨u, hu, xu⟩ : ∃ u : Nat, u < t.length ∧ mN t x u = e := by
    rcases hR.1 with h | ⟨s, hs, h⟩
    · subst h; exact ⟨e, he, ide⟩
    · exact ⟨s, hs, by have := (mN_eq T hx hs).2; omega⟩
  -- f = v x
  obtain ⟨v, hv', vx⟩ : ∃ v : Nat, v < t.length ∧ mN t v x = f := by
    rcases hL.1 with h | ⟨s, hs, h⟩
    · subst h; exact ⟨f, hf, idf⟩
    · exact ⟨s, hs, by have := (mN_eq T hs hx).2; omega⟩
  have hfu := (mN_eq T hf hu).1
  have hy := (mN_eq T hfu he).1
  refine ⟨mN t (mN t f u) e, hy, ?_⟩
  have xy : mN t x (mN t (mN t f u) e) = e := by
    rw [← mN_as hv hx hfu he, ← mN_as hv hx hf hu, xf, xu, ide]
  have yx : mN t (mN t (mN t f u) e) x = f := by
    rw [mN_as hv hfu he hx, ex, mN_as hv hf hu hx]
    have hux := (mN_eq T hu hx).1
    have h1 : mN t f (mN t u x) = mN t v (mN t x (mN t u x)) := by rw [← mN_as hv hv' hx hux, vx]
    rw [h1, ← mN_as hv hx hu hx, xu, ex, vx]
  refine ⟨⟨by rw [xy, ex], ?_⟩, xy, yx⟩
  rw [yx, ← mN_as hv hf hfu he, ← mN_as hv hf hf hu, idf]
theorem inv_idem {t : List (List Int)} (hv : VT t = true) {x y : Nat} (hx : x < t.length) (hy : y < t.length) (h : IsInv t x y) : mN t (mN t x y) (mN t x y) = mN t x y ∧ mN t (mN t y x) (mN t y x) = mN t y x ∧ eR t (mN t x y) x ∧ eL t (mN t y x) x := by
  have T := SH.tb (VT.sh hv)
  obtain ⟨a, a'⟩ := mN_eq T hx hy
  obtain ⟨b, b'⟩ := mN_eq T hy hx
  obtain ⟨h1, h2⟩ := h
  refine ⟨?_, ?_, ⟨leR_mul T hx hy, ?_⟩, ⟨leL_mul T hx hy, ?_⟩⟩
  · rw [← mN_as hv a hx hy, h1]
  · rw [← mN_as hv b hy hx, h2]
  · have := leR_mul T a hx; rw [h1] at this; exact this
  · have h3 : mN t x (mN t y x) = x := by rw [← mN_as hv hx hy hx]; exact h1
    have := leL_mul T b hx; rw [h3] at this; exact this
def eRB (t : List (List Int)) (R : List Int) (x e : Int) : Bool := decide (ix R e = ix R x)
theorem inv_count {t : List (List Int)} (hv : VT t = true) {g : Green} (hg : GrOf t g) {x : Nat} (hx : x < t.length) :
    (invL t (x : Int)).length = (((iota t.length).filter (idemB t)).filter fun e => decide (ix g.R e = ix g.R (x : Int))).length * (((iota t.length).filter (idemB t)).filter fun e => decide (ix g.L e = ix g.L (x : Int))).length := by
  have T := SH.tb (VT.sh hv)
  have mR : ∀ e : Nat, (e : Int) ∈ (((iota t.length).filter (idemB t)).filter fun e => decide (ix g.R e = ix g.R (x : Int))) ↔ e < t.length ∧ mN t e e = e ∧ eR t e x := by
    intro e
    simp only [List.mem_filter, mem_iota, idemB, decide_eq_true_eq]
    constructor
    · rintro ⟨⟨⟨_, h1⟩, h2⟩, h3⟩
      have he : e < t.length := by omega
      exact ⟨he, by have := (mN_eq T he he).2; omega, (hg.R.ker e x he hx).1 h3⟩
    · rintro ⟨he, h2, h3⟩
      exact ⟨⟨⟨by omega, by omega⟩, by have := (mN_eq T he he).2; omega⟩, (hg.R.ker e x he hx).2 h3⟩
  have mL : ∀ e : Nat, (e : Int) ∈ (((iota t.length).filter (idemB t)).filter fun e => decide (ix g.L e = ix g.L (x : Int))) ↔ e < t.length ∧ mN t e e = e ∧ eL t e x := by
    intro e
    simp only [List.mem_filter, mem_iota, idemB, decide_eq_true_eq]
    constructor
    · rintro ⟨⟨⟨_, h1⟩, h2⟩, h3⟩
      have he : e < t.length := by omega
      exact ⟨he, by have := (mN_eq T he he).2; omega, (hg.L.ker e x he hx).1 h3⟩
    · rintro ⟨he, h2, h3⟩
      exact ⟨⟨⟨by omega, by omega⟩, by have := (mN_eq T he he).2; omega⟩, (hg.L.ker e x he hx).2 h3⟩
  generalize hLR : (((iota t.length).filter (idemB t)).filter fun e => decide (ix g.R e = ix g.R (x : Int))) = LR at mR
  generalize hLL : (((iota t.length).filter (idemB t)).filter fun e => decide (ix g.L e = ix g.L (x : Int))) = LL at mL
  have nR : LR.Nodup := by rw [← hLR]; exact (nodup_iota_filter _ _).filter _
  have nL : LL.Nodup := by rw [← hLL]; exact (nodup_iota_filter _ _).filter _
  have inR : ∀ z ∈ LR, ∃ e : Nat, z = (e : Int) := fun z hz => by
    rw [← hLR] at hz
    have := mem_iota.1 (List.mem_filter.1 (List.mem_filter.1 hz).1).1
    exact ⟨z.toNat, by omega⟩
  have inL : ∀ z ∈ LL, ∃ e : Nat, z = (e : Int) := fun z hz => by
    rw [← hLL] at hz
    have := mem_iota.1 (List.mem_filter.1 (List.mem_filter.1 hz).1).1
    exact ⟨z.toNat, by omega⟩
  have inI : ∀ z ∈ invL t (x : Int), ∃ y : Nat, z = (y : Int) ∧ y < t.length := fun z hz => by
    have := mem_iota.1 (List.mem_filter.1 hz).1
    exact ⟨z.toNat, by omega, by omega⟩
  rw [← prodL_len]
  refine Nat.le_antisymm ?_ ?_
  · -- each inverse gives a pair
    let φ : Int → Int × Int := fun z => ((mN t x z.toNat : Nat), (mN t z.toNat x : Nat))
    have := nodup_subG (l := (invL t (x : Int)).map φ) (l' := prodL LR LL) ?_ ?_
    · simpa using this
    · refine List.pairwise_map.2 ((nodup_iota_filter t.length (invB t (x : Int))).imp_of_mem fun {a b} ha hb hne h => hne ?_)
      obtain ⟨y, rfl, hy⟩ := inI a ha
      obtain ⟨z, rfl, hz⟩ := inI b hb
      have iy := (mem_invL T hx hy).1 ha
      have iz := (mem_invL T hx hz).1 hb
      simp only [φ, Int.toNat_natCast, Prod.mk.injEq] at h
      have h1 : mN t x y = mN t x z := by omega
      have h2 : mN t y x = mN t z x := by omega
      have e1 : y = z := by
        have hzx := (mN_eq T hz hx).1
        rw [← iy.2, h2, mN_as hv hz hx hy, h1, ← mN_as hv hz hx hz, iz.2]
      rw [e1]
    · intro p hp
      obtain ⟨z, hz, rfl⟩ := List.mem_map.1 hp
      obtain ⟨y, rfl, hy⟩ := inI z hz
      have iy := (mem_invL T hx hy).1 hz
      obtain ⟨q1, q2, q3, q4⟩ := inv_idem hv hx hy iy
      refine mem_prodL.2 ⟨?_, ?_⟩
      · simp only [φ, Int.toNat_natCast]
        exact (mR _).2 ⟨(mN_eq T hx hy).1, q1, q3⟩
      · simp only [φ, Int.toNat_natCast]
        exact (mL _).2 ⟨(mN_eq T hy hx).1, q2, q4⟩
  · -- each pair gives an inverse
    have ex : ∀ p ∈ prodL LR LL, ∃ y : Nat, y < t.length ∧ IsInv t x y ∧ ((mN t x y : Nat) : Int) = p.1 ∧ ((mN t y x : Nat) : Int) = p.2 := by
      intro p hp
      obtain ⟨h1, h2⟩ := mem_prodL.1 hp
      obtain ⟨e, he⟩ := inR _ h1
      obtain ⟨f, hf⟩ := inL _ h2
      rw [he] at h1 ⊢
      rw [hf] at h2 ⊢
      obtain ⟨a1, a2, a3⟩ := (mR e).1 h1
      obtain ⟨b1, b2, b3⟩ := (mL f).1 h2
      obtain ⟨y, hy, i, r1, r2⟩ := inv_ex hv hx a1 b1 a2 b2 a3 b3
      exact ⟨y, hy, i, by omega, by omega⟩
    classical
    let ψ : Int × Int → Int := fun p => if h : ∃ y : Nat, y < t.length ∧ IsInv t x y ∧ ((mN t x y : Nat) : Int) = p.1 ∧ ((mN t y x : Nat) : Int) = p.2 then ((Classical.choose h : Nat) : Int) else 0
    have hψ : ∀ p ∈ prodL LR LL, ∃ y : Nat, ψ p = (y : Int) ∧ y < t.length ∧ IsInv t x y ∧ ((mN t x y : Nat) : Int) = p.1 ∧ ((mN t y x : Nat) : Int) = p.2 := by
      intro p hp
      have h := ex p hp
      refine ⟨Classical.choose h, ?_, Classical.choose_spec h⟩
      simp only [ψ]; rw [dif_pos h]
    have := nodup_subG (l := (prodL LR LL).map ψ) (l' := invL t (x : Int)) ?_ ?_
    · simpa using this
    · refine List.pairwise_map.2 ((nodup_prodL nR nL).imp_of_mem fun {p q} hp hq hne h => hne ?_)
      obtain ⟨y, ey, _, _, y1, y2⟩ := hψ p hp
      obtain ⟨z, ez, _, _, z1, z2⟩ := hψ q hq
      obtain rfl : y = z := by rw [ey, ez] at h; omega
      exact Prod.ext (y1.symm.trans z1) (y2.symm.trans z2)
    · intro z hz
      obtain ⟨p, hp, rfl⟩ := List.mem_map.1 hz
      obtain ⟨y, ey, hy, iy, _⟩ := hψ p hp
      rw [ey]
      exact (mem_invL T hx hy).2 iy
/-- There are inverses exactly in regular classes. -/
theorem inv_regular {t : List (List Int)} (hv : VT t = true) {g : Green} (hg : GrOf t g) {x i : Nat} (hx : x < t.length) (hi : ix g.J (x : Int) = (i : Int)) : 0 < (invL t (x : Int)).length ↔ regP t g.J t.length i := by
  have T := SH.tb (VT.sh hv)
  constructor
  · intro h
    have hm := ix_mem (xs := invL t (x : Int)) (i := 0) (by omega) (by omega)
    have h0 := mem_iota.1 (List.mem_filter.1 hm).1
    obtain ⟨y, hy⟩ := Int.eq_ofNat_of_zero_le h0.1
    have hyl : y < t.length := by omega
    rw [hy] at hm
    have iy := (mem_invL T hx hyl).1 hm
    obtain ⟨q1, _, q3, _⟩ := inv_idem hv hx hyl iy
    have he := (mN_eq T hx hyl).1
    refine ⟨mN t x y, he, ?_, ?_⟩
    · rw [(hg.J.ker _ x he hx).2 (eR_J he hx q3)]; exact hi
    · have := (mN_eq T he he).2; omega
  · rintro ⟨e, he, e1, e2⟩
    have ide : mN t e e = e := by have := (mN_eq T he he).2; omega
    have hJ : eJ t x e := (hg.J.ker x e hx he).1 (by rw [hi, e1])
    obtain ⟨z, hz, hR, hL⟩ := eJ_D hv hx he hJ
    have ze : mN t z e = z := idem_right hv he hz ide hL.1
    -- x = x s x
    obtain ⟨s, hs, hxs⟩ : ∃ s : Nat, s < t.length ∧ mN t (mN t x s) x = x := by
      -- z = z v z
      obtain ⟨v, hv', hzv⟩ : ∃ v : Nat, v < t.length ∧ mN t (mN t z v) z = z := by
        rcases hL.2 with h | ⟨v, hv', h⟩
        · subst h; exact ⟨e, he, by rw [ide, ide]⟩
        · refine ⟨v, hv', ?_⟩
          have : mN t v z = e := by have := (mN_eq T hv' hz).2; omega
          rw [mN_as hv hz hv' hz, this, ze]
      have hzvx : mN t (mN t z v) x = x := by
        rcases hR.1 with h | ⟨w, hw, h⟩
        · subst h; exact hzv
        · have : mN t z w = x := by have := (mN_eq T hz hw).2; omega
          rw [← this, ← mN_as hv (mN_eq T hz hv').1 hz hw, hzv]
      rcases hR.2 with h | ⟨u, hu, h⟩
      · subst h; exact ⟨v, hv', hzvx⟩
      · have hxu : mN t x u = z := by have := (mN_eq T hx hu).2; omega
        exact ⟨mN t u v, (mN_eq T hu hv').1, by rw [← mN_as hv hx hu hv', hxu]; exact hzvx⟩
    have hxs1 := (mN_eq T hx hs).1
    have hsx := (mN_eq T hs hx).1
    have hy := (mN_eq T hsx hs).1
    have iy : IsInv t x (mN t (mN t s x) s) := by
      have a1 : mN t x (mN t (mN t s x) s) = mN t x s := by
        rw [← mN_as hv hx hsx hs, ← mN_as hv hx hs hx, hxs]
      refine ⟨by rw [a1, hxs], ?_⟩
      rw [mN_as hv hy hx hy, a1, mN_as hv hsx hs hxs1, ← mN_as hv hs hx hs, ← mN_as hv hsx hsx hs, ← mN_as hv hsx hs hx, mN_as hv hs hx hs, mN_as hv hs hxs1 hx, hxs]
      exact mN_as hv hs hx hs
    exact List.length_pos_of_mem ((mem_invL T hx hy).2 iy)
theorem law15_GreenInverts_ok (t : List (List Int)) (x : Int) (hx : I64 x) : law15_GreenInverts t x (fun b => b = true) := by
  unfold law15_GreenInverts
  refine law15_small_ok ?_
  by_cases hs0 : (decide ((t.length : Int) ≤ 16) && VT t) = true
  · rw [if_pos hs0]
    simp only [Bool.and_eq_true, decide_eq_true_eq] at hs0
    obtain ⟨h16, hv⟩ := hs0
    have T := SH.tb (VT.sh hv)
    refine ref14_In_ok ?_
    by_cases hin : inB t.length [x] = true
    · rw [if_pos hin]
      have hb := inB1.1 hin
      obtain ⟨a, rfl⟩ := Int.eq_ofNat_of_zero_le hb.1
      have ha : a < t.length := by omega
      refine green_Classes_ok (fun _ g hg => ?_) fun h => absurd hv h
      refine green_Regular_ok (fun _ g' r hg' hr hI => ?_) fun h => absurd hv h
      obtain rfl := hg.uniq hg'
      refine green_Inverses_ok (fun _ a' ha' ea' => ?_) fun h => absurd ⟨hv, by omega, by omega⟩ h
      obtain rfl : a' = a := by omega
      have l1 := hg.R.len
      have l2 := hg.L.len
      have l3 := hg.J.len
      obtain ⟨i, hi, ei⟩ := hg.num ha
      rw [ei]
      refine fun _ _ => ?_
      rw [if_pos (by omega)]
      refine ⟨by omega, by omega, fun _ => ?_⟩
      rw [if_neg (by omega)]
      refine mult_Idempotents_ok ?_
      rw [if_pos hv]
      refine fun _ => ?_
      have hcnt := inv_count hv hg ha
      have hreg := inv_regular hv hg ha ei
      generalize hE : (iota t.length).filter (idemB t) = Es at hcnt ⊢
      have hEm : ∀ m : Nat, m < Es.length → ∃ e : Nat, e < t.length ∧ ix Es (m : Int) = (e : Int) := fun m hm => by
        have h := ix_mem (xs := Es) (i := (m : Int)) (by omega) (by omega)
        rw [← hE] at h
        have h0 := mem_iota.1 (List.mem_filter.1 h).1
        rw [hE] at h0
        exact ⟨(ix Es (m : Int)).toNat, by omega, by omega⟩
      have hEl : Es.length ≤ t.length := by rw [← hE]; have := List.length_filter_le (idemB t) (iota t.length); simpa using this
      refine LoopWP.intro (fun s : Nat × Nat × Nat => s.2.2 ≤ Es.length ∧ s.1 = ((Es.take s.2.2).filter fun e => decide (ix g.L e = ix g.L (a' : Int))).length ∧ s.2.1 = ((Es.take s.2.2).filter fun e => decide (ix g.R e = ix g.R (a' : Int))).length) (fun s => Es.length - s.2.2) ⟨by simp, by simp, by simp⟩ ?_
      rintro ⟨l, rr, k⟩ X ⟨hk, hl, hrr⟩ hX
      simp only at hk hl hrr
      show law15_GreenInverts_L1 (a' : Int) g r (invL t (a' : Int)) Es _ _ l rr k
      unfold law15_GreenInverts_L1
      have bl : l ≤ k := by rw [hl]; have := List.length_filter_le (fun e => decide (ix g.L e = ix g.L (a' : Int))) (Es.take k); simp at this ⊢; omega
      have br : rr ≤ k := by rw [hrr]; have := List.length_filter_le (fun e => decide (ix g.R e = ix g.R (a' : Int))) (Es.take k); simp at this ⊢; omega
      split
      · have hkl : k < Es.length := by omega
        obtain ⟨e, he, ee⟩ := hEm k hkl
        have stepL : ((Es.take (k + 1)).filter fun e => decide (ix g.L e = ix g.L (a' : Int))).length = l + if ix g.L (e : Int) = ix g.L (a' : Int) then 1 else 0 := by
          rw [take_ix hkl, List.filter_append, List.length_append, ← hl, ee]
          split <;> simp_all
        have stepR : ((Es.take (k + 1)).filter fun e => decide (ix g.R e = ix g.R (a' : Int))).length = rr + if ix g.R (e : Int) = ix g.R (a' : Int) then 1 else 0 := by
          rw [take_ix hkl, List.filter_append, List.length_append, ← hrr, ee]
          split <;> simp_all
        rw [ee]
        refine ⟨by omega, by omega, by omega, by omega, by omega, by omega, ?_⟩
        split
        · rename_i c1
          rw [if_pos c1] at stepL
          refine ⟨⟨by omega, by omega⟩, by omega, by omega, by omega, by omega, ?_⟩
          split
          · rename_i c2
            rw [if_pos c2] at stepR
            exact ⟨⟨by omega, by omega⟩, hX _ ⟨by simp only; omega, by simp only; omega, by simp only; omega⟩ (by simp only; omega)⟩
          · rename_i c2
            rw [if_neg c2] at stepR
            exact hX _ ⟨by simp only; omega, by simp only; omega, by simp only; omega⟩ (by simp only; omega)
        · rename_i c1
          rw [if_neg c1] at stepL
          refine ⟨by omega, by omega, by omega, by omega, ?_⟩
          split
          · rename_i c2
            rw [if_pos c2] at stepR
            exact ⟨⟨by omega, by omega⟩, hX _ ⟨by simp only; omega, by simp only; omega, by simp only; omega⟩ (by simp only; omega)⟩
          · rename_i c2
            rw [if_neg c2] at stepR
            exact hX _ ⟨by simp only; omega, by simp only; omega, by simp only; omega⟩ (by simp only; omega)
      · obtain rfl : k = Es.length := by omega
        rw [List.take_length] at hl hrr
        rw [← hl, ← hrr] at hcnt
        have hcnt' : ((invL t (a' : Int)).length : Int) = (l : Int) * (rr : Int) := by rw [hcnt, Nat.mul_comm]; simp
        have hinv : (invL t (a' : Int)).length ≤ t.length := by have := List.length_filter_le (invB t (a' : Int)) (iota t.length); unfold invL; simpa using this
        refine fun _ => ⟨⟨by omega, by omega⟩, ?_⟩
        rw [if_pos hcnt']
        have hri := hI i hi
        split
        · rename_i hpos
          rw [ei]
          refine ⟨by omega, by omega, by omega, by omega, ?_⟩
          rw [if_pos (hri.2 (hreg.1 (by omega)))]
          exact law15_awake_ok rfl
        · rename_i hpos
          rw [ei]
          refine ⟨by omega, by omega, by omega, by omega, ?_⟩
          rw [if_neg fun h => hpos (by have := hreg.2 (hri.1 h); omega)]
          exact law15_awake_ok rfl
    · rw [if_neg hin]
      exact law15_awake_ok rfl
  · rw [if_neg hs0]
    exact law15_awake_ok rfl
end Sg
