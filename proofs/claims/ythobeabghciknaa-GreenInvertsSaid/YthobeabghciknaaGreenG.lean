/- Green's relations: who lies in whose ideals; regular classes and inverses; the opposite table. Plain laws. -/
import Derived.Test.YthobeabghciknaaGreenF
namespace Sg
open Go
set_option linter.unusedVariables false
set_option linter.unusedSimpArgs false
theorem green_areElements_ok {t : List (List Int)} {x y : Int} {K : Bool → Prop} (h1 : (0 ≤ x ∧ x < t.length ∧ 0 ≤ y ∧ y < t.length) → K (VT t)) (h2 : ¬ (0 ≤ x ∧ x < t.length ∧ 0 ≤ y ∧ y < t.length) → K false) : green_areElements t x y K := by
  unfold green_areElements
  split
  · split
    · split
      · intro _
        split
        · exact mult_valid_ok (h1 (by omega))
        · exact h2 (by omega)
      · intro _
        split
        · exact mult_valid_ok (h1 (by omega))
        · exact h2 (by omega)
    · exact h2 (by omega)
  · split
    · split
      · intro _
        split
        · exact mult_valid_ok (h1 (by omega))
        · exact h2 (by omega)
      · intro _
        split
        · exact mult_valid_ok (h1 (by omega))
        · exact h2 (by omega)
    · exact h2 (by omega)
theorem LeqR_ok {t : List (List Int)} {x y : Int} {K : Bool → Prop} (h1 : VT t = true → ∀ a b : Nat, a < t.length → b < t.length → x = (a : Int) → y = (b : Int) → ∀ r : Bool, (r = true ↔ leR t a b) → K r) (h2 : ¬ (VT t = true ∧ 0 ≤ x ∧ x < t.length ∧ 0 ≤ y ∧ y < t.length) → K false) : green_LeqR t x y K := by
  unfold green_LeqR
  refine green_areElements_ok (fun hin => ?_) fun hin => ?_
  · split
    · rename_i hv
      obtain ⟨a, rfl⟩ := Int.eq_ofNat_of_zero_le hin.1
      obtain ⟨b, rfl⟩ := Int.eq_ofNat_of_zero_le hin.2.2.1
      have n4 := (SH.tb (VT.sh hv)).n4
      refine rightIdeals_ok (VT.sh hv) fun r hr => ?_
      have hl := hr.len
      exact ⟨by omega, by omega, has_ok n4 (hr.wd b (by omega)) (by omega) (h1 hv a b (by omega) (by omega) rfl rfl _ (hr.has a b (by omega) (by omega)))⟩
    · rename_i hv; exact h2 fun h => hv h.1
  · rw [if_neg Bool.false_ne_true]; exact h2 fun h => hin h.2
theorem LeqL_ok {t : List (List Int)} {x y : Int} {K : Bool → Prop} (h1 : VT t = true → ∀ a b : Nat, a < t.length → b < t.length → x = (a : Int) → y = (b : Int) → ∀ r : Bool, (r = true ↔ leL t a b) → K r) (h2 : ¬ (VT t = true ∧ 0 ≤ x ∧ x < t.length ∧ 0 ≤ y ∧ y < t.length) → K false) : green_LeqL t x y K := by
  unfold green_LeqL
  refine green_areElements_ok (fun hin => ?_) fun hin => ?_
  · split
    · rename_i hv
      obtain ⟨a, rfl⟩ := Int.eq_ofNat_of_zero_le hin.1
      obtain ⟨b, rfl⟩ := Int.eq_ofNat_of_zero_le hin.2.2.1
      have n4 := (SH.tb (VT.sh hv)).n4
      refine leftIdeals_ok (VT.sh hv) fun r hr => ?_
      have hl := hr.len
      exact ⟨by omega, by omega, has_ok n4 (hr.wd b (by omega)) (by omega) (h1 hv a b (by omega) (by omega) rfl rfl _ (hr.has a b (by omega) (by omega)))⟩
    · rename_i hv; exact h2 fun h => hv h.1
  · rw [if_neg Bool.false_ne_true]; exact h2 fun h => hin h.2
theorem LeqJ_ok {t : List (List Int)} {x y : Int} {K : Bool → Prop} (h1 : VT t = true → ∀ a b : Nat, a < t.length → b < t.length → x = (a : Int) → y = (b : Int) → ∀ r : Bool, (r = true ↔ leJ t a b) → K r) (h2 : ¬ (VT t = true ∧ 0 ≤ x ∧ x < t.length ∧ 0 ≤ y ∧ y < t.length) → K false) : green_LeqJ t x y K := by
  unfold green_LeqJ
  refine green_areElements_ok (fun hin => ?_) fun hin => ?_
  · split
    · rename_i hv
      obtain ⟨a, rfl⟩ := Int.eq_ofNat_of_zero_le hin.1
      obtain ⟨b, rfl⟩ := Int.eq_ofNat_of_zero_le hin.2.2.1
      have n4 := (SH.tb (VT.sh hv)).n4
      refine rightIdeals_ok (VT.sh hv) fun rr hrr => leftIdeals_ok (VT.sh hv) fun rl hrl => twoSided_ok n4 hrr hrl fun r hr => ?_
      have hl := hr.len
      exact ⟨by omega, by omega, has_ok n4 (hr.wd b (by omega)) (by omega) (h1 hv a b (by omega) (by omega) rfl rfl _ (hr.has a b (by omega) (by omega)))⟩
    · rename_i hv; exact h2 fun h => hv h.1
  · rw [if_neg Bool.false_ne_true]; exact h2 fun h => hin h.2
theorem inB2 {n : Nat} {x y : Int} : inB n [x, y] = true ↔ (0 ≤ x ∧ x < (n : Int)) ∧ 0 ≤ y ∧ y < (n : Int) := by
  rw [inB_mem]; simp
theorem inB1 {n : Nat} {x : Int} : inB n [x] = true ↔ 0 ≤ x ∧ x < (n : Int) := by
  rw [inB_mem]; simp
theorem inB3 {n : Nat} {x y z : Int} : inB n [x, y, z] = true ↔ (0 ≤ x ∧ x < (n : Int)) ∧ (0 ≤ y ∧ y < (n : Int)) ∧ 0 ≤ z ∧ z < (n : Int) := by
  rw [inB_mem]; simp
theorem law15_GreenBelow_ok (t : List (List Int)) (x y : Int) (hx : I64 x) (hy : I64 y) : law15_GreenBelow t x y (fun b => b = true) := by
  unfold law15_GreenBelow
  refine law15_large_ok ?_
  split
  · exact law15_awake_ok rfl
  · by_cases hall : VT t = true ∧ 0 ≤ x ∧ x < t.length ∧ 0 ≤ y ∧ y < t.length
    · refine LeqR_ok (fun hv a b ha hb ea eb r7 h7 => ?_) fun h => absurd hall h
      subst ea eb
      have hs := VT.sh hv
      refine LeqL_ok (fun _ a' b' _ _ ea eb r13 h13 => ?_) fun h => absurd hall h
      obtain rfl : a' = a := by omega
      obtain rfl : b' = b := by omega
      refine LeqJ_ok (fun _ a'' b'' _ _ ea eb r19 h19 => ?_) fun h => absurd hall h
      obtain rfl : a'' = a' := by omega
      obtain rfl : b'' = b' := by omega
      refine ref14_Valid_ok ?_
      rw [if_pos hv]
      refine ref14_In_ok ?_
      rw [if_pos (inB2.2 ⟨by omega, by omega⟩)]
      refine ref15_Right_ok hs hb fun bR hR => ⟨by omega, by have := hR.len; omega, ?_⟩
      have e1 := hR.has a'' ha
      by_cases p1 : leR t a'' b''
      · rw [if_pos (e1.2 p1), if_pos (h7.2 p1)]
        have p3 := leR_J hb p1
        refine ref15_Left_ok hs hb fun bL hL => ⟨by omega, by have := hL.len; omega, ?_⟩
        have e2 := hL.has a'' ha
        by_cases p2 : leL t a'' b''
        · rw [if_pos (e2.2 p2), if_pos (h13.2 p2)]
          refine ref15_Both_ok hs hb fun bJ hJ => ⟨by omega, by have := hJ.len; omega, ?_⟩
          have e3 := hJ.has a'' ha
          rw [if_pos (e3.2 p3), if_pos (h19.2 p3)]
          exact law15_awake_ok rfl
        · rw [if_neg fun h => p2 (e2.1 h), if_neg fun h => p2 (h13.1 h)]
          refine ref15_Both_ok hs hb fun bJ hJ => ⟨by omega, by have := hJ.len; omega, ?_⟩
          have e3 := hJ.has a'' ha
          rw [if_pos (e3.2 p3), if_pos (h19.2 p3)]
          exact law15_awake_ok rfl
      · rw [if_neg fun h => p1 (e1.1 h), if_neg fun h => p1 (h7.1 h)]
        refine ref15_Left_ok hs hb fun bL hL => ⟨by omega, by have := hL.len; omega, ?_⟩
        have e2 := hL.has a'' ha
        by_cases p2 : leL t a'' b''
        · have p3 := leL_J ha p2
          rw [if_pos (e2.2 p2), if_pos (h13.2 p2)]
          refine ref15_Both_ok hs hb fun bJ hJ => ⟨by omega, by have := hJ.len; omega, ?_⟩
          have e3 := hJ.has a'' ha
          rw [if_pos (e3.2 p3), if_pos (h19.2 p3)]
          exact law15_awake_ok rfl
        · rw [if_neg fun h => p2 (e2.1 h), if_neg fun h => p2 (h13.1 h)]
          refine ref15_Both_ok hs hb fun bJ hJ => ⟨by omega, by have := hJ.len; omega, ?_⟩
          have e3 := hJ.has a'' ha
          by_cases p3 : leJ t a'' b''
          · rw [if_pos (e3.2 p3), if_pos (h19.2 p3)]
            exact law15_awake_ok rfl
          · rw [if_neg fun h => p3 (e3.1 h), if_neg fun h => p3 (h19.1 h)]
            exact law15_awake_ok rfl
    · refine LeqR_ok (fun hv a b ha hb ea eb => absurd ⟨hv, by omega, by omega, by omega, by omega⟩ hall) fun _ => ?_
      refine LeqL_ok (fun hv a b ha hb ea eb => absurd ⟨hv, by omega, by omega, by omega, by omega⟩ hall) fun _ => ?_
      refine LeqJ_ok (fun hv a b ha hb ea eb => absurd ⟨hv, by omega, by omega, by omega, by omega⟩ hall) fun _ => ?_
      refine ref14_Valid_ok ?_
      split
      · rename_i hv
        refine ref14_In_ok ?_
        rw [if_neg fun h => hall ⟨hv, by have := inB2.1 h; omega⟩]
        rw [if_neg Bool.false_ne_true, if_neg Bool.false_ne_true, if_neg Bool.false_ne_true]
        exact law15_awake_ok rfl
      · rw [if_neg Bool.false_ne_true, if_neg Bool.false_ne_true, if_neg Bool.false_ne_true]
        exact law15_awake_ok rfl

/-! ### Regular classes, inverses -/
def regP (t : List (List Int)) (J : List Int) (k i : Nat) : Prop := ∃ x : Nat, x < k ∧ ix J (x : Int) = (i : Int) ∧ mu t (x : Int) (x : Int) = (x : Int)
theorem green_Regular_ok {t : List (List Int)} {K : List Bool → Prop} (h1 : VT t = true → ∀ g r, GrOf t g → r.length = g.Below.length → (∀ i : Nat, i < g.Below.length → (ix r (i : Int) = true ↔ regP t g.J t.length i)) → K r) (h2 : ¬ VT t = true → K []) : green_Regular t K := by
  unfold green_Regular
  refine green_Classes_ok (fun hv g hg => ?_) fun hv => ?_
  · have T := SH.tb (VT.sh hv)
    have n4 := T.n4
    have hc4 := hg.small
    have hJl := hg.J.len
    refine fun _ => ⟨by omega, by omega, fun _ => ?_⟩
    refine LoopWP.fold g.J.length (fun k (r : List Bool) => r.length = g.Below.length ∧ ∀ i : Nat, i < g.Below.length → (ix r (i : Int) = true ↔ regP t g.J k i)) ⟨by simp, fun i hi => ?_⟩ ?_
    · rw [ix_replicate _ _ (by omega)]
      exact ⟨(fun h => by cases h), fun ⟨x, hx, _⟩ => absurd hx (Nat.not_lt_zero _)⟩
    rintro k r X hk ⟨hr, hI⟩ hX
    show green_Regular_L1 t g K _ k r
    unfold green_Regular_L1
    split
    · have hkn : k < t.length := by omega
      have hrow := T.row (k : Int) (by omega) (by omega)
      obtain ⟨v, hv1, ev⟩ := hg.num hkn
      have same : ¬ mu t (k : Int) (k : Int) = (k : Int) → ∀ i : Nat, i < g.Below.length → (ix r (i : Int) = true ↔ regP t g.J (k + 1) i) := fun hn i hi => by
        rw [hI i hi]
        constructor
        · rintro ⟨x, hx, h⟩; exact ⟨x, by omega, h⟩
        · rintro ⟨x, hx, e, h⟩
          by_cases hxk : x = k
          · subst hxk; exact absurd h hn
          · exact ⟨x, by omega, e, h⟩
      refine ⟨by omega, by omega, by omega, by omega, by omega, by omega, ?_⟩
      split
      · rename_i hid
        rw [ev]
        refine ⟨by omega, by omega, hX _ (by omega) ⟨by rw [st_length]; exact hr, fun i hi => ?_⟩⟩
        rw [ix_st _ (by omega) (by omega) (by omega)]
        by_cases hiv : i = v
        · subst hiv; rw [if_pos rfl]
          exact ⟨fun _ => ⟨k, by omega, ev, hid⟩, fun _ => rfl⟩
        · rw [if_neg (by omega), hI i hi]
          constructor
          · rintro ⟨x, hx, h⟩; exact ⟨x, by omega, h⟩
          · rintro ⟨x, hx, e, h⟩
            by_cases hxk : x = k
            · subst hxk; rw [ev] at e; omega
            · exact ⟨x, by omega, e, h⟩
      · rename_i hid
        exact hX _ (by omega) ⟨hr, same hid⟩
    · obtain rfl : k = g.J.length := by omega
      rw [hJl] at hI
      exact h1 hv g r hg hr hI
  · refine fun _ => ⟨by decide, by decide, fun _ => ?_⟩
    refine LoopWP.fold 0 (fun k (d : List Bool) => d = []) rfl ?_
    rintro k d X hk rfl hX
    obtain rfl : k = 0 := by omega
    show green_Regular_L1 t _ K _ 0 []
    unfold green_Regular_L1
    rw [if_neg (by decide)]
    exact h2 hv
theorem ref15_Regular_ok {t : List (List Int)} (hv : VT t = true) {K : List Bool → Prop} (h1 : ∀ g r, GrOf t g → r.length = g.Below.length → (∀ i : Nat, i < g.Below.length → (ix r (i : Int) = true ↔ regP t g.J t.length i)) → K r) : ref15_Regular t K := by
  have T := SH.tb (VT.sh hv)
  have n4 := T.n4
  unfold ref15_Regular
  refine ref15_Classes_ok hv fun g hg => ?_
  have hc4 := hg.small
  have hJl := hg.J.len
  refine ref03_Classes_ok hg.J.can (by omega) fun c hc => ?_
  have hcc := hc.uniq hg.cnt
  obtain rfl : c = g.Below.length := by omega
  rw [clsF_len]
  refine fun _ => LoopWP.fold g.Below.length (fun k (r : List Bool) => r.length = k ∧ ∀ i : Nat, i < k → (ix r (i : Int) = true ↔ regP t g.J t.length i)) ⟨rfl, fun i hi => by omega⟩ ?_
  rintro k r X hk ⟨hr, hI⟩ hX
  show ref15_Regular_L1 t (clsF g.J g.Below.length) K _ k r
  unfold ref15_Regular_L1
  rw [clsF_len]
  split
  · have hkc : k < g.Below.length := by omega
    refine ⟨by omega, by omega, fun _ => ?_⟩
    have hcl := ix_clsF (p := g.J) hkc
    have hmem : ∀ m : Nat, m < (ix (clsF g.J g.Below.length) (k : Int)).length → ∃ x : Nat, x < t.length ∧ ix (ix (clsF g.J g.Below.length) (k : Int)) (m : Int) = (x : Int) ∧ ix g.J (x : Int) = (k : Int) := by
      intro m hm
      have h := ix_mem (xs := ix (clsF g.J g.Below.length) (k : Int)) (i := (m : Int)) (by omega) (by omega)
      rw [hcl, List.mem_filter, mem_iota, decide_eq_true_eq] at h
      rw [← hcl] at h
      obtain ⟨x, hx⟩ := Int.eq_ofNat_of_zero_le h.1.1
      exact ⟨x, by omega, hx, by rw [← hx]; exact h.2⟩
    have hall : ∀ x : Nat, x < t.length → ix g.J (x : Int) = (k : Int) → ∃ m : Nat, m < (ix (clsF g.J g.Below.length) (k : Int)).length ∧ ix (ix (clsF g.J g.Below.length) (k : Int)) (m : Int) = (x : Int) := by
      intro x hx he
      refine mem_ix.1 ?_
      rw [hcl, List.mem_filter, mem_iota, decide_eq_true_eq]
      exact ⟨⟨by omega, by omega⟩, he⟩
    refine LoopWP.foldR (ix (clsF g.J g.Below.length) (k : Int)).length (fun m (ok : Bool) => (ok = true ↔ ∃ l : Nat, l < m ∧ mu t (ix (ix (clsF g.J g.Below.length) (k : Int)) (l : Int)) (ix (ix (clsF g.J g.Below.length) (k : Int)) (l : Int)) = ix (ix (clsF g.J g.Below.length) (k : Int)) (l : Int))) 0 (by omega) ⟨(fun h => by cases h), fun ⟨l, hl, _⟩ => absurd hl (Nat.not_lt_zero _)⟩ ?_
    rintro m ok X2 hm hok hX2
    show ref15_Regular_L2 t (clsF g.J g.Below.length) k r _ K _ ok m
    unfold ref15_Regular_L2
    split
    · have hml : m < (ix (clsF g.J g.Below.length) (k : Int)).length := by omega
      obtain ⟨x, hx, ex, _⟩ := hmem m hml
      have hrow := T.row (x : Int) (by omega) (by omega)
      refine ⟨by omega, by omega, ?_⟩
      split
      · rename_i hb
        refine hX2 _ hml ⟨fun _ => ?_, fun _ => rfl⟩
        obtain ⟨l, hl, h⟩ := hok.1 hb
        exact ⟨l, by omega, h⟩
      · rename_i hb
        rw [ex]
        refine ⟨by omega, by omega, by omega, by omega, ?_⟩
        split
        · rename_i hid
          exact hX2 _ hml ⟨fun _ => ⟨m, by omega, by rw [ex]; exact hid⟩, fun _ => rfl⟩
        · rename_i hid
          refine hX2 _ hml ⟨(fun h => by cases h), ?_⟩
          rintro ⟨l, hl, h⟩
          by_cases hlm : l = m
          · subst hlm; rw [ex] at h; exact absurd h hid
          · exact absurd (hok.2 ⟨l, by omega, h⟩) hb
    · obtain rfl : m = (ix (clsF g.J g.Below.length) (k : Int)).length := by omega
      refine ⟨by simp; omega, hX _ hkc ⟨by simp [hr], fun i hi => ?_⟩⟩
      by_cases hik : i = k
      · subst hik
        have e : ix (r ++ [ok]) (i : Int) = ok := by rw [ix_eq (by simp [hr])]; simp [hr]
        rw [e, hok]
        constructor
        · rintro ⟨l, hl, h⟩
          obtain ⟨x, hx, ex, ej⟩ := hmem l hl
          rw [ex] at h
          exact ⟨x, hx, ej, h⟩
        · rintro ⟨x, hx, ej, h⟩
          obtain ⟨l, hl, el⟩ := hall x hx ej
          exact ⟨l, hl, by rw [el]; exact h⟩
      · rw [ix_app (by omega)]; exact hI i (by omega)
  · obtain rfl : k = g.Below.length := by omega
    exact h1 g r hg hr hI
def invB (t : List (List Int)) (x y : Int) : Bool := decide (mu t (mu t x y) x = x) && decide (mu t (mu t y x) y = y)
def invL (t : List (List Int)) (x : Int) : List Int := (iota t.length).filter (invB t x)
theorem ref15_Inverses_ok {t : List (List Int)} (hs : SH t = true) {x : Nat} (hx : x < t.length) {K : List Int → Prop} (h : K (invL t (x : Int))) : ref15_Inverses t (x : Int) K := by
  have T := SH.tb hs
  have n4 := T.n4
  unfold ref15_Inverses
  refine fun _ => LoopWP.fold t.length (fun k (l : List Int) => l = (iota k).filter (invB t (x : Int))) rfl ?_
  rintro k l X hk rfl hX
  show ref15_Inverses_L1 t (x : Int) K _ k _
  unfold ref15_Inverses_L1
  split
  · have hkn : k < t.length := by omega
    have hrx := T.row (x : Int) (by omega) (by omega)
    have hrk := T.row (k : Int) (by omega) (by omega)
    obtain ⟨a, ha, ea⟩ := mu_cl T hx hkn
    obtain ⟨b, hb, eb⟩ := mu_cl T hkn hx
    have hra := T.row (a : Int) (by omega) (by omega)
    have hrb := T.row (b : Int) (by omega) (by omega)
    have ea' : ix (ix t (x : Int)) (k : Int) = (a : Int) := ea
    have eb' : ix (ix t (k : Int)) (x : Int) = (b : Int) := eb
    have hlen := List.length_filter_le (invB t (x : Int)) (iota k)
    rw [iota_length] at hlen
    rw [ea', eb']
    have no : invB t (x : Int) (k : Int) = false → X (k + 1, (iota k).filter (invB t (x : Int))) := fun hb => hX _ hkn (by rw [iota_succ, List.filter_append]; simp [hb])
    refine ⟨by omega, by omega, by omega, by omega, by omega, by omega, by omega, by omega, ?_⟩
    split
    · rename_i h1
      refine ⟨by omega, by omega, by omega, by omega, by omega, by omega, by omega, by omega, ?_⟩
      split
      · rename_i h2
        refine ⟨by simp; omega, hX _ hkn ?_⟩
        have : invB t (x : Int) (k : Int) = true := by
          simp only [invB, Bool.and_eq_true, decide_eq_true_eq, ea, eb]
          exact ⟨h1, h2⟩
        rw [iota_succ, List.filter_append]; simp [this]
      · rename_i h2
        refine no ?_
        simp only [invB, ea, eb]
        rw [decide_eq_false (show ¬ mu t (b : Int) (k : Int) = (k : Int) from h2), Bool.and_false]
    · rename_i h1
      refine no ?_
      simp only [invB, ea, eb]
      rw [decide_eq_false (show ¬ mu t (a : Int) (x : Int) = (x : Int) from h1), Bool.false_and]
  · obtain rfl : k = t.length := by omega
    exact h
theorem green_Inverses_ok {t : List (List Int)} {x : Int} {K : List Int → Prop} (h1 : VT t = true → ∀ a : Nat, a < t.length → x = (a : Int) → K (invL t (a : Int))) (h2 : ¬ (VT t = true ∧ 0 ≤ x ∧ x < t.length) → K []) : green_Inverses t x K := by
  unfold green_Inverses
  refine green_areElements_ok (fun hin => ?_) fun hin => ?_
  · split
    · rename_i hv
      obtain ⟨a, rfl⟩ := Int.eq_ofNat_of_zero_le hin.1
      exact ref15_Inverses_ok (VT.sh hv) (by omega) (h1 hv a (by omega) rfl)
    · rename_i hv; exact h2 fun h => hv h.1
  · rw [if_neg Bool.false_ne_true]; exact h2 fun h => hin ⟨h.2.1, h.2.2, h.2.1, h.2.2⟩
theorem law15_GreenRegular_ok (t : List (List Int)) (x : Int) (hx : I64 x) : law15_GreenRegular t x (fun b => b = true) := by
  unfold law15_GreenRegular
  refine law15_large_ok ?_
  split
  · exact law15_awake_ok rfl
  · refine green_Regular_ok (fun hv g r hg hr hI => ?_) fun hv => ?_
    · have n4 := (SH.tb (VT.sh hv)).n4
      have hc4 := hg.small
      have main : ∀ l : List Int, (∀ a : Nat, a < t.length → x = (a : Int) → l = invL t (a : Int)) → (¬ (0 ≤ x ∧ x < t.length) → l = []) → (ref14_Valid t fun r19 => (if r19 = true then (ref15_Regular t fun r33 => (r.length ≤ mx → (r33.length ≤ mx → (if (r.length : Int) = (r33.length : Int) then (LoopWP (S := Nat) (fun s X => law15_GreenRegular_L1 t x r l r33 (fun b => b = true) X s) 0) else (false = true))))) else (r.length ≤ mx → (if (r.length : Int) = (0 : Int) then (l.length ≤ mx → (if (l.length : Int) = (0 : Int) then (law15_awake  fun r27 => (r27 = true)) else (false = true))) else (false = true))))) := by
        intro l hl1 hl2
        refine ref14_Valid_ok ?_
        rw [if_pos hv]
        refine ref15_Regular_ok hv fun g' r' hg' hr' hI' => ?_
        obtain rfl := hg.uniq hg'
        have hrr : r' = r := list_ix (by omega) fun j hj => by
          rw [Bool.eq_iff_iff, hI' j (by omega), hI j (by omega)]
        subst hrr
        refine fun _ _ => ?_
        rw [if_pos rfl]
        refine LoopWP.scan r'.length (fun _ => True) ?_
        rintro k X hk _ hX
        show law15_GreenRegular_L1 t x r' l r' _ X k
        unfold law15_GreenRegular_L1
        split
        · refine ⟨by omega, by omega, ?_⟩
          split
          · exact ⟨by omega, by omega, hX (by omega) trivial⟩
          · exact ⟨by omega, by omega, hX (by omega) trivial⟩
        · refine ref14_In_ok ?_
          by_cases hin : 0 ≤ x ∧ x < t.length
          · rw [if_pos (inB1.2 hin)]
            obtain ⟨a, rfl⟩ := Int.eq_ofNat_of_zero_le hin.1
            rw [hl1 a (by omega) rfl]
            refine ref15_Inverses_ok (VT.sh hv) (by omega) (ref03_Same_ok ?_)
            rw [decide_eq_true rfl, if_pos rfl]
            exact law15_awake_ok rfl
          · rw [if_neg fun h => hin (inB1.1 h), hl2 hin]
            refine fun _ => ?_
            rw [if_pos (show (([] : List Int).length : Int) = 0 from rfl)]
            exact law15_awake_ok rfl
      refine green_Inverses_ok (fun _ a ha ea => main _ (fun a' ha' ea' => ?_) fun hn => ?_) fun hn => main _ (fun a' ha' ea' => ?_) fun _ => rfl
      · obtain rfl : a' = a := by omega
        rfl
      · exact absurd ⟨by omega, by omega⟩ hn
      · exact absurd ⟨hv, by omega, by omega⟩ hn
    · refine green_Inverses_ok (fun h => absurd h hv) fun _ => ?_
      refine ref14_Valid_ok ?_
      rw [if_neg hv]
      refine fun _ => ?_
      rw [if_pos (show (([] : List Bool).length : Int) = 0 from rfl)]
      refine fun _ => ?_
      rw [if_pos (show (([] : List Int).length : Int) = 0 from rfl)]
      exact law15_awake_ok rfl
end Sg
