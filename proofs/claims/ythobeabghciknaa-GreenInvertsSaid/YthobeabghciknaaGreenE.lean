/- Depths of the J-classes; the sanity check. Plain laws. -/
import Derived.Test.YthobeabghciknaaGreenD
namespace Sg
open Go
set_option linter.unusedVariables false
set_option linter.unusedSimpArgs false
theorem nodup_subG {α : Type} [DecidableEq α] : ∀ {l l' : List α}, l.Nodup → (∀ x ∈ l, x ∈ l') → l.length ≤ l'.length
  | [], _, _, _ => Nat.zero_le _
  | a :: l, l', hn, hs => by
    obtain ⟨h1, h2⟩ := List.nodup_cons.1 hn
    have ha := hs a List.mem_cons_self
    have := nodup_subG (l := l) (l' := l'.erase a) h2 fun x hx => (List.mem_erase_of_ne (fun hh : x = a => h1 (by rw [← hh]; exact hx))).2 (hs x (List.mem_cons_of_mem _ hx))
    rw [List.length_erase_of_mem ha] at this
    have := List.length_pos_of_mem ha
    simp only [List.length_cons]; omega
theorem sup_ex (f : Nat → Nat) (P : Nat → Prop) : ∀ c : Nat, ∃ s : Nat, (∀ j : Nat, j < c → P j → f j + 1 ≤ s) ∧ (s = 0 ∨ ∃ j : Nat, j < c ∧ P j ∧ f j + 1 = s)
  | 0 => ⟨0, fun j hj => by omega, .inl rfl⟩
  | c + 1 => by
    obtain ⟨s, h1, h2⟩ := sup_ex f P c
    by_cases hp : P c ∧ s ≤ f c + 1
    · refine ⟨f c + 1, fun j hj hpj => ?_, .inr ⟨c, by omega, hp.1, rfl⟩⟩
      by_cases hjc : j = c
      · subst hjc; exact Nat.le_refl _
      · have := h1 j (by omega) hpj; omega
    · refine ⟨s, fun j hj hpj => ?_, h2.imp id fun ⟨j, hj, hh⟩ => ⟨j, by omega, hh⟩⟩
      by_cases hjc : j = c
      · subst hjc
        have : ¬ s ≤ f j + 1 := fun hh => hp ⟨hpj, hh⟩
        omega
      · exact h1 j (by omega) hpj
/-- D is the depth in an order of c classes. -/
structure Dep (c : Nat) (B : Nat → Nat → Prop) (D : Nat → Nat) : Prop where
  up : ∀ i j : Nat, i < c → j < c → j ≠ i → B i j → D j + 1 ≤ D i
  at_ : ∀ i : Nat, i < c → D i = 0 ∨ ∃ j : Nat, j < c ∧ j ≠ i ∧ B i j ∧ D j + 1 = D i
  le : ∀ i : Nat, i < c → D i ≤ c
theorem dep_ex (c : Nat) (B : Nat → Nat → Prop) (anti : ∀ i j : Nat, i < c → j < c → B i j → B j i → i = j) (tr : ∀ i j k : Nat, i < c → j < c → k < c → B i j → B j k → B i k) : ∃ D, Dep c B D := by
  classical
  let ups : Nat → List Nat := fun i => (List.range c).filter fun j => decide (j ≠ i ∧ B i j)
  have hmem : ∀ i j : Nat, j ∈ ups i ↔ j < c ∧ j ≠ i ∧ B i j := fun i j => by simp [ups]
  have hlt : ∀ i j : Nat, i < c → j < c → j ≠ i → B i j → (ups j).length < (ups i).length := by
    intro i j hi hj hne hb
    have hsub : ∀ x ∈ j :: ups j, x ∈ ups i := by
      intro x hx
      rcases List.mem_cons.1 hx with rfl | hx
      · exact (hmem i x).2 ⟨hj, hne, hb⟩
      · have h := (hmem j x).1 hx
        refine (hmem i x).2 ⟨h.1, fun hxi => ?_, tr i j x hi hj h.1 hb h.2.2⟩
        subst hxi
        exact hne (anti j x hj hi h.2.2 hb)
    have hnd : (j :: ups j).Nodup := List.nodup_cons.2 ⟨fun h => ((hmem j j).1 h).2.1 rfl, (List.nodup_range).filter _⟩
    have := nodup_subG hnd hsub
    simp only [List.length_cons] at this
    omega
  have key : ∀ m : Nat, ∃ D : Nat → Nat, (∀ i : Nat, i < c → (ups i).length < m → (∀ j : Nat, j < c → j ≠ i → B i j → D j + 1 ≤ D i) ∧ (D i = 0 ∨ ∃ j : Nat, j < c ∧ j ≠ i ∧ B i j ∧ D j + 1 = D i) ∧ D i ≤ (ups i).length) := by
    intro m
    induction m with
    | zero => exact ⟨fun _ => 0, fun i hi h => by omega⟩
    | succ m ih =>
      obtain ⟨D, hD⟩ := ih
      refine ⟨fun i => if (ups i).length < m then D i else Classical.choose (sup_ex D (fun j => j ≠ i ∧ B i j) c), fun i hi hl => ?_⟩
      have eD : ∀ j : Nat, j < c → j ≠ i → B i j → (if (ups j).length < m then D j else Classical.choose (sup_ex D (fun k => k ≠ j ∧ B j k) c)) = D j := fun j hj hne hb => by
        have := hlt i j hi hj hne hb
        rw [if_pos (by omega)]
      by_cases him : (ups i).length < m
      · obtain ⟨a1, a2, a3⟩ := hD i hi him
        simp only [if_pos him]
        refine ⟨fun j hj hne hb => by rw [eD j hj hne hb]; exact a1 j hj hne hb, a2.imp id fun ⟨j, hj, hne, hb, e⟩ => ⟨j, hj, hne, hb, by rw [eD j hj hne hb]; exact e⟩, a3⟩
      · obtain ⟨a1, a2⟩ := Classical.choose_spec (sup_ex D (fun j => j ≠ i ∧ B i j) c)
        simp only [if_neg him]
        refine ⟨fun j hj hne hb => by rw [eD j hj hne hb]; exact a1 j hj ⟨hne, hb⟩, a2.imp id fun ⟨j, hj, hp, e⟩ => ⟨j, hj, hp.1, hp.2, by rw [eD j hj hp.1 hp.2]; exact e⟩, ?_⟩
        rcases a2 with h0 | ⟨j, hj, hp, e⟩
        · rw [h0]; exact Nat.zero_le _
        · have h1 := hlt i j hi hj hp.1 hp.2
          have h2 := (hD j hj (by omega)).2.2
          omega
  have hle : ∀ i : Nat, (ups i).length ≤ c := fun i => by
    have := List.length_filter_le (fun j => decide (j ≠ i ∧ B i j)) (List.range c)
    rwa [List.length_range] at this
  obtain ⟨D, hD⟩ := key (c + 1)
  exact ⟨D, fun i j hi hj => (hD i hi (by have := hle i; omega)).1 j hj, fun i hi => (hD i hi (by have := hle i; omega)).2.1, fun i hi => Nat.le_trans (hD i hi (by have := hle i; omega)).2.2 (hle i)⟩
/-- The order of the J-classes. -/
def belG (g : Green) (i j : Nat) : Prop := ix (ix g.Below (i : Int)) (j : Int) = true
theorem GrOf.anti {t : List (List Int)} {g : Green} (h : GrOf t g) (i j : Nat) (hi : i < g.Below.length) (hj : j < g.Below.length) (a : belG g i j) (b : belG g j i) : i = j := by
  obtain ⟨x, hx, ex⟩ := h.cls hi
  obtain ⟨y, hy, ey⟩ := h.cls hj
  have b1 := h.bel x y hx hy
  have b2 := h.bel y x hy hx
  rw [ex, ey] at b1 b2
  have := (h.J.ker x y hx hy).2 ⟨b1.1 a, b2.1 b⟩
  omega
theorem GrOf.tr {t : List (List Int)} (hv : VT t = true) {g : Green} (h : GrOf t g) (i j k : Nat) (hi : i < g.Below.length) (hj : j < g.Below.length) (hk : k < g.Below.length) (a : belG g i j) (b : belG g j k) : belG g i k := by
  obtain ⟨x, hx, ex⟩ := h.cls hi
  obtain ⟨y, hy, ey⟩ := h.cls hj
  obtain ⟨z, hz, ez⟩ := h.cls hk
  have b1 := h.bel x y hx hy
  have b2 := h.bel y z hy hz
  have b3 := h.bel x z hx hz
  rw [ex, ey] at b1
  rw [ey, ez] at b2
  rw [ex, ez] at b3
  exact b3.2 (leJ_trans hv hy hz (b1.1 a) (b2.1 b))
def dL (c : Nat) (D : Nat → Nat) : List Int := (List.range c).map fun i => (D i : Int)
theorem dL_len {c : Nat} {D : Nat → Nat} : (dL c D).length = c := by simp [dL]
theorem ix_dL {c : Nat} {D : Nat → Nat} {i : Nat} (h : i < c) : ix (dL c D) (i : Int) = (D i : Int) := by
  rw [ix_lt (by rw [dL_len]; exact h)]; simp [dL]
theorem eq_dL {c : Nat} {D : Nat → Nat} {d : List Int} (hl : d.length = c) (h : ∀ i : Nat, i < c → ix d (i : Int) = (D i : Int)) : d = dL c D :=
  list_ix (by rw [dL_len, hl]) fun j hj => by rw [ix_dL (by omega)]; exact h j (by omega)
theorem GrOf.small {t : List (List Int)} {g : Green} (h : GrOf t g) : g.Below.length ≤ t.length := by
  have := cnt_le h.J.can h.cnt
  have := h.J.len
  omega
/-- The function that calls itself. -/
theorem heights_rec {g : Green} {c : Nat} {D : Nat → Nat} (hc : g.Below.length = c) (c4 : c ≤ 400) (hrow : ∀ i : Nat, i < c → (ix g.Below (i : Int)).length = c) (hD : Dep c (belG g) D)
    (anti : ∀ i j : Nat, i < c → j < c → belG g i j → belG g j i → i = j) (tr : ∀ i j k : Nat, i < c → j < c → k < c → belG g i j → belG g j k → belG g i k) {K0 : List Int → Prop}
    {a : Nat} (ha : a < c) {d : List Int} (hd : d.length = c) (hI : ∀ k : Nat, k < c → (k = a ∨ belG g a k) → ix d (k : Int) = -1 ∨ ix d (k : Int) = (D k : Int)) {K : Int × List Int → Prop}
    (h : ∀ d' : List Int, d'.length = c → ix d' (a : Int) = (D a : Int) → (∀ k : Nat, k < c → ¬ (k = a ∨ belG g a k) → ix d' (k : Int) = ix d (k : Int)) → (∀ k : Nat, k < c → (k = a ∨ belG g a k) → ix d' (k : Int) = -1 ∨ ix d' (k : Int) = (D k : Int)) → (∀ k : Nat, k < c → ix d (k : Int) = (D k : Int) → ix d' (k : Int) = (D k : Int)) → K ((D a : Int), d')) :
    RecWP (S := Int × List Int) (T := Int × List Int) (fun X s KR3 => green_Heights_R3 g K0 (fun i3_64 d3_65 k => X (i3_64, d3_65) (fun t => k t.1 t.2)) s.1 s.2 (fun r3_0 d3_65 => KR3 (r3_0, d3_65))) ((a : Int), d) K := by
  refine RecWP.intro (fun s => ∃ a : Nat, s.1 = (a : Int) ∧ a < c ∧ s.2.length = c ∧ ∀ k : Nat, k < c → (k = a ∨ belG g a k) → ix s.2 (k : Int) = -1 ∨ ix s.2 (k : Int) = (D k : Int))
    (fun s t => ∀ a : Nat, s.1 = (a : Int) → t.1 = (D a : Int) ∧ t.2.length = c ∧ ix t.2 (a : Int) = (D a : Int) ∧ (∀ k : Nat, k < c → ¬ (k = a ∨ belG g a k) → ix t.2 (k : Int) = ix s.2 (k : Int)) ∧ (∀ k : Nat, k < c → (k = a ∨ belG g a k) → ix t.2 (k : Int) = -1 ∨ ix t.2 (k : Int) = (D k : Int)) ∧ (∀ k : Nat, k < c → ix s.2 (k : Int) = (D k : Int) → ix t.2 (k : Int) = (D k : Int)))
    (fun s => D s.1.toNat) ⟨a, rfl, ha, hd, hI⟩ ?_ ?_
  · rintro ⟨r, d'⟩ hq
    obtain ⟨q1, q2, q3, q4, q5, q6⟩ := hq a rfl
    simp only at q1 q2 q3 q4 q5 q6
    rw [q1]
    exact h d' q2 q3 q4 q5 q6
  rintro X ⟨i, d⟩ K ⟨a, hia, ha, hd, hI⟩ hX hK
  simp only at hia hd hI hX
  subst hia
  show green_Heights_R3 g K0 _ (a : Int) d _
  unfold green_Heights_R3
  have hDa := hD.le a ha
  refine ⟨by omega, by omega, ?_⟩
  split
  · rename_i hneg
    have hda : ix d (a : Int) = -1 := by rcases hI a ha (.inl rfl) with h | h <;> omega
    refine ⟨by omega, by omega, by omega, by omega, fun _ => ?_⟩
    refine LoopWP.fold c (fun m (q : List Int) => q.length = c ∧ 0 ≤ ix q (a : Int) ∧ (∀ j : Nat, j < m → j ≠ a → belG g a j → (D j : Int) + 1 ≤ ix q (a : Int)) ∧ (ix q (a : Int) = 0 ∨ ∃ j : Nat, j < c ∧ j ≠ a ∧ belG g a j ∧ ix q (a : Int) = (D j : Int) + 1) ∧
      (∀ k : Nat, k < c → k ≠ a → belG g a k → ix q (k : Int) = -1 ∨ ix q (k : Int) = (D k : Int)) ∧ (∀ k : Nat, k < c → k ≠ a → ¬ belG g a k → ix q (k : Int) = ix d (k : Int)) ∧ (∀ k : Nat, k < c → k ≠ a → ix d (k : Int) = (D k : Int) → ix q (k : Int) = (D k : Int))) ?_ ?_
    · have e : ∀ k : Nat, k < c → k ≠ a → ix (st d (a : Int) 0) (k : Int) = ix d (k : Int) := fun k hk hne => by rw [ix_st _ (by omega) (by omega) (by omega), if_neg (by omega)]
      have e0 : ix (st d (a : Int) 0) (a : Int) = 0 := ix_st_same (by omega)
      exact ⟨by rw [st_length]; exact hd, by rw [e0]; exact Int.le_refl _, fun j hj => by omega, .inl e0, fun k hk hne hb => by rw [e k hk hne]; exact hI k hk (.inr hb), fun k hk hne hb => e k hk hne, fun k hk hne hh => by rw [e k hk hne]; exact hh⟩
    rintro m q X2 hm ⟨q0, q1, q2, q3, q4, q5, q6⟩ hX2
    show green_Heights_L4 g a _ _ K0 _ m q
    unfold green_Heights_L4
    have hr := hrow a ha
    split
    · have hmc : m < c := by omega
      refine ⟨by omega, by omega, ?_⟩
      split
      · rename_i hb
        split
        · rename_i hma
          have hma' : m = a := by omega
          refine hX2 _ hmc ⟨q0, q1, fun j hj hne hbj => ?_, q3, q4, q5, q6⟩
          exact q2 j (by omega) hne hbj
        · rename_i hma
          have hma' : m ≠ a := by omega
          have hup := hD.up a m ha hmc hma' hb
          refine ⟨by omega, by omega, ?_⟩
          refine hX ((m : Int), q) _ ⟨m, rfl, hmc, q0, fun k hk hkk => ?_⟩ (by simp only [Int.toNat_natCast]; omega) ?_
          · by_cases hka : k = a
            · subst hka
              rcases hkk with rfl | hkb
              · exact absurd rfl hma'
              · exact absurd (anti k m ha hmc hb hkb) (Ne.symm hma')
            · rcases hkk with rfl | hkb
              · exact q4 k hk hka hb
              · exact q4 k hk hka (tr a m k ha hmc hk hb hkb)
          · rintro ⟨r, d'⟩ hq
            obtain ⟨r1, r2, r3, r4, r5, r6⟩ := hq m rfl
            simp only at r1 r2 r3 r4 r5 r6
            have haq : ix d' (a : Int) = ix q (a : Int) := r4 a ha fun hh => by
              rcases hh with h | h
              · exact hma' h.symm
              · exact hma' (anti a m ha hmc hb h).symm
            have hDm := hD.le m hmc
            have fin : ∀ v : Int, 0 ≤ v → (∀ j : Nat, j < m + 1 → j ≠ a → belG g a j → (D j : Int) + 1 ≤ v) → (v = 0 ∨ ∃ j : Nat, j < c ∧ j ≠ a ∧ belG g a j ∧ v = (D j : Int) + 1) → X2 (m + 1, st d' (a : Int) v) := by
              intro v v0 v1 v2
              have e : ∀ k : Nat, k < c → k ≠ a → ix (st d' (a : Int) v) (k : Int) = ix d' (k : Int) := fun k hk hne => by rw [ix_st _ (by omega) (by omega) (by omega), if_neg (by omega)]
              have e0 : ix (st d' (a : Int) v) (a : Int) = v := ix_st_same (by omega)
              refine hX2 _ hmc ⟨by rw [st_length]; exact r2, by rw [e0]; exact v0, fun j hj hne hbj => by rw [e0]; exact v1 j hj hne hbj, by rw [e0]; exact v2, fun k hk hne hbk => ?_, fun k hk hne hbk => ?_, fun k hk hne hh => ?_⟩
              · rw [e k hk hne]
                by_cases hkm : k = m ∨ belG g m k
                · exact r5 k hk hkm
                · rw [r4 k hk hkm]; exact q4 k hk hne hbk
              · rw [e k hk hne, r4 k hk fun hh => ?_]
                · exact q5 k hk hne hbk
                · rcases hh with rfl | hh
                  · exact hbk hb
                  · exact hbk (tr a m k ha hmc hk hb hh)
              · rw [e k hk hne]; exact r6 k hk (q6 k hk hne hh)
            subst r1
            show _ ∧ _
            dsimp only
            refine ⟨haq, by omega, ⟨by omega, by omega⟩, ?_⟩
            split
            · refine ⟨by omega, by omega, fin _ (by omega) (fun j hj hne hbj => ?_) (.inr ⟨m, hmc, hma', hb, by omega⟩)⟩
              by_cases hjm : j = m
              · subst hjm; omega
              · have := q2 j (by omega) hne hbj; omega
            · refine ⟨by omega, by omega, fin _ q1 (fun j hj hne hbj => ?_) q3⟩
              by_cases hjm : j = m
              · subst hjm; omega
              · exact q2 j (by omega) hne hbj
      · rename_i hb
        refine hX2 _ hmc ⟨q0, q1, fun j hj hne hbj => ?_, q3, q4, q5, q6⟩
        by_cases hjm : j = m
        · subst hjm; exact absurd hbj hb
        · exact q2 j (by omega) hne hbj
    · obtain rfl : m = c := by omega
      have hfin : ix q (a : Int) = (D a : Int) := by
        have h1 : ix q (a : Int) ≤ (D a : Int) := by
          rcases q3 with h | ⟨j, hj, hne, hbj, h⟩
          · omega
          · have := hD.up a j ha hj hne hbj; omega
        have h2 : (D a : Int) ≤ ix q (a : Int) := by
          rcases hD.at_ a ha with h | ⟨j, hj, hne, hbj, h⟩
          · omega
          · have := q2 j hj hne hbj; omega
        omega
      refine ⟨by omega, by omega, hK _ ?_⟩
      intro a' ha'
      obtain rfl : a' = a := by simp only at ha'; omega
      refine ⟨hfin, q0, hfin, fun k hk hn => ?_, fun k hk hkk => ?_, fun k hk hh => ?_⟩
      · exact q5 k hk (fun h => hn (.inl h)) fun h => hn (.inr h)
      · by_cases hka : k = a'
        · subst hka; exact .inr hfin
        · exact q4 k hk hka (hkk.resolve_left hka)
      · by_cases hka : k = a'
        · subst hka; exact hfin
        · exact q6 k hk hka hh
  · rename_i hneg
    have hda : ix d (a : Int) = (D a : Int) := by rcases hI a ha (.inl rfl) with h | h <;> omega
    refine ⟨by omega, by omega, hK _ ?_⟩
    intro a' ha'
    obtain rfl : a' = a := by simp only at ha'; omega
    exact ⟨hda, hd, hda, fun k hk hn => rfl, fun k hk hkk => hI k hk hkk, fun k hk hh => hh⟩
theorem green_Heights_ok {t : List (List Int)} {K : List Int → Prop} (h1 : VT t = true → ∀ g D, GrOf t g → Dep g.Below.length (belG g) D → K (dL g.Below.length D)) (h2 : ¬ VT t = true → K []) : green_Heights t K := by
  unfold green_Heights
  refine green_Classes_ok (fun hv g hg => ?_) fun hv => ?_
  · have n4 := (SH.tb (VT.sh hv)).n4
    have hc4 := hg.small
    obtain ⟨D, hD⟩ := dep_ex g.Below.length (belG g) hg.anti (hg.tr hv)
    refine fun _ => ⟨by omega, by omega, ?_⟩
    refine LoopWP.fold g.Below.length (fun k (d : List Int) => d.length = g.Below.length ∧ ∀ i : Nat, i < k → ix d (i : Int) = -1) ⟨by simp, fun i hi => by omega⟩ ?_
    rintro k d X hk ⟨hd, hI⟩ hX
    show green_Heights_L1 t g K _ k d
    unfold green_Heights_L1
    rw [List.length_replicate]
    split
    · refine ⟨by omega, by omega, ⟨by omega, by omega⟩, hX _ (by omega) ⟨by rw [st_length]; exact hd, fun i hi => ?_⟩⟩
      rw [ix_st _ (by omega) (by omega) (by omega)]
      by_cases hik : i = k
      · rw [if_pos (by omega)]
      · rw [if_neg (by omega)]; exact hI i (by omega)
    · obtain rfl : k = g.Below.length := by omega
      refine LoopWP.fold g.Below.length (fun m (q : List Int) => q.length = g.Below.length ∧ (∀ i : Nat, i < g.Below.length → ix q (i : Int) = -1 ∨ ix q (i : Int) = (D i : Int)) ∧ ∀ i : Nat, i < m → ix q (i : Int) = (D i : Int)) ⟨hd, fun i hi => .inl (hI i hi), fun i hi => by omega⟩ ?_
      rintro m q X2 hm ⟨q0, q1, q2⟩ hX2
      show green_Heights_L2 t g d K _ m q
      unfold green_Heights_L2
      rw [hd]
      split
      · have hmc : m < g.Below.length := by omega
        refine heights_rec rfl (by omega) hg.row hD hg.anti (hg.tr hv) hmc q0 (fun k hk _ => q1 k hk) fun d' r2 r3 r4 r5 r6 => ?_
        refine ⟨⟨by omega, by omega⟩, hX2 _ hmc ⟨r2, fun i hi => ?_, fun i hi => ?_⟩⟩
        · by_cases him : i = m ∨ belG g m i
          · exact r5 i hi him
          · rw [r4 i hi him]; exact q1 i hi
        · by_cases him : i = m
          · subst him; exact r3
          · exact r6 i (by omega) (q2 i (by omega))
      · obtain rfl : m = g.Below.length := by omega
        rw [eq_dL q0 q2]
        exact h1 hv g D hg hD
  · refine fun _ => ⟨by decide, by decide, ?_⟩
    refine LoopWP.fold 0 (fun k (d : List Int) => d = []) rfl ?_
    rintro k d X hk rfl hX
    obtain rfl : k = 0 := by omega
    show green_Heights_L1 t _ K _ 0 []
    unfold green_Heights_L1
    rw [if_neg (by decide)]
    refine LoopWP.fold 0 (fun k (d : List Int) => d = []) rfl ?_
    rintro m q X2 hm rfl hX2
    obtain rfl : m = 0 := by omega
    show green_Heights_L2 t _ [] K _ 0 []
    unfold green_Heights_L2
    rw [if_neg (by decide)]
    exact h2 hv
end Sg
