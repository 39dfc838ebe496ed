/- Tables: the value of a word. Plain laws. -/
import Derived.Test.YtolobiljalelgaaMultD
namespace Sg
open Go

/-- The image of a letter. -/
def lt (im : List Int) (b : UInt8) : Int := ix im ((b.toNat : Int) - 97)
/-- The product of the images of a word that is not empty. -/
def val (t : List (List Int)) (im : List Int) : Str → Int
  | [] => 0
  | b :: w => w.foldl (fun x b => mu t x (lt im b)) (lt im b)
theorem val_snoc {t : List (List Int)} {im : List Int} {w : Str} (hw : w ≠ []) (b : UInt8) : val t im (w ++ [b]) = mu t (val t im w) (lt im b) := by
  cases w with
  | nil => exact absurd rfl hw
  | cons a w => simp [val, List.foldl_append]
theorem lt_in {t : List (List Int)} {im : List Int} (hi : inB t.length im = true) {b : UInt8} (h1 : 97 ≤ b.toNat) (h2 : (b.toNat : Int) - 97 < im.length) : 0 ≤ lt im b ∧ lt im b < t.length :=
  inB_mem.1 hi _ (ix_mem (by omega) (by omega))
theorem wrapU {b : UInt8} (h : 97 ≤ b.toNat) : IntKind.u8.wrap ((b.toNat : Int) - 97) = (b.toNat : Int) - 97 := by
  have := b.toNat_lt
  rw [IntKind.wrap_u8]; omega
theorem val_in {t : List (List Int)} {n : Nat} (T : Tb t n) {im : List Int} (hi : ∀ b : UInt8, 97 ≤ b.toNat → (b.toNat : Int) - 97 < im.length → 0 ≤ lt im b ∧ lt im b < n) : ∀ w : Str, w ≠ [] → (∀ b ∈ w, 97 ≤ b.toNat ∧ (b.toNat : Int) - 97 < im.length) → 0 ≤ val t im w ∧ val t im w < n := by
  intro w
  induction w using snoc_ind with
  | h0 => intro h; exact absurd rfl h
  | h1 w b ih =>
    intro _ hb
    have hbb := hb b (by simp)
    by_cases hw : w = []
    · subst hw; exact hi b hbb.1 hbb.2
    · rw [val_snoc hw]
      have h1 := ih hw fun c hc => hb c (by simp [hc])
      have h2 := hi b hbb.1 hbb.2
      exact T.mu h1.1 h1.2 h2.1 h2.2
theorem val_app {t : List (List Int)} (hv : VT t = true) {im : List Int} (hi : inB t.length im = true) {u : Str} (hu : u ≠ []) (hub : ∀ b ∈ u, 97 ≤ b.toNat ∧ (b.toNat : Int) - 97 < im.length) :
    ∀ w : Str, w ≠ [] → (∀ b ∈ w, 97 ≤ b.toNat ∧ (b.toNat : Int) - 97 < im.length) → val t im (u ++ w) = mu t (val t im u) (val t im w) := by
  have T := SH.tb (VT.sh hv)
  have hl : ∀ b : UInt8, 97 ≤ b.toNat → (b.toNat : Int) - 97 < im.length → 0 ≤ lt im b ∧ lt im b < t.length := fun b h1 h2 => lt_in hi h1 h2
  have hvu := val_in T hl u hu hub
  intro w
  induction w using snoc_ind with
  | h0 => intro h; exact absurd rfl h
  | h1 w b ih =>
    intro _ hb
    have hbb := hb b (by simp)
    by_cases hw : w = []
    · subst hw; rw [List.nil_append, val_snoc hu]; rfl
    · have hwb : ∀ c ∈ w, 97 ≤ c.toNat ∧ (c.toNat : Int) - 97 < im.length := fun c hc => hb c (by simp [hc])
      rw [← List.append_assoc, val_snoc (by simp [hu]), ih hw hwb, val_snoc hw, (VT.as hv).all hvu (val_in T hl w hw hwb) (hl b hbb.1 hbb.2)]
/-- The value of a word, as program and reference have it. -/
def vaR (t : List (List Int)) (im : List Int) (w : Str) (r : Int) : Prop :=
  if 1 ≤ im.length ∧ WV w im.length = true ∧ inB t.length im = true ∧ VT t = true then (if w = [] then idR t r else r = val t im w) else r = -1
theorem vaR.uniq {t : List (List Int)} {im : List Int} {w : Str} {r r' : Int} (h : vaR t im w r) (k : vaR t im w r') : r = r' := by
  unfold vaR at h k
  split at h
  · rename_i hc
    rw [if_pos hc] at k
    split at h
    · rename_i hw; rw [if_pos hw] at k; exact h.uniq k
    · rename_i hw; rw [if_neg hw] at k; rw [h, k]
  · rename_i hc
    rw [if_neg hc] at k; rw [h, k]
theorem WV_mem {w : Str} {n : Int} (h : WV w n = true) : ∀ b ∈ w, 97 ≤ b.toNat ∧ (b.toNat : Int) - 97 < n := by
  intro b hb
  obtain ⟨j, hj, rfl⟩ := mem_ix.1 hb
  exact (WV_iff.1 h).2.2.2 j hj
theorem val_take {t : List (List Int)} {im : List Int} {w : Str} {k : Nat} (hk : 1 ≤ k) (h : k < w.length) : val t im (w.take (k + 1)) = mu t (val t im (w.take k)) (lt im (ix w (k : Int))) := by
  have hne : w.take k ≠ [] := fun hh => by
    have h1 : (w.take k).length = 0 := by rw [hh]; rfl
    rw [List.length_take] at h1; omega
  rw [take_ix h, val_snoc hne]
theorem take_ne {w : Str} {k : Nat} (hk : 1 ≤ k) (h : w ≠ []) : w.take k ≠ [] := by
  intro hh
  have h1 : (w.take k).length = 0 := by rw [hh]; rfl
  have h2 : 0 < w.length := List.length_pos_iff.2 h
  rw [List.length_take] at h1; omega
theorem mult_Value_ok {t : List (List Int)} {im : List Int} {w : Str} {K : Int → Prop} (h : ∀ r, vaR t im w r → K r) : mult_Value t im w K := by
  unfold mult_Value
  refine fun _ => ?_
  split
  · exact h _ (by rw [vaR, if_neg (by omega)])
  · refine word_Valid_ok ?_
    split
    · rename_i h0 hw
      refine mult_has_ok ?_
      split
      · rename_i hb
        simp only [Bool.and_eq_true] at hb
        have hc : 1 ≤ im.length ∧ WV w im.length = true ∧ inB t.length im = true ∧ VT t = true := ⟨by omega, hw, hb.1, hb.2⟩
        have T := SH.tb (VT.sh hb.2)
        have hl : ∀ b : UInt8, 97 ≤ b.toNat → (b.toNat : Int) - 97 < im.length → 0 ≤ lt im b ∧ lt im b < t.length := fun b h1 h2 => lt_in hb.1 h1 h2
        obtain ⟨_, _, hwl, hwi⟩ := WV_iff.1 hw
        split
        · rename_i he
          refine mult_Identity_ok fun r hr => h r ?_
          rw [if_pos hb.2] at hr
          rw [vaR, if_pos hc, if_pos he]; exact hr
        · rename_i he
          have hpos : 0 < w.length := List.length_pos_iff.2 he
          have hw0 := hwi 0 hpos
          rw [show ((0 : Nat) : Int) = 0 from rfl] at hw0
          rw [wrapU hw0.1]
          refine ⟨by omega, by omega, by omega, hw0.2, ?_⟩
          refine LoopWP.foldR w.length (fun k (x : Int) => 1 ≤ k ∧ x = val t im (w.take k)) 1 hpos ⟨Nat.le_refl _, ?_⟩ ?_
          · obtain ⟨b, w', rfl⟩ := List.exists_cons_of_ne_nil he
            rfl
          · rintro k x X hk ⟨h1, rfl⟩ hX
            show mult_Value_L1 t im w K _ _ k
            unfold mult_Value_L1
            refine fun _ => ?_
            split
            · rename_i hkl
              have hkl' : k < w.length := by omega
              have hwk := hwi k hkl'
              have hin := val_in T hl (w.take k) (take_ne h1 he) fun b hb => WV_mem hw b (List.mem_of_mem_take hb)
              have hli := hl _ hwk.1 hwk.2
              have r1 := T.row _ hin.1 hin.2
              rw [wrapU hwk.1]
              refine ⟨hin.1, hin.2, by omega, by omega, by omega, hwk.2, hli.1, by rw [r1]; exact hli.2, hX _ hkl' ⟨by omega, ?_⟩⟩
              rw [val_take h1 hkl']; rfl
            · have : k = w.length := by omega
              subst this
              refine h _ ?_
              rw [List.take_length, vaR, if_pos hc, if_neg he]
      · rename_i hb
        refine h _ ?_
        rw [vaR, if_neg (fun hc => hb (by simp [hc.2.2]))]
    · rename_i hw
      exact h _ (by rw [vaR, if_neg (fun hc => hw hc.2.1)])
theorem ref14_Value_ok {t : List (List Int)} {im : List Int} {w : Str} (hv : VT t = true) {K : Int → Prop} (h : ∀ r, vaR t im w r → K r) : ref14_Value t im w K := by
  unfold ref14_Value
  have T := SH.tb (VT.sh hv)
  refine fun _ => ?_
  split
  · exact h _ (by rw [vaR, if_neg (by omega)])
  · split
    · exact h _ (by rw [vaR, if_neg (fun hc => by have := WV_iff.1 hc.2.1; omega)])
    · refine ref14_In_ok ?_
      split
      · rename_i hi
        refine ref01_Valid_ok ?_
        split
        · rename_i hw
          have hc : 1 ≤ im.length ∧ WV w im.length = true ∧ inB t.length im = true ∧ VT t = true := ⟨by omega, hw, hi, hv⟩
          have hl : ∀ b : UInt8, 97 ≤ b.toNat → (b.toNat : Int) - 97 < im.length → 0 ≤ lt im b ∧ lt im b < t.length := fun b h1 h2 => lt_in hi h1 h2
          obtain ⟨_, _, hwl, hwi⟩ := WV_iff.1 hw
          split
          · rename_i he
            refine ref14_Identity_ok (VT.sh hv) fun r hr => h r ?_
            rw [vaR, if_pos hc, if_pos he]; exact hr
          · rename_i he
            have hpos : 0 < w.length := List.length_pos_iff.2 he
            have hw0 := hwi 0 hpos
            rw [show ((0 : Nat) : Int) = 0 from rfl] at hw0
            rw [wrapL hw0.1]
            refine ⟨by omega, by omega, by omega, hw0.2, ?_⟩
            refine LoopWP.foldR w.length (fun k (x : Int) => 1 ≤ k ∧ x = val t im (w.take k)) 1 hpos ⟨Nat.le_refl _, ?_⟩ ?_
            · obtain ⟨b, w', rfl⟩ := List.exists_cons_of_ne_nil he
              rfl
            · rintro k x X hk ⟨h1, rfl⟩ hX
              show ref14_Value_L1 t im w K _ _ k
              unfold ref14_Value_L1
              refine fun _ => ?_
              split
              · rename_i hkl
                have hkl' : k < w.length := by omega
                have hwk := hwi k hkl'
                have hin := val_in T hl (w.take k) (take_ne h1 he) fun b hb => WV_mem hw b (List.mem_of_mem_take hb)
                have hli := hl _ hwk.1 hwk.2
                have r1 := T.row _ hin.1 hin.2
                rw [wrapL hwk.1]
                refine ⟨hin.1, hin.2, by omega, by omega, by omega, hwk.2, hli.1, by rw [r1]; exact hli.2, hX _ hkl' ⟨by omega, ?_⟩⟩
                rw [val_take h1 hkl']; rfl
              · have : k = w.length := by omega
                subst this
                refine h _ ?_
                rw [List.take_length, vaR, if_pos hc, if_neg he]
        · rename_i hw
          exact h _ (by rw [vaR, if_neg (fun hc => hw hc.2.1)])
      · rename_i hi
        exact h _ (by rw [vaR, if_neg (fun hc => hi hc.2.2.1)])
theorem idR_in {t : List (List Int)} {r : Int} (h : idR t r) (h0 : ¬ r < 0) : ∃ e : Nat, e < t.length ∧ r = e ∧ isI t e := by
  rcases h with ⟨e, h1, rfl, h2, _⟩ | ⟨rfl, _⟩
  · exact ⟨e, h1, rfl, h2⟩
  · omega
/-- The value of a concatenation. -/
theorem vaR_app {t : List (List Int)} {im : List Int} {u w : Str} {x y z : Int} (hu : vaR t im u y) (hw : vaR t im w x) (hx : ¬ x < 0) (hy : ¬ y < 0) (huw : WV (u ++ w) 6 = true) (hz : vaR t im (u ++ w) z) :
    (0 ≤ y ∧ y < t.length) ∧ (0 ≤ x ∧ x < t.length) ∧ z = mu t y x := by
  unfold vaR at hu hw hz
  split at hw
  · rename_i hc
    split at hu
    · rename_i hd
      obtain ⟨c1, c2, c3, c4⟩ := hc
      have T := SH.tb (VT.sh c4)
      have hl : ∀ b : UInt8, 97 ≤ b.toNat → (b.toNat : Int) - 97 < im.length → 0 ≤ lt im b ∧ lt im b < t.length := fun b h1 h2 => lt_in c3 h1 h2
      have hlen := (WV_iff.1 huw).2.2.1
      have hWV : WV (u ++ w) im.length = true := by
        obtain ⟨a1, a2, a3, a4⟩ := WV_iff.1 c2
        simp only [WV, Bool.and_eq_true, decide_eq_true_eq, List.all_eq_true, List.mem_append]
        exact ⟨⟨⟨a1, a2⟩, hlen⟩, fun b hb => hb.elim (WV_mem hd.2.1 b) (WV_mem c2 b)⟩
      rw [if_pos ⟨c1, hWV, c3, c4⟩] at hz
      have hub := WV_mem hd.2.1
      have hwb := WV_mem c2
      have inI : ∀ a : Int, 0 ≤ a ∧ a < t.length → ∃ m : Nat, a = m ∧ m < t.length := fun a ha => ⟨a.toNat, by omega, by omega⟩
      by_cases eu : u = []
      · rw [if_pos eu] at hu
        obtain ⟨e, e1, rfl, e2⟩ := idR_in hu hy
        subst eu
        by_cases ew : w = []
        · rw [if_pos ew] at hw
          obtain ⟨e', e1', rfl, e2'⟩ := idR_in hw hx
          subst ew
          rw [if_pos (by simp)] at hz
          refine ⟨by omega, by omega, ?_⟩
          rw [(e2 e' e1').1]
          exact hz.uniq hw
        · rw [if_neg ew] at hw
          rw [if_neg (by simpa using ew)] at hz
          have hin := val_in T hl w ew hwb
          subst hw
          refine ⟨by omega, hin, ?_⟩
          obtain ⟨m, hm, hml⟩ := inI _ hin
          rw [hz, List.nil_append, hm, (e2 m hml).1]
      · rw [if_neg eu] at hu
        have hinu := val_in T hl u eu hub
        subst hu
        by_cases ew : w = []
        · rw [if_pos ew] at hw
          obtain ⟨e', e1', rfl, e2'⟩ := idR_in hw hx
          subst ew
          rw [if_neg (by simpa using eu)] at hz
          refine ⟨hinu, by omega, ?_⟩
          obtain ⟨m, hm, hml⟩ := inI _ hinu
          rw [hz, List.append_nil, hm, (e2' m hml).2]
        · rw [if_neg ew] at hw
          rw [if_neg (by simp [eu])] at hz
          subst hw
          exact ⟨hinu, val_in T hl w ew hwb, by rw [hz, val_app c4 c3 eu hub w ew hwb]⟩
    · omega
  · omega
theorem law14_MultValues_ok (t : List (List Int)) (im : List Int) (u w : Str) (hu : u.length ≤ 140737488351232) (hw : w.length ≤ 140737488351232) : law14_MultValues t im u w (fun b => b = true) := by
  unfold law14_MultValues
  have tail : ∀ x, vaR t im w x → VT t = true → ref14_Value t im w fun r29 => (if x = r29 then (mult_Value t im u fun r35 => (if x < (0 : Int) then (law14_awake  fun r41 => (r41 = true)) else (if r35 < (0 : Int) then (law14_awake  fun r47 => (r47 = true)) else (u.length + w.length ≤ 9223372036854775807 ∧ (ref01_Valid (u ++ w) ((6 : Int)) fun r53 => (if r53 = true then (if r35 < (t.length : Int) then (if x < (t.length : Int) then (u.length + w.length ≤ 9223372036854775807 ∧ (0 ≤ r35 ∧ r35 < (t.length : Int) ∧ (0 ≤ x ∧ x < ((ix t r35).length : Int) ∧ (mult_Value t im (u ++ w) fun r77 => (if r77 = (ix (ix t r35) x) then (law14_awake  fun r83 => (r83 = true)) else (false = true)))))) else (false = true)) else (false = true)) else (law14_awake  fun r58 => (r58 = true)))))))) else (false = true)) := by
    intro x hx hv
    refine ref14_Value_ok hv fun x' hx' => ?_
    rw [if_pos (hx.uniq hx')]
    refine mult_Value_ok fun y hy => ?_
    split
    · exact law14_awake_ok rfl
    · rename_i h0
      split
      · exact law14_awake_ok rfl
      · rename_i h1
        refine ⟨by omega, ref01_Valid_ok ?_⟩
        split
        · rename_i hW
          obtain ⟨z, hz⟩ : ∃ z, vaR t im (u ++ w) z := by
            unfold vaR
            split
            · split
              · exact FR.ex _ _
              · exact ⟨_, rfl⟩
            · exact ⟨_, rfl⟩
          obtain ⟨hy', hx'', _⟩ := vaR_app hy hx h0 h1 hW hz
          rw [if_pos hy'.2, if_pos hx''.2]
          have r1 := (SH.tb (VT.sh hv)).row y hy'.1 hy'.2
          refine ⟨by omega, hy'.1, hy'.2, hx''.1, by rw [r1]; exact hx''.2, mult_Value_ok fun z' hz' => ?_⟩
          rw [if_pos (show z' = ix (ix t y) x from (vaR_app hy hx h0 h1 hW hz').2.2)]
          exact law14_awake_ok rfl
        · exact law14_awake_ok rfl
  refine ref14_Shape_ok ?_
  split
  · refine fun _ => ?_
    split
    · exact law14_awake_ok rfl
    · refine mult_Value_ok fun x hx => ref14_Valid_ok ?_
      by_cases hv : VT t = true
      · rw [if_pos hv]; exact tail x hx hv
      · rw [if_neg hv]
        rw [vaR, if_neg (fun hc => hv hc.2.2.2)] at hx
        rw [if_pos hx]; exact law14_awake_ok rfl
  · rename_i hs
    refine mult_Value_ok fun x hx => ref14_Valid_ok ?_
    have hv : ¬ VT t = true := fun hv => hs (shC0.2 (VT.sh hv))
    rw [if_neg hv]
    rw [vaR, if_neg (fun hc => hv hc.2.2.2)] at hx
    rw [if_pos hx]; exact law14_awake_ok rfl
end Sg
