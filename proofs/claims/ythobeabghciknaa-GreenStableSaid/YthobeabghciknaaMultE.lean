/- Tables: the value of a word. Plain laws. -/
import Derived.Test.YthobeabghciknaaMultD
namespace Sg
open Go
set_option linter.unusedVariables false
set_option linter.unusedSimpArgs false

/-- The image of a letter. -/
def lt (im : List Int) (b : UInt8) : Int := ix im ((b.toNat : Int) - 97)
/-- The product of the images of a word that is not empty. -/
def val (t : List (List Int)) (im : List Int) : Str → Int
  | [] => 0
  | b :: w => w.foldl (fun x b => mu t x (lt im b)) (lt im b)
theorem val_snoc {t : List (List Int)} {im : List Int} {w : Str} (hw : w ≠ []) (b : UInt8) : val t im (w ++ [b]) = mu t (val t im w) (lt im b) := by
  cases w with
  | nil => exact absurd rfl hw
  | cons a w => simp [val, List.foldl_append]
theorem lt_in {t : List (List Int)} {im : List Int} (hi : inB t.length im = true) {b : UInt8} (h1 : 97 ≤ b.toNat) (h2 : (b.toNat : Int) - 97 < im.length) : 0 ≤ lt im b ∧ lt im b < t.length :=
  inB_mem.1 hi _ (ix_mem (by omega) (by omega))
theorem wrapU {b : UInt8} (h : 97 ≤ b.toNat) : IntKind.u8.wrap ((b.toNat : Int) - 97) = (b.toNat : Int) - 97 := by
  have := b.toNat_lt
  rw [IntKind.wrap_u8]; omega
theorem val_in {t : List (List Int)} {n : Nat} (T : Tb t n) {im : List Int} (hi : ∀ b : UInt8, 97 ≤ b.toNat → (b.toNat : Int) - 97 < im.length → 0 ≤ lt im b ∧ lt im b < n) : ∀ w : Str, w ≠ [] → (∀ b ∈ w, 97 ≤ b.toNat ∧ (b.toNat : Int) - 97 < im.length) → 0 ≤ val t im w ∧ val t im w < n := by
  intro w
  induction w using snoc_ind with
  | h0 => intro h; exact absurd rfl h
  | h1 w b ih =>
    intro _ hb
    have hbb := hb b (by simp)
    by_cases hw : w = []
    · subst hw; exact hi b hbb.1 hbb.2
    · rw [val_snoc hw]
      have h1 := ih hw fun c hc => hb c (by simp [hc])
      have h2 := hi b hbb.1 hbb.2
      exact T.mu h1.1 h1.2 h2.1 h2.2
theorem val_app {t : List (List Int)} (hv : VT t = true) {im : List Int} (hi : inB t.length im = true) {u : Str} (hu : u ≠ []) (hub : ∀ b ∈ u, 97 ≤ b.toNat ∧ (b.toNat : Int) - 97 < im.length) :
    ∀ w : Str, w ≠ [] → (∀ b ∈ w, 97 ≤ b.toNat ∧ (b.toNat : Int) - 97 < im.length) → val t im (u ++ w) = mu t (val t im u) (val t im w) := by
  have T := SH.tb (VT.sh hv)
  have hl : ∀ b : UInt8, 97 ≤ b.toNat → (b.toNat : Int) - 97 < im.length → 0 ≤ lt im b ∧ lt im b < t.length := fun b h1 h2 => lt_in hi h1 h2
  have hvu := val_in T hl u hu hub
  intro w
  induction w using snoc_ind with
  | h0 => intro h; exact absurd rfl h
  | h1 w b ih =>
    intro _ hb
    have hbb := hb b (by simp)
    by_cases hw : w = []
    · subst hw; rw [List.nil_append, val_snoc hu]; rfl
    · have hwb : ∀ c ∈ w, 97 ≤ c.toNat ∧ (c.toNat : Int) - 97 < im.length := fun c hc => hb c (by simp [hc])
      rw [← List.append_assoc, val_snoc (by simp [hu]), ih hw hwb, val_snoc hw, (VT.as hv).all hvu (val_in T hl w hw hwb) (hl b hbb.1 hbb.2)]
/-- The value of a word, as program and reference have it. -/
def vaR (t : List (List Int)) (im : List Int) (w : Str) (r : Int) : Prop :=
  if 1 ≤ im.length ∧ WV w im.length = true ∧ inB t.length im = true ∧ VT t = true then (if w = [] then idR t r else r = val t im w) else r = -1
theorem vaR.uniq {t : List (List Int)} {im : List Int} {w : Str} {r r' : Int} (h : vaR t im w r) (k : vaR t im w r') : r = r' := by
  unfold vaR at h k
  split at h
  · rename_i hc
    rw [if_pos hc] at k
    split at h
    · rename_i hw; rw [if_pos hw] at k; exact h.uniq k
    · rename_i hw; rw [if_neg hw] at k; rw [h, k]
  · rename_i hc
    rw [if_neg hc] at k; rw [h, k]
theorem WV_mem {w : Str} {n : Int} (h : WV w n = true) : ∀ b ∈ w, 97 ≤ b.toNat ∧ (b.toNat : Int) - 97 < n := by
  intro b hb
  obtain ⟨j, hj, rfl⟩ := mem_ix.1 hb
  exact (WV_iff.1 h).2.2.2 j hj
theorem val_take {t : List (List Int)} {im : List Int} {w : Str} {k : Nat} (hk : 1 ≤ k) (h : k < w.length) : val t im (w.take (k + 1)) = mu t (val t im (w.take k)) (lt im (ix w (k : Int))) := by
  have hne : w.take k ≠ [] := fun hh => by
    have h1 : (w.take k).length = 0 := by rw [hh]; rfl
    rw [List.length_take] at h1; omega
  rw [take_ix h, val_snoc hne]
theorem take_ne {w : Str} {k : Nat} (hk : 1 ≤ k) (h : w ≠ []) : w.take k ≠ [] := by
  intro hh
  have h1 : (w.take k).length = 0 := by rw [hh]; rfl
  have h2 : 0 < w.length := List.length_pos_iff.2 h
  rw [List.length_take] at h1; omega
theorem idR_in {t : List (List Int)} {r : Int} (h : idR t r) (h0 : ¬ r < 0) : ∃ e : Nat, e < t.length ∧ r = e ∧ isI t e := by
  rcases h with ⟨e, h1, rfl, h2, _⟩ | ⟨rfl, _⟩
  · exact ⟨e, h1, rfl, h2⟩
  · omega
/-- The value of a concatenation. -/
theorem vaR_app {t : List (List Int)} {im : List Int} {u w : Str} {x y z : Int} (hu : vaR t im u y) (hw : vaR t im w x) (hx : ¬ x < 0) (hy : ¬ y < 0) (huw : WV (u ++ w) 6 = true) (hz : vaR t im (u ++ w) z) :
    (0 ≤ y ∧ y < t.length) ∧ (0 ≤ x ∧ x < t.length) ∧ z = mu t y x := by
  unfold vaR at hu hw hz
  split at hw
  · rename_i hc
    split at hu
    · rename_i hd
      obtain ⟨c1, c2, c3, c4⟩ := hc
      have T := SH.tb (VT.sh c4)
      have hl : ∀ b : UInt8, 97 ≤ b.toNat → (b.toNat : Int) - 97 < im.length → 0 ≤ lt im b ∧ lt im b < t.length := fun b h1 h2 => lt_in c3 h1 h2
      have hlen := (WV_iff.1 huw).2.2.1
      have hWV : WV (u ++ w) im.length = true := by
        obtain ⟨a1, a2, a3, a4⟩ := WV_iff.1 c2
        simp only [WV, Bool.and_eq_true, decide_eq_true_eq, List.all_eq_true, List.mem_append]
        exact ⟨⟨⟨a1, a2⟩, hlen⟩, fun b hb => hb.elim (WV_mem hd.2.1 b) (WV_mem c2 b)⟩
      rw [if_pos ⟨c1, hWV, c3, c4⟩] at hz
      have hub := WV_mem hd.2.1
      have hwb := WV_mem c2
      have inI : ∀ a : Int, 0 ≤ a ∧ a < t.length → ∃ m : Nat, a = m ∧ m < t.length := fun a ha => ⟨a.toNat, by omega, by omega⟩
      by_cases eu : u = []
      · rw [if_pos eu] at hu
        obtain ⟨e, e1, rfl, e2⟩ := idR_in hu hy
        subst eu
        by_cases ew : w = []
        · rw [if_pos ew] at hw
          obtain ⟨e', e1', rfl, e2'⟩ := idR_in hw hx
          subst ew
          rw [if_pos (by simp)] at hz
          refine ⟨by omega, by omega, ?_⟩
          rw [(e2 e' e1').1]
          exact hz.uniq hw
        · rw [if_neg ew] at hw
          rw [if_neg (by simpa using ew)] at hz
          have hin := val_in T hl w ew hwb
          subst hw
          refine ⟨by omega, hin, ?_⟩
          obtain ⟨m, hm, hml⟩ := inI _ hin
          rw [hz, List.nil_append, hm, (e2 m hml).1]
      · rw [if_neg eu] at hu
        have hinu := val_in T hl u eu hub
        subst hu
        by_cases ew : w = []
        · rw [if_pos ew] at hw
          obtain ⟨e', e1', rfl, e2'⟩ := idR_in hw hx
          subst ew
          rw [if_neg (by simpa using eu)] at hz
          refine ⟨hinu, by omega, ?_⟩
          obtain ⟨m, hm, hml⟩ := inI _ hinu
          rw [hz, List.append_nil, hm, (e2' m hml).2]
        · rw [if_neg ew] at hw
          rw [if_neg (by simp [eu])] at hz
          subst hw
          exact ⟨hinu, val_in T hl w ew hwb, by rw [hz, val_app c4 c3 eu hub w ew hwb]⟩
    · omega
  · omega
end Sg
