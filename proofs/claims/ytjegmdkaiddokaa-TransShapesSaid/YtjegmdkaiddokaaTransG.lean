/- Transformations: those of the letters of an automaton; words and runs. Plain laws. -/
import Derived.Test.YtjegmdkaiddokaaTransC
import Derived.Test.YtjegmdkaiddokaaPDfa
namespace Sg
open Go

/-- The transformations of the letters. -/
def col (d : DFA) (x : Nat) : List Int := d.Next.map fun row => ix row (x : Int)
def gensD (d : DFA) : List (List Int) := (List.range d.Letters.toNat).map (col d)
theorem ix_gensD {d : DFA} {x : Nat} (h : x < d.Letters.toNat) : ix (gensD d) (x : Int) = col d x := by
  rw [ix_lt (by simpa [gensD] using h)]; simp [gensD]
theorem ix_col {d : DFA} {x q : Nat} (h : q < d.Next.length) : ix (col d x) (q : Int) = ix (ix d.Next (q : Int)) (x : Int) := by
  unfold col; rw [ix_map _ (by omega) (by omega)]
@[simp] theorem col_len {d : DFA} {x : Nat} : (col d x).length = d.Next.length := by simp [col]
@[simp] theorem gensD_len {d : DFA} : (gensD d).length = d.Letters.toNat := by simp [gensD]
theorem trans_OfDFA_ok {d : DFA} {K : List (List Int) → Int → Prop} (h : if DV d = true then (if 32 < d.Final.length then K [] 3 else K (gensD d) 0) else K [] (daC d)) : trans_OfDFA d K := by
  unfold trans_OfDFA
  refine dfa_Validate_ok ?_
  split
  · rename_i h0
    have hv := daC0.1 h0
    have D := DV_iff.1 hv
    rw [if_pos hv] at h
    refine fun _ => ?_
    split
    · rw [if_pos (by omega)] at h; exact h
    · rw [if_neg (by omega)] at h
      have l1 := D.l1
      have l6 := D.l6
      have nx := D.nx
      refine ⟨by omega, by omega, LoopWP.fold d.Letters.toNat (fun k (g : List (List Int)) => g.length = d.Letters.toNat ∧ ∀ j : Nat, j < k → ix g j = col d j) ⟨by simp, fun j hj => absurd hj (Nat.not_lt_zero _)⟩ ?_⟩
      rintro k g X hk ⟨hl, hI⟩ hX
      show trans_OfDFA_L1 d K _ k g
      unfold trans_OfDFA_L1
      simp only [List.length_replicate]
      split
      · rename_i hkl
        refine fun _ => ⟨by omega, by omega, by omega, by omega, ?_⟩
        refine LoopWP.fold d.Next.length (fun m (g : List (List Int)) => g.length = d.Letters.toNat ∧ (∀ j : Nat, j < k → ix g j = col d j) ∧ (ix g (k : Int)).length = d.Next.length ∧ ∀ q : Nat, q < m → ix (ix g (k : Int)) q = ix (ix d.Next q) (k : Int)) ⟨by simpa using hl, fun j hj => ?_, ?_, fun q hq => absurd hq (Nat.not_lt_zero _)⟩ ?_
        · rw [ix_st _ (by omega) (by omega) (by omega), if_neg (by omega)]; exact hI j hj
        · rw [ix_st _ (by omega) (by omega) (by omega), if_pos rfl]; simp
        · rintro m g2 X2 hm ⟨hl2, hJ, hlen, hq⟩ hX2
          show trans_OfDFA_L2 d k _ K _ m g2
          unfold trans_OfDFA_L2
          split
          · have hml : m < d.Next.length := by omega
            have hr := D.row m hml
            refine ⟨by omega, by omega, by omega, by omega, by omega, by omega, by omega, by omega, hX2 _ hml ⟨by simpa using hl2, fun j hj => ?_, ?_, fun q hqm => ?_⟩⟩
            · rw [ix_st _ (by omega) (by omega) (by omega), if_neg (by omega)]; exact hJ j hj
            · rw [ix_st _ (by omega) (by omega) (by omega), if_pos rfl]; simpa using hlen
            · rw [ix_st (xs := g2) _ (by omega) (by omega) (by omega), if_pos rfl, ix_st _ (by omega) (by omega) (by omega)]
              split
              · rename_i he
                have : q = m := by omega
                subst this; rfl
              · exact hq q (by omega)
          · have : m = d.Next.length := by omega
            subst this
            refine ⟨⟨by omega, by omega⟩, hX _ (by omega) ⟨hl2, fun j hj => ?_⟩⟩
            by_cases hjk : j = k
            · subst hjk
              exact list_ix (by simp [hlen]) fun q hql => by rw [hq q (by omega), ix_col (by omega)]
            · exact hJ j (by omega)
      · have : g = gensD d := list_ix (by simp [hl]) fun j hj => by rw [hI j (by omega), ix_gensD (by omega)]
        subst this; exact h
  · rename_i h0
    rw [if_neg (fun hh => h0 (daC0.2 hh))] at h; exact h
theorem ref11_OfDFA_ok {d : DFA} (hv : DV d = true) {K : List (List Int) → Prop} (h : K (gensD d)) : ref11_OfDFA d K := by
  unfold ref11_OfDFA
  have D := DV_iff.1 hv
  have l1 := D.l1
  have l6 := D.l6
  have nx := D.nx
  have f2 := D.f2
  refine LoopWP.fold d.Letters.toNat (fun k (g : List (List Int)) => g = (List.range k).map (col d)) rfl ?_
  rintro k g X hk rfl hX
  show ref11_OfDFA_L1 d K _ k _
  unfold ref11_OfDFA_L1
  split
  · refine fun _ => LoopWP.fold d.Next.length (fun m (f : List Int) => f = (d.Next.take m).map fun row => ix row (k : Int)) (by simp) ?_
    rintro m f X2 hm rfl hX2
    show ref11_OfDFA_L2 d k _ _ K _ m _
    unfold ref11_OfDFA_L2
    split
    · have hml : m < d.Next.length := by omega
      have hr := D.row m hml
      refine ⟨by omega, by omega, by omega, by omega, by simp; omega, hX2 _ hml ?_⟩
      rw [take_ix hml, List.map_append]; rfl
    · have : m = d.Next.length := by omega
      subst this
      refine ⟨by simp; omega, ⟨by omega, by omega⟩, hX _ (by omega) ?_⟩
      rw [List.range_succ, List.map_append, List.take_length]; rfl
  · have : k = d.Letters.toNat := by omega
    subst this; exact h
theorem law11_TransLetters_ok (d : DFA) : law11_TransLetters d (fun b => b = true) := by
  unfold law11_TransLetters
  refine trans_OfDFA_ok ?_
  by_cases hv : DV d = true
  · rw [if_pos hv]
    split
    · rename_i h32
      refine ref07_Validate_ok ?_
      rw [if_pos (daC0.2 hv)]
      refine fun _ => ?_
      rw [if_pos (by omega), if_neg (by decide), if_pos rfl]
      refine fun _ => ?_
      rw [if_pos (by simp)]
      exact law11_awake_ok rfl
    · rename_i h32
      refine ref07_Validate_ok ?_
      rw [if_pos (daC0.2 hv)]
      refine fun _ => ?_
      rw [if_neg (by omega), if_pos rfl]
      refine ref11_OfDFA_ok hv (ref03_SameRows_ok ?_)
      rw [if_pos (by simp)]
      exact law11_awake_ok rfl
  · rw [if_neg hv]
    refine ref07_Validate_ok ?_
    rw [if_neg (fun h => hv (daC0.1 h)), if_pos rfl]
    refine fun _ => ?_
    rw [if_pos (by simp)]
    exact law11_awake_ok rfl
theorem GV_gensD {d : DFA} (hv : DV d = true) (h32 : d.Final.length ≤ 32) : GV (gensD d) = true := by
  have D := DV_iff.1 hv
  have l1 := D.l1
  have l6 := D.l6
  have nx := D.nx
  have f1 := D.f1
  have h0 : (ix (gensD d) 0).length = d.Next.length := by
    have := ix_gensD (d := d) (x := 0) (by omega)
    rw [show ((0 : Nat) : Int) = 0 from rfl] at this
    rw [this]; simp
  refine GV_iff.2 ⟨by simp; omega, by simp; omega, fun j hj => ?_⟩
  have hj' : j < d.Letters.toNat := by simpa using hj
  rw [ix_gensD hj', h0]
  refine ⟨VF_iff.2 ⟨by simp; omega, by simp; omega, fun i hi => ?_⟩, by simp⟩
  have hi' : i < d.Next.length := by simpa using hi
  rw [ix_col hi', col_len]
  have hr := D.row i hi'
  have := D.el i j hi' (by omega)
  omega
theorem ofWord_rn {d : DFA} (hv : DV d = true) (h32 : d.Final.length ≤ 32) {w : Str} (hw : WV w d.Letters = true) {q : Int} (h0 : 0 ≤ q) (h1 : q < d.Final.length) : ix (ofWord (gensD d) w) q = rn d q w := by
  have D := DV_iff.1 hv
  have l1 := D.l1
  have hg := GV_gensD hv h32
  have hlen : ((gensD d).length : Int) = d.Letters := by simp; omega
  have hw' : WV w (gensD d).length = true := by rw [hlen]; exact hw
  have h00 : (ix (gensD d) 0).length = d.Next.length := by
    have := ix_gensD (d := d) (x := 0) (by omega)
    rw [show ((0 : Nat) : Int) = 0 from rfl] at this
    rw [this]; simp
  have hl := GV.len0 hg
  have nx := D.nx
  have key : ∀ k, k ≤ w.length → ix (runW (gensD d) (iota (ix (gensD d) 0).length) (w.take k)) q = rn d q (w.take k) := by
    intro k
    induction k with
    | zero => intro _; simp only [List.take_zero, runW, rn, List.foldl_nil]; exact ix_iota' h0 (by omega)
    | succ k ih =>
      intro hk
      have hb := (WV_iff.1 hw).2.2.2 k (by omega)
      have hok := runW_ok hg hw' (f := iota (ix (gensD d) 0).length) (VF_iota hl.1 hl.2) (by simp) k (by omega)
      rw [runW_take (by omega), rn_take (by omega)]
      unfold stepW
      rw [ix_compF h0 (by rw [hok.2]; omega), ih (by omega)]
      have hin := rn_in D h0 h1 hw k (by omega)
      have e1 : ((ix w (k : Int)).toNat : Int) - 97 = (((ix w (k : Int)).toNat - 97 : Nat) : Int) := by omega
      rw [e1, ix_gensD (by omega)]
      obtain ⟨m, hm⟩ := Int.eq_ofNat_of_zero_le hin.1
      rw [hm]
      exact ix_col (by omega)
  have := key w.length (Nat.le_refl _)
  rwa [List.take_length] at this
theorem law11_TransRuns_ok (d : DFA) (q : Int) (w : Str) (hq : I64 q) (hw0 : w.length ≤ 140737488351232) : law11_TransRuns d q w (fun b => b = true) := by
  unfold law11_TransRuns
  refine trans_OfDFA_ok ?_
  by_cases hv : DV d = true
  · rw [if_pos hv]
    have D := DV_iff.1 hv
    split
    · rw [if_neg (by decide)]; exact law11_awake_ok rfl
    · rename_i h32
      rw [if_pos rfl]
      split
      · exact law11_awake_ok rfl
      · refine fun _ => ?_
        split
        · exact law11_awake_ok rfl
        · refine ref01_Valid_ok ?_
          split
          · rename_i hw
            have hg := GV_gensD hv (by omega)
            have l1 := D.l1
            have hlen : ((gensD d).length : Int) = d.Letters := by simp; omega
            refine trans_OfWord_ok ?_
            rw [if_pos ⟨hg, by rw [hlen]; exact hw⟩]
            have hok := ofWord_ok hg (w := w) (by rw [hlen]; exact hw)
            have h00 : (ix (gensD d) 0).length = d.Next.length := by
              have := ix_gensD (d := d) (x := 0) (by omega)
              rw [show ((0 : Nat) : Int) = 0 from rfl] at this
              rw [this]; simp
            have nx := D.nx
            refine fun _ => ?_
            rw [if_pos (by rw [hok.2, h00]; omega)]
            refine ⟨by omega, by rw [hok.2, h00]; omega, dfa_Run_ok ?_⟩
            rw [if_pos (by rw [if_pos ⟨hv, by omega, by omega, hw⟩]; exact ofWord_rn hv (by omega) hw (by omega) (by omega))]
            exact law11_awake_ok rfl
          · exact law11_awake_ok rfl
  · rw [if_neg hv, if_neg (fun h => hv (daC0.1 h))]; exact law11_awake_ok rfl
end Sg
