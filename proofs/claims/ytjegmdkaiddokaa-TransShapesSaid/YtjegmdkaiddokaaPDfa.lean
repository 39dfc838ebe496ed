/- Automata: which are valid; the state that a word leads to. Plain laws. -/
import Derived.Test.YtjegmdkaiddokaaPWord
namespace Sg
open Go

/-- A valid automaton. -/
def DV (d : DFA) : Bool := decide (1 ≤ d.Letters) && decide (d.Letters ≤ 6) && decide (1 ≤ d.Final.length) && decide (d.Final.length ≤ 512) && decide (d.Next.length = d.Final.length) && decide (0 ≤ d.Start) && decide (d.Start < d.Final.length) &&
  d.Next.all fun row => decide ((row.length : Int) = d.Letters) && row.all fun q => decide (0 ≤ q) && decide (q < d.Final.length)
structure Da (d : DFA) : Prop where
  l1 : 1 ≤ d.Letters
  l6 : d.Letters ≤ 6
  f1 : 1 ≤ d.Final.length
  f2 : d.Final.length ≤ 512
  nx : d.Next.length = d.Final.length
  s0 : 0 ≤ d.Start
  s1 : d.Start < d.Final.length
  row : ∀ j : Nat, j < d.Next.length → ((ix d.Next j).length : Int) = d.Letters
  el : ∀ j i : Nat, j < d.Next.length → i < (ix d.Next j).length → 0 ≤ ix (ix d.Next j) i ∧ ix (ix d.Next j) i < d.Final.length
theorem DV_iff {d : DFA} : DV d = true ↔ Da d := by
  have h1 : ∀ row : List Int, (∀ q ∈ row, 0 ≤ q ∧ q < (d.Final.length : Int)) ↔ ∀ i : Nat, i < row.length → 0 ≤ ix row i ∧ ix row i < d.Final.length := fun row => forall_mem_ix (p := fun q : Int => 0 ≤ q ∧ q < (d.Final.length : Int))
  have h2 : (∀ row ∈ d.Next, (row.length : Int) = d.Letters ∧ ∀ q ∈ row, 0 ≤ q ∧ q < (d.Final.length : Int)) ↔ ∀ j : Nat, j < d.Next.length → ((ix d.Next j).length : Int) = d.Letters ∧ ∀ q ∈ ix d.Next j, 0 ≤ q ∧ q < (d.Final.length : Int) :=
    forall_mem_ix (p := fun row : List Int => (row.length : Int) = d.Letters ∧ ∀ q ∈ row, 0 ≤ q ∧ q < (d.Final.length : Int))
  simp only [DV, Bool.and_eq_true, decide_eq_true_eq, List.all_eq_true]
  rw [h2]
  constructor
  · rintro ⟨⟨⟨⟨⟨⟨⟨a, b⟩, c⟩, d1⟩, e⟩, f⟩, g⟩, h⟩
    exact ⟨a, b, c, d1, e, f, g, fun j hj => (h j hj).1, fun j i hj hi => (h1 _).1 (h j hj).2 i hi⟩
  · rintro ⟨a, b, c, d1, e, f, g, h, k⟩
    exact ⟨⟨⟨⟨⟨⟨⟨a, b⟩, c⟩, d1⟩, e⟩, f⟩, g⟩, fun j hj => ⟨h j hj, (h1 _).2 fun i hi => k j i hj hi⟩⟩
/-- Row and entry at whole numbers. -/
theorem Da.at_ {d : DFA} (D : Da d) {q x : Int} (h0 : 0 ≤ q) (h1 : q < d.Final.length) (k0 : 0 ≤ x) (k1 : x < d.Letters) : ((ix d.Next q).length : Int) = d.Letters ∧ 0 ≤ ix (ix d.Next q) x ∧ ix (ix d.Next q) x < d.Final.length := by
  obtain ⟨a, rfl⟩ := Int.eq_ofNat_of_zero_le h0
  obtain ⟨b, rfl⟩ := Int.eq_ofNat_of_zero_le k0
  have hn := D.nx
  have hr := D.row a (by omega)
  have := D.el a b (by omega) (by omega)
  exact ⟨hr, this⟩
/-- What the check says. -/
def daC (d : DFA) : Int := if d.Letters < 1 ∨ 6 < d.Letters then 1 else if 512 < d.Final.length then 3 else if DV d = true then 0 else 4
theorem daC0 {d : DFA} : daC d = 0 ↔ DV d = true := by
  unfold daC
  constructor
  · intro h
    split at h
    · omega
    · split at h
      · omega
      · split at h
        · assumption
        · omega
  · intro h
    have D := DV_iff.1 h
    rw [if_neg (by have := D.l1; have := D.l6; omega), if_neg (by have := D.f2; omega), if_pos h]
theorem daC4 {d : DFA} (h1 : ¬ (d.Letters < 1 ∨ 6 < d.Letters)) (h2 : ¬ 512 < d.Final.length) (h3 : ¬ Da d) : daC d = 4 := by
  rw [daC, if_neg h1, if_neg h2, if_neg (fun h => h3 (DV_iff.1 h))]
theorem dfa_Validate_ok {d : DFA} {K : Int → Prop} (h : K (daC d)) : dfa_Validate d K := by
  unfold dfa_Validate
  split
  · rw [daC, if_pos (by omega)] at h; exact h
  · split
    · rw [daC, if_pos (by omega)] at h; exact h
    · refine fun _ => ?_
      split
      · rw [daC, if_neg (by omega), if_pos (by omega)] at h; exact h
      · refine fun _ => ?_
        split
        · rename_i hnx
          split
          · rw [daC4 (by omega) (by omega) fun D => by have := D.s0; omega] at h; exact h
          · split
            · rw [daC4 (by omega) (by omega) fun D => by have := D.s1; omega] at h; exact h
            · refine LoopWP.scan d.Next.length (fun j => ((ix d.Next j).length : Int) = d.Letters ∧ ∀ i : Nat, i < (ix d.Next j).length → 0 ≤ ix (ix d.Next j) i ∧ ix (ix d.Next j) i < d.Final.length) ?_
              intro k X hk hI hX
              show dfa_Validate_L1 d K _ k
              unfold dfa_Validate_L1
              split
              · refine ⟨by omega, by omega, fun _ => ?_⟩
                split
                · rename_i hrow
                  refine LoopWP.scan (ix d.Next (k : Int)).length (fun i => 0 ≤ ix (ix d.Next (k : Int)) i ∧ ix (ix d.Next (k : Int)) i < d.Final.length) ?_
                  intro i X2 hi hJ hX2
                  show dfa_Validate_L2 d k _ K _ i
                  unfold dfa_Validate_L2
                  split
                  · refine ⟨by omega, by omega, ?_⟩
                    split
                    · rw [daC4 (by omega) (by omega) fun D => by have := D.el k i (by omega) (by omega); omega] at h; exact h
                    · split
                      · rw [daC4 (by omega) (by omega) fun D => by have := D.el k i (by omega) (by omega); omega] at h; exact h
                      · exact hX2 (by omega) ⟨by omega, by omega⟩
                  · exact hX (by omega) ⟨hrow, fun i hi => hJ i (by omega)⟩
                · rename_i hrow
                  rw [daC4 (by omega) (by omega) fun D => hrow (D.row k (by omega))] at h; exact h
              · have D : Da d := ⟨by omega, by omega, by omega, by omega, by omega, by omega, by omega, fun j hj => (hI j (by omega)).1, fun j i hj hi => (hI j (by omega)).2 i hi⟩
                rw [daC0.2 (DV_iff.2 D)] at h; exact h
        · rw [daC4 (by omega) (by omega) fun D => by have := D.nx; omega] at h; exact h
theorem ref07_Validate_ok {d : DFA} {K : Int → Prop} (h : K (daC d)) : ref07_Validate d K := by
  unfold ref07_Validate ref01_MayLetters
  refine fun _ => ?_
  split
  · split
    · simp only [if_true]
      split
      · rw [daC, if_neg (by omega), if_pos (by omega)] at h; exact h
      · split
        · rw [daC4 (by omega) (by omega) fun D => by have := D.f1; omega] at h; exact h
        · refine fun _ => ?_
          split
          · rename_i hnx
            split
            · rw [daC4 (by omega) (by omega) fun D => by have := D.s0; omega] at h; exact h
            · split
              · rw [daC4 (by omega) (by omega) fun D => by have := D.s1; omega] at h; exact h
              · refine LoopWP.scan d.Next.length (fun j => ((ix d.Next j).length : Int) = d.Letters ∧ ∀ i : Nat, i < (ix d.Next j).length → 0 ≤ ix (ix d.Next j) i ∧ ix (ix d.Next j) i < d.Final.length) ?_
                intro k X hk hI hX
                show ref07_Validate_L1 d K _ k
                unfold ref07_Validate_L1
                split
                · refine ⟨by omega, by omega, fun _ => ?_⟩
                  split
                  · rename_i hrow
                    refine LoopWP.scan (ix d.Next (k : Int)).length (fun i => 0 ≤ ix (ix d.Next (k : Int)) i ∧ ix (ix d.Next (k : Int)) i < d.Final.length) ?_
                    intro i X2 hi hJ hX2
                    show ref07_Validate_L2 d k _ K _ i
                    unfold ref07_Validate_L2
                    split
                    · refine ⟨by omega, by omega, ?_⟩
                      split
                      · rw [daC4 (by omega) (by omega) fun D => by have := D.el k i (by omega) (by omega); omega] at h; exact h
                      · split
                        · rw [daC4 (by omega) (by omega) fun D => by have := D.el k i (by omega) (by omega); omega] at h; exact h
                        · exact hX2 (by omega) ⟨by omega, by omega⟩
                    · exact hX (by omega) ⟨hrow, fun i hi => hJ i (by omega)⟩
                  · rename_i hrow
                    rw [daC4 (by omega) (by omega) fun D => hrow (D.row k (by omega))] at h; exact h
                · have D : Da d := ⟨by omega, by omega, by omega, by omega, by omega, by omega, by omega, fun j hj => (hI j (by omega)).1, fun j i hj hi => (hI j (by omega)).2 i hi⟩
                  rw [daC0.2 (DV_iff.2 D)] at h; exact h
          · rw [daC4 (by omega) (by omega) fun D => by have := D.nx; omega] at h; exact h
    · simp only [Bool.false_eq_true, if_false]
      rw [daC, if_pos (by omega)] at h; exact h
  · simp only [Bool.false_eq_true, if_false]
    rw [daC, if_pos (by omega)] at h; exact h
/-- The state that a word leads to. -/
def rn (d : DFA) (q : Int) (w : Str) : Int := w.foldl (fun q b => ix (ix d.Next q) ((b.toNat : Int) - 97)) q
theorem rn_take {d : DFA} {q : Int} {w : Str} {k : Nat} (h : k < w.length) : rn d q (w.take (k + 1)) = ix (ix d.Next (rn d q (w.take k))) (((ix w (k : Int)).toNat : Int) - 97) := by
  rw [take_ix h]; simp [rn, List.foldl_append]
theorem rn_in {d : DFA} (D : Da d) {q : Int} (h0 : 0 ≤ q) (h1 : q < d.Final.length) {w : Str} (hw : WV w d.Letters = true) : ∀ k, k ≤ w.length → 0 ≤ rn d q (w.take k) ∧ rn d q (w.take k) < d.Final.length
  | 0, _ => by simpa [rn] using ⟨h0, h1⟩
  | k + 1, hk => by
    have ih := rn_in D h0 h1 hw k (by omega)
    have hb := (WV_iff.1 hw).2.2.2 k (by omega)
    rw [rn_take (by omega)]
    exact (D.at_ ih.1 ih.2 (by omega) hb.2).2
theorem wrapU8 {b : UInt8} (h : 97 ≤ b.toNat) : IntKind.u8.wrap ((b.toNat : Int) - 97) = (b.toNat : Int) - 97 := by
  have := b.toNat_lt
  rw [IntKind.wrap_u8]; omega
theorem dfa_Run_ok {d : DFA} {q : Int} {w : Str} {K : Int → Prop} (h : K (if DV d = true ∧ 0 ≤ q ∧ q < d.Final.length ∧ WV w d.Letters = true then rn d q w else -1)) : dfa_Run d q w K := by
  unfold dfa_Run
  refine dfa_Validate_ok ?_
  split
  · rename_i h0
    have hv := daC0.1 h0
    have D := DV_iff.1 hv
    split
    · rw [if_neg (by omega)] at h; exact h
    · refine fun _ => ?_
      split
      · rw [if_neg (by omega)] at h; exact h
      · refine word_Valid_ok ?_
        split
        · rename_i hw
          rw [if_pos ⟨hv, by omega, by omega, hw⟩] at h
          refine fun _ => LoopWP.foldR w.length (fun k (s : Int) => s = rn d q (w.take k)) 0 (Nat.zero_le _) (by simp [rn]) ?_
          rintro k s X hk rfl hX
          show dfa_Run_L1 d w K _ (rn d q (w.take k)) k
          unfold dfa_Run_L1
          split
          · have hkl : k < w.length := by omega
            have hb := (WV_iff.1 hw).2.2.2 k hkl
            have hin := rn_in D (q := q) (by omega) (by omega) hw k hk
            have hr := (D.at_ hin.1 hin.2 (x := ((ix w (k : Int)).toNat : Int) - 97) (by omega) hb.2).1
            have hn := D.nx
            rw [wrapU8 hb.1]
            exact ⟨hin.1, by omega, by omega, by omega, by omega, by omega, hX _ hkl (rn_take hkl).symm⟩
          · have : k = w.length := by omega
            subst this
            rw [List.take_length]; exact h
        · rename_i hw
          rw [if_neg (fun hh => hw hh.2.2.2)] at h; exact h
  · rename_i h0
    rw [if_neg (fun hh => h0 (daC0.2 hh.1))] at h; exact h
end Sg
