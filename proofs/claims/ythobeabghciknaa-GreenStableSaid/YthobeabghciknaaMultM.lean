/- Tables: what generates, and the tables of subsets. Plain laws. -/
import Derived.Test.YthobeabghciknaaMultL
namespace Sg
open Go
set_option linter.unusedVariables false
set_option linter.unusedSimpArgs false

theorem msort_asc {p : Int → Prop} {l : List Int} (hn : l.Nodup) (hp : ∀ x, x ∈ l ↔ p x) : AscOf p (msort l) := by
  have hm : ∀ x, x ∈ msort l ↔ x ∈ l := fun x => List.mem_mergeSort
  refine ⟨?_, fun x => (hm x).trans (hp x)⟩
  have h1 : (msort l).Pairwise fun x y => decide (x ≤ y) = true := List.pairwise_mergeSort (fun a b c h1 h2 => by simp at h1 h2 ⊢; omega) (fun a b => by simp; omega) l
  have h2 : (msort l).Nodup := (List.mergeSort_perm l _).nodup_iff.2 hn
  refine (List.pairwise_and_iff.2 ⟨h1, h2⟩).imp fun hh => ?_
  have := hh.1
  simp only [decide_eq_true_eq] at this
  have := hh.2
  omega
end Sg
