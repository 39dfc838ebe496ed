/- The list of the first numbers. -/
import Derived.Test.YtjegmdkaiddokaaFns
import Derived.Test.YtjegmdkaiddokaaGen
namespace Sg
open Go
theorem ref03_Discrete_ok {n : Int} {K : List Int → Prop} (h0 : 0 ≤ n) (h1 : n ≤ 1099511627776) (h : K (iota n.toNat)) : ref03_Discrete n K := by
  unfold ref03_Discrete
  refine ⟨h0, h1, ?_⟩
  refine LoopWP.to n.toNat (fun s : Nat × List Int => s.1) (fun s => s.1 ≤ n.toNat ∧ s.2.length = n.toNat ∧ ∀ j : Nat, j < s.1 → ix s.2 j = j) ⟨by simp, by simp, fun j hj => by simp at hj⟩ (fun s h => h.1) ?_
  rintro ⟨k, p⟩ X ⟨hk, hl, hI⟩ hX
  simp only at hk hl hI
  show ref03_Discrete_L1 n K _ k p
  unfold ref03_Discrete_L1
  simp only [List.length_replicate]
  split
  · refine ⟨by omega, by omega, ⟨by omega, by omega⟩, hX (k + 1, _) ⟨by simp only; omega, by simpa using hl, fun j hj => ?_⟩ rfl⟩
    simp only at hj ⊢
    rw [ix_st _ (by omega) (by omega) (by omega)]
    split
    · omega
    · exact hI j (by omega)
  · have : p = iota n.toNat := list_ix (by simpa using hl) fun j hj => by rw [hI j (by omega), ix_iota (by omega)]
    rw [← this] at h; exact h
end Sg
