/- Transformations: image, rank and kernel. Plain law. -/
import Derived.Test.YtjegmdkaiddokaaTransI
import Derived.Test.YtjegmdkaiddokaaPPart
namespace Sg
open Go
theorem trans_Kernel_ok {f : List Int} {K : List Int → Prop} (h1 : VF f = true → ∀ p, IsCan p f → K p) (h2 : ¬ VF f = true → K []) : trans_Kernel f K := by
  unfold trans_Kernel
  refine trans_Valid_ok ?_
  split
  · rename_i hf
    exact partition_Canonical_ok (by have := (VF_iff.1 hf).2.1; omega) (h1 hf)
  · rename_i hf; exact h2 hf
theorem cnt_rank {f p : List Int} (hf : VF f = true) (hp : IsCan p f) {c : Int} (hc : IsCnt p c) : ((imL f).length : Int) = c := by
  have hn := (imL_asc hf).nodup
  have hm := (imL_asc hf).2
  have h0 := hc.1
  have key1 : ∀ x ∈ imL f, ∃ j : Nat, j < f.length ∧ ix f (j : Int) = x := fun x hx => mem_ix.1 ((hm x).1 hx)
  classical
  let φ : Int → Int := fun x => if h : ∃ j : Nat, j < f.length ∧ ix f (j : Int) = x then ix p ((Classical.choose h : Nat) : Int) else 0
  have hφ : ∀ x ∈ imL f, ∃ j : Nat, j < f.length ∧ ix f (j : Int) = x ∧ φ x = ix p (j : Int) := fun x hx => by
    have h := key1 x hx
    exact ⟨Classical.choose h, (Classical.choose_spec h).1, (Classical.choose_spec h).2, by simp only [φ]; rw [dif_pos h]⟩
  let ψ : Int → Int := fun v => if h : ∃ j : Nat, j < p.length ∧ ix p (j : Int) = v then ix f ((Classical.choose h : Nat) : Int) else 0
  have hψ : ∀ v ∈ iota c.toNat, ∃ j : Nat, j < p.length ∧ ix p (j : Int) = v ∧ ψ v = ix f (j : Int) := fun v hv => by
    have h := (hc.2 v).1 (by have := mem_iota.1 hv; omega)
    exact ⟨Classical.choose h, (Classical.choose_spec h).1, (Classical.choose_spec h).2, by simp only [ψ]; rw [dif_pos h]⟩
  have hlen := hp.len
  have a1 : (imL f).length ≤ c.toNat := by
    have := nodup_sub (l := (imL f).map φ) (l' := iota c.toNat) ?_ ?_
    · simpa using this
    · refine List.pairwise_map.2 (hn.imp_of_mem fun {a b} ha hb hab hh => hab ?_)
      obtain ⟨i, hi, ei, fi⟩ := hφ a ha
      obtain ⟨j, hj, ej, fj⟩ := hφ b hb
      rw [← ei, ← ej]
      exact (hp.ker i j hi hj).1 (by rw [← fi, ← fj]; exact hh)
    · intro v hv
      obtain ⟨a, ha, rfl⟩ := List.mem_map.1 hv
      obtain ⟨i, hi, ei, fi⟩ := hφ a ha
      have := (hc.2 (φ a)).2 ⟨i, by omega, fi.symm⟩
      exact mem_iota.2 (by omega)
  have a2 : c.toNat ≤ (imL f).length := by
    have := nodup_sub (l := (iota c.toNat).map ψ) (l' := imL f) ?_ ?_
    · simpa using this
    · refine List.pairwise_map.2 ((iota_asc c.toNat).imp_of_mem fun {a b} ha hb hab hh => ?_)
      obtain ⟨i, hi, ei, fi⟩ := hψ a ha
      obtain ⟨j, hj, ej, fj⟩ := hψ b hb
      have := (hp.ker i j (by omega) (by omega)).2 (by rw [← fi, ← fj]; exact hh)
      omega
    · intro v hv
      obtain ⟨a, ha, rfl⟩ := List.mem_map.1 hv
      obtain ⟨i, hi, ei, fi⟩ := hψ a ha
      exact (hm _).2 (mem_ix.2 ⟨i, by omega, fi.symm⟩)
  omega
theorem law11_TransShapes_ok (f : List Int) : law11_TransShapes f (fun b => b = true) := by
  unfold law11_TransShapes
  refine trans_Image_ok (trans_Kernel_ok (fun hf p hp => ?_) fun hf => ?_)
  · refine trans_Rank_ok (ref11_Valid_ok ?_)
    have hb := (VF_iff.1 hf).2.1
    rw [if_pos hf, if_pos hf, if_pos hf]
    refine ref11_Image_ok hf (ref03_Same_ok ?_)
    rw [decide_eq_true rfl, if_pos rfl]
    refine ref03_Canonical_ok (by omega) fun q hq => ref03_Same_ok ?_
    rw [decide_eq_true (hp.uniq hq rfl fun i j _ _ => Iff.rfl), if_pos rfl]
    intro _
    rw [if_pos rfl]
    refine ref03_Count_ok hp.can (by have := hp.len; omega) fun c hc => ?_
    rw [if_pos (cnt_rank hf hp hc)]
    exact law11_awake_ok rfl
  · refine trans_Rank_ok (ref11_Valid_ok ?_)
    rw [if_neg hf, if_neg hf, if_neg hf]
    refine fun _ => ?_
    rw [if_pos (show (([] : List Int).length : Int) = 0 from rfl)]
    refine fun _ => ?_
    first
      | (rw [if_pos (show (([] : List Int).length : Int) = 0 from rfl), if_pos rfl]; exact law11_awake_ok rfl)
      | (rw [if_pos rfl]; exact law11_awake_ok rfl)
end Sg
