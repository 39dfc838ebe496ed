/- Tables: what generates, and the tables of subsets. Plain laws. -/
import Derived.Test.YtolobiljalelgaaMultL
namespace Sg
open Go

theorem msort_asc {p : Int → Prop} {l : List Int} (hn : l.Nodup) (hp : ∀ x, x ∈ l ↔ p x) : AscOf p (msort l) := by
  have hm : ∀ x, x ∈ msort l ↔ x ∈ l := fun x => List.mem_mergeSort
  refine ⟨?_, fun x => (hm x).trans (hp x)⟩
  have h1 : (msort l).Pairwise fun x y => decide (x ≤ y) = true := List.pairwise_mergeSort (fun a b c h1 h2 => by simp at h1 h2 ⊢; omega) (fun a b => by simp; omega) l
  have h2 : (msort l).Nodup := (List.mergeSort_perm l _).nodup_iff.2 hn
  refine (List.pairwise_and_iff.2 ⟨h1, h2⟩).imp fun hh => ?_
  have := hh.1
  simp only [decide_eq_true_eq] at this
  have := hh.2
  omega
theorem mult_Generated_ok {t : List (List Int)} {gens : List Int} {K : List Int → Prop} (h1 : (inB t.length gens && VT t) = true → ∀ l, AscOf (Clo t gens) l → K l) (h2 : ¬ (inB t.length gens && VT t) = true → K []) : mult_Generated t gens K := by
  unfold mult_Generated
  refine mult_has_ok ?_
  split
  · rename_i hb
    have h := h1 hb
    simp only [Bool.and_eq_true] at hb
    have hv := hb.2
    have hin := inB_mem.1 hb.1
    have T := SH.tb (VT.sh hv)
    have n4 := T.n4
    refine fun _ => ⟨by omega, by omega, fun _ => ?_⟩
    refine LoopWP.fold gens.length (fun k (s : List Int × List Int × List Bool) => CL t t.length s.2.1 s.1 s.2.2 ∧ (∀ x ∈ s.2.1, x ∈ gens) ∧ s.2.1.length ≤ s.1.length ∧ ∀ q : Nat, q < k → ix gens (q : Int) ∈ s.1) ⟨⟨⟨List.nodup_nil, by simp, by simp, fun x hx => by simp [ix_replicate _ _ hx], by simp⟩, by simp, by simp⟩, by simp, Nat.le_refl _, fun q hq => absurd hq (Nat.not_lt_zero _)⟩ ?_
    rintro k ⟨L0, G, mk⟩ X hk ⟨hC, hsub, hGL, hcov⟩ hX
    simp only at hC hsub hGL hcov
    show mult_Generated_L1 t gens K _ k L0 G mk
    unfold mult_Generated_L1
    have hml := hC.mi.len
    have hLl := nodup_le hC.mi.nd hC.mi.inn
    split
    · have hkl : k < gens.length := by omega
      have hgk := hin _ (ix_mem (xs := gens) (i := (k : Int)) (by omega) (by omega))
      refine ⟨by omega, by omega, hgk.1, by omega, ?_⟩
      split
      · rename_i hm
        refine hX (L0, G, mk) hkl ⟨hC, hsub, hGL, fun q hq => ?_⟩
        by_cases hqk : q = k
        · subst hqk
          obtain ⟨m, hm'⟩ := Int.eq_ofNat_of_zero_le hgk.1
          rw [hm'] at hm ⊢
          exact (hC.mi.mkd m (by omega)).1 hm
        · exact hcov q (by omega)
      · rename_i hm
        have hGin : ∀ y ∈ G ++ [ix gens (k : Int)], 0 ≤ y ∧ y < (t.length : Int) := fun y hy => by
          rcases List.mem_append.1 hy with hy | hy
          · exact hC.mi.inn y (hC.gen y hy)
          · rw [List.mem_singleton] at hy; subst hy; exact hgk
        have hS := GS.start hC (g := ix gens (k : Int)) hgk.1 hgk.2 hm
        have hSl := nodup_le hS.mi.nd hS.mi.inn
        have hgl2 : (G ++ [ix gens (k : Int)]).length ≤ t.length + 1 := by simp; omega
        refine ⟨by simp; omega, hgk.1, by omega, hgk.1, by omega, by simp at hSl ⊢; omega, ?_⟩
        refine LoopWP.to t.length (fun s : Nat × List Int × List Bool => s.1) (fun s => GS t t.length G (ix gens (k : Int)) L0 s.1 s.2.1 s.2.2) hS (fun s hs => Nat.le_trans hs.le (nodup_le hs.mi.nd hs.mi.inn)) ?_
        rintro ⟨i, L, mk2⟩ X2 hI hX2
        simp only at hI
        show mult_Generated_L2 t gens k L0 G _ K _ i L mk2
        unfold mult_Generated_L2
        have hLn := nodup_le hI.mi.nd hI.mi.inn
        split
        · rename_i hil
          have hil' : i < L.length := by omega
          have hxin := hI.mi.inn _ (ix_mem (xs := L) (i := (i : Int)) (by omega) hil)
          have hxc := hI.mi.clo _ (ix_mem (xs := L) (i := (i : Int)) (by omega) hil)
          have r1 := T.row _ hxin.1 hxin.2
          have hm2 := hI.mi.len
          split
          · rename_i hib
            have m1 := T.mu hxin.1 hxin.2 hgk.1 hgk.2
            have hc := Clo.mul hxc (.gen (x := ix gens (k : Int)) (by simp))
            have done : ∀ (L2 : List Int) (mk3 : List Bool), GS t t.length G (ix gens (k : Int)) L0 i L2 mk3 → (∃ r, L2 = L ++ r) → mu t (ix L (i : Int)) (ix gens (k : Int)) ∈ L2 → GS t t.length G (ix gens (k : Int)) L0 (i + 1) L2 mk3 := fun L2 mk3 h2 ⟨r, hr⟩ hmem => by
              have hlen : L.length ≤ L2.length := by rw [hr]; simp
              refine ⟨h2.mi, h2.pre, by omega, fun a ha hal => ?_, fun a ha hal => ?_⟩
              · by_cases hai : a = i
                · subst hai
                  have : ix L2 (a : Int) = ix L (a : Int) := by rw [hr]; exact ix_app hil'
                  rw [this]; exact hmem
                · exact h2.old a (by omega) hal
              · by_cases hai : a = i
                · subst hai; omega
                · exact h2.new a (by omega) hal
            unfold mu at m1
            refine ⟨by omega, by omega, hxin.1, hxin.2, hgk.1, by omega, m1.1, by omega, ?_⟩
            split
            · rename_i hin
              first
                | exact hX2 (i + 1, L, mk2) (done L mk2 hI ⟨[], by simp⟩ (hI.mem m1.1 m1.2 hin)) rfl
                | exact ⟨⟨by omega, by omega⟩, hX2 (i + 1, L, mk2) (done L mk2 hI ⟨[], by simp⟩ (hI.mem m1.1 m1.2 hin)) rfl⟩
            · rename_i hout
              have hg := hI.grow m1.1 m1.2 hc hout
              have hgl := nodup_le hg.mi.nd hg.mi.inn
              exact ⟨m1.1, by omega, by simp at hgl ⊢; omega, ⟨by omega, by omega⟩, hX2 (i + 1, _, _) (done _ _ hg ⟨_, rfl⟩ (by simp [mu])) rfl⟩
          · rename_i hib
            refine LoopWP.to (G ++ [ix gens (k : Int)]).length (fun s : Nat × List Int × List Bool => s.1) (fun s => s.1 ≤ (G ++ [ix gens (k : Int)]).length ∧ GS t t.length G (ix gens (k : Int)) L0 i s.2.1 s.2.2 ∧ (∃ r, s.2.1 = L ++ r) ∧ ∀ q : Nat, q < s.1 → mu t (ix L (i : Int)) (ix (G ++ [ix gens (k : Int)]) q) ∈ s.2.1)
              ⟨Nat.zero_le _, hI, ⟨[], by simp⟩, fun q hq => absurd hq (Nat.not_lt_zero _)⟩ (fun s hs => hs.1) ?_
            rintro ⟨q, L3, mk3⟩ X3 ⟨hq, hJ, ⟨r, hr⟩, hdone⟩ hX3
            simp only at hq hJ hr hdone
            show mult_Generated_L3 t gens k G i _ K _ q L3 mk3
            unfold mult_Generated_L3
            have hl3 : L.length ≤ L3.length := by rw [hr]; simp
            have e3 : ix L3 (i : Int) = ix L (i : Int) := by rw [hr]; exact ix_app hil'
            have hm3 := hJ.mi.len
            split
            · rename_i hql
              have hyin := hGin _ (ix_mem (xs := G ++ [ix gens (k : Int)]) (i := (q : Int)) (by omega) hql)
              have hyc := Clo.gen (t := t) (ix_mem (xs := G ++ [ix gens (k : Int)]) (i := (q : Int)) (by omega) hql)
              rw [e3]
              have m1 := T.mu hxin.1 hxin.2 hyin.1 hyin.2
              have hc := Clo.mul hxc hyc
              have step : ∀ (L4 : List Int) (r2 : List Int), L4 = L3 ++ r2 → mu t (ix L (i : Int)) (ix (G ++ [ix gens (k : Int)]) q) ∈ L4 → ∀ q2 : Nat, q2 < q + 1 → mu t (ix L (i : Int)) (ix (G ++ [ix gens (k : Int)]) q2) ∈ L4 := fun L4 r2 h4 hm q2 hq2 => by
                by_cases hqq : q2 = q
                · subst hqq; exact hm
                · rw [h4]; exact List.mem_append_left _ (hdone q2 (by omega))
              unfold mu at m1
              refine ⟨by omega, by omega, by omega, by omega, hxin.1, hxin.2, hyin.1, by omega, m1.1, by omega, ?_⟩
              split
              · rename_i hin
                exact hX3 (q + 1, L3, mk3) ⟨by simp only; omega, hJ, ⟨r, hr⟩, step L3 [] (by simp) (hJ.mem m1.1 m1.2 hin)⟩ rfl
              · rename_i hout
                have hg := hJ.grow m1.1 m1.2 hc hout
                have hgl := nodup_le hg.mi.nd hg.mi.inn
                exact ⟨m1.1, by omega, by simp at hgl ⊢; omega, hX3 (q + 1, _, _) ⟨by simp only; omega, hg, ⟨_, by rw [hr, List.append_assoc]⟩, step _ [_] rfl (by simp [mu])⟩ rfl⟩
            · have hqe : q = (G ++ [ix gens (k : Int)]).length := by omega
              refine ⟨⟨by omega, by omega⟩, hX2 (i + 1, L3, mk3) ⟨hJ.mi, hJ.pre, by simp only; omega, fun a ha hal => ?_, fun a ha hal y hy => ?_⟩ rfl⟩
              · simp only at ha
                exact hJ.old a (by omega) hal
              · simp only at ha
                by_cases hai : a = i
                · subst hai
                  obtain ⟨q2, hq2, rfl⟩ := mem_ix.1 hy
                  rw [e3]
                  exact hdone q2 (by omega)
                · exact hJ.new a (by omega) hal y hy
        · have hie : i = L.length := by have := hI.le; omega
          subst hie
          obtain ⟨r, hr⟩ := hI.pre
          refine hX (L, G ++ [ix gens (k : Int)], mk2) hkl ⟨hI.fin hC, fun x hx => ?_, ?_, fun q hq => ?_⟩
          · rcases List.mem_append.1 hx with hx | hx
            · exact hsub x hx
            · rw [List.mem_singleton] at hx; subst hx; exact ix_mem (by omega) (by omega)
          · simp only; rw [hr]; simp; omega
          · simp only
            by_cases hqk : q = k
            · subst hqk; rw [hr]; simp
            · rw [hr]; exact List.mem_append_left _ (hcov q (by omega))
    · have hkl : k = gens.length := by omega
      subst hkl
      refine ⟨by omega, h _ (msort_asc hC.mi.nd fun x => ⟨fun hx => (hC.mi.clo x hx).mono hsub, fun hx => ?_⟩)⟩
      induction hx with
      | gen hg =>
        obtain ⟨q, hq, rfl⟩ := mem_ix.1 hg
        exact hcov q hq
      | mul _ _ i1 i2 => exact (hC.all hv _).2 (.mul ((hC.all hv _).1 i1) ((hC.all hv _).1 i2))
  · rename_i hb; exact h2 hb
end Sg
