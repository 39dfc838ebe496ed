/- Tables: generators chosen one after the other. Plain laws. -/
import Derived.Test.YtolobiljalelgaaMultI
namespace Sg
open Go

/-- A list that is closed under its generators. -/
structure CL (t : List (List Int)) (n : Nat) (G L : List Int) (mk : List Bool) : Prop where
  mi : MI t n G L mk
  gen : ∀ h ∈ G, h ∈ L
  rt : ∀ x ∈ L, ∀ h ∈ G, mu t x h ∈ L
theorem CL.all {t : List (List Int)} (hv : VT t = true) {G L : List Int} {mk : List Bool} (h : CL t t.length G L mk) (x : Int) : x ∈ L ↔ Clo t G x := by
  have T := SH.tb (VT.sh hv)
  have hG : ∀ y ∈ G, 0 ≤ y ∧ y < (t.length : Int) := fun y hy => h.mi.inn y (h.gen y hy)
  refine ⟨h.mi.clo x, fun hx => ?_⟩
  have mulr : ∀ z, Clo t G z → ∀ y ∈ L, mu t y z ∈ L := fun z hz => by
    induction hz with
    | gen hg => exact fun y hy => h.rt y hy _ hg
    | mul h1 h2 i1 i2 =>
      intro y hy
      rw [← (VT.as hv).all (h.mi.inn y hy) (h1.in_ T hG) (h2.in_ T hG)]
      exact i2 _ (i1 y hy)
  induction hx with
  | gen hg => exact h.gen _ hg
  | mul h1 h2 i1 i2 => exact mulr _ h2 _ i1
/-- A generator is being added: what the list holds when i elements are done. -/
structure GS (t : List (List Int)) (n : Nat) (G : List Int) (g : Int) (L0 : List Int) (i : Nat) (L : List Int) (mk : List Bool) : Prop where
  mi : MI t n (G ++ [g]) L mk
  pre : ∃ r, L = L0 ++ g :: r
  le : i ≤ L.length
  old : ∀ a : Nat, a < i → a < L0.length → mu t (ix L a) g ∈ L
  new : ∀ a : Nat, a < i → L0.length ≤ a → ∀ h ∈ G ++ [g], mu t (ix L a) h ∈ L
theorem GS.start {t : List (List Int)} {n : Nat} {G : List Int} {g : Int} {L0 : List Int} {mk : List Bool} (h : CL t n G L0 mk) (h0 : 0 ≤ g) (h1 : g < n) (hg : ¬ ix mk g = true) : GS t n G g L0 0 (L0 ++ [g]) (st mk g true) :=
  ⟨(h.mi.mono fun x hx => List.mem_append_left _ hx).add h0 h1 (.gen (by simp)) hg, ⟨[], rfl⟩, Nat.zero_le _, fun a ha => absurd ha (Nat.not_lt_zero _), fun a ha => absurd ha (Nat.not_lt_zero _)⟩
theorem ix_app {α : Type} [Inhabited α] {L r : List α} {a : Nat} (h : a < L.length) : ix (L ++ r) (a : Int) = ix L (a : Int) := by
  rw [ix_lt (by simp; omega), ix_lt h, List.getElem_append_left]
theorem GS.fin {t : List (List Int)} {n : Nat} {G : List Int} {g : Int} {L0 L : List Int} {mk0 mk : List Bool} (h0 : CL t n G L0 mk0) (h : GS t n G g L0 L.length L mk) : CL t n (G ++ [g]) L mk := by
  obtain ⟨r, hr⟩ := h.pre
  have sub : ∀ x ∈ L0, x ∈ L := fun x hx => by rw [hr]; simp [hx]
  refine ⟨h.mi, fun y hy => ?_, fun x hx y hy => ?_⟩
  · rcases List.mem_append.1 hy with hy | hy
    · exact sub y (h0.gen y hy)
    · rw [List.mem_singleton] at hy; subst hy; rw [hr]; simp
  · obtain ⟨a, ha, rfl⟩ := mem_ix.1 hx
    by_cases hal : a < L0.length
    · rcases List.mem_append.1 hy with hy | hy
      · have e1 : ix L (a : Int) = ix L0 (a : Int) := by rw [hr]; exact ix_app hal
        rw [e1]
        exact sub _ (h0.rt _ (ix_mem (by omega) (by omega)) y hy)
      · rw [List.mem_singleton] at hy; subst hy; exact h.old a ha hal
    · exact h.new a ha (by omega) y hy
theorem GS.grow {t : List (List Int)} {n : Nat} {G : List Int} {g : Int} {L0 : List Int} {i : Nat} {L : List Int} {mk : List Bool} (h : GS t n G g L0 i L mk) {x : Int} (x0 : 0 ≤ x) (x1 : x < n) (hc : Clo t (G ++ [g]) x) (hx : ¬ ix mk x = true) : GS t n G g L0 i (L ++ [x]) (st mk x true) := by
  obtain ⟨r, hr⟩ := h.pre
  have hle := h.le
  refine ⟨h.mi.add x0 x1 hc hx, ⟨r ++ [x], by rw [hr]; simp⟩, by simp; omega, fun a ha hal => ?_, fun a ha hal y hy => ?_⟩
  · rw [ix_app (by omega)]; exact List.mem_append_left _ (h.old a ha hal)
  · rw [ix_app (by omega)]; exact List.mem_append_left _ (h.new a ha hal y hy)
theorem GS.mem {t : List (List Int)} {n : Nat} {G : List Int} {g : Int} {L0 : List Int} {i : Nat} {L : List Int} {mk : List Bool} (h : GS t n G g L0 i L mk) {x : Int} (x0 : 0 ≤ x) (x1 : x < n) (hx : ix mk x = true) : x ∈ L := by
  obtain ⟨m, rfl⟩ := Int.eq_ofNat_of_zero_le x0
  exact (h.mi.mkd m (by omega)).1 hx
open Classical in
/-- The greedy choice. -/
noncomputable def gre (t : List (List Int)) : Nat → List Int
  | 0 => []
  | k + 1 => if Clo t (gre t k) k then gre t k else gre t k ++ [(k : Int)]
theorem gre_in {t : List (List Int)} : ∀ k, ∀ x ∈ gre t k, 0 ≤ x ∧ x < (k : Int)
  | 0, x, hx => by simp [gre] at hx
  | k + 1, x, hx => by
    unfold gre at hx
    split at hx
    · have := gre_in k x hx; omega
    · rcases List.mem_append.1 hx with hx | hx
      · have := gre_in k x hx; omega
      · rw [List.mem_singleton] at hx; omega
theorem gre_len {t : List (List Int)} : ∀ k, (gre t k).length ≤ k
  | 0 => by simp [gre]
  | k + 1 => by
    have := gre_len (t := t) k
    unfold gre
    split
    · omega
    · simp; omega
theorem mult_Generators_ok {t : List (List Int)} {K : List Int → Prop} (h : K (if VT t = true then gre t t.length else [])) : mult_Generators t K := by
  unfold mult_Generators
  refine mult_valid_ok ?_
  split
  · rename_i hv
    rw [if_pos hv] at h
    have T := SH.tb (VT.sh hv)
    have n4 := T.n4
    refine fun _ => ⟨by omega, by omega, ?_⟩
    refine LoopWP.fold t.length (fun k (s : List Int × List Int × List Bool) => s.2.1 = gre t k ∧ CL t t.length s.2.1 s.1 s.2.2) ⟨rfl, ⟨List.nodup_nil, by simp, by simp, fun x hx => by simp [ix_replicate _ _ hx], by simp⟩, by simp, by simp⟩ ?_
    rintro k ⟨L0, G, mk⟩ X hk ⟨hG, hC⟩ hX
    simp only at hG hC
    show mult_Generators_L1 t K _ k L0 G mk
    unfold mult_Generators_L1
    have hml := hC.mi.len
    have hGl : G.length ≤ k := by rw [hG]; exact gre_len k
    have hLl := nodup_le hC.mi.nd hC.mi.inn
    split
    · have hkl : k < t.length := by omega
      refine ⟨by omega, by omega, ?_⟩
      have hiff : ix mk (k : Int) = true ↔ Clo t G k := (hC.mi.mkd k hkl).trans (hC.all hv k)
      split
      · rename_i hm
        refine hX (L0, G, mk) hkl ⟨?_, hC⟩
        simp only
        rw [gre, ← hG, if_pos (hiff.1 hm)]
      · rename_i hm
        have hGk : gre t (k + 1) = G ++ [(k : Int)] := by rw [gre, ← hG, if_neg (fun hh => hm (hiff.2 hh))]
        have hGin : ∀ y ∈ G ++ [(k : Int)], 0 ≤ y ∧ y < (t.length : Int) := fun y hy => by
          rw [← hGk] at hy; have := gre_in (k + 1) y hy; omega
        have hS := GS.start hC (g := (k : Int)) (by omega) (by omega) hm
        have hSl := nodup_le hS.mi.nd hS.mi.inn
        have hgl2 : (G ++ [(k : Int)]).length ≤ k + 1 := by simp; omega
        refine ⟨by simp; omega, by omega, by omega, by omega, by omega, by simp at hSl ⊢; omega, ?_⟩
        refine LoopWP.to t.length (fun s : Nat × List Int × List Bool => s.1) (fun s => GS t t.length G (k : Int) L0 s.1 s.2.1 s.2.2) hS (fun s hs => Nat.le_trans hs.le (nodup_le hs.mi.nd hs.mi.inn)) ?_
        rintro ⟨i, L, mk2⟩ X2 hI hX2
        simp only at hI
        show mult_Generators_L2 t k L0 G _ K _ i L mk2
        unfold mult_Generators_L2
        have hLn := nodup_le hI.mi.nd hI.mi.inn
        split
        · rename_i hil
          have hil' : i < L.length := by omega
          have hxin := hI.mi.inn _ (ix_mem (xs := L) (i := (i : Int)) (by omega) hil)
          have hxc := hI.mi.clo _ (ix_mem (xs := L) (i := (i : Int)) (by omega) hil)
          have r1 := T.row _ hxin.1 hxin.2
          have hm2 := hI.mi.len
          split
          · rename_i hib
            have m1 := T.mu hxin.1 hxin.2 (y := (k : Int)) (by omega) (by omega)
            have hc := Clo.mul hxc (.gen (x := (k : Int)) (by simp))
            have done : ∀ (L2 : List Int) (mk3 : List Bool), GS t t.length G (k : Int) L0 i L2 mk3 → (∃ r, L2 = L ++ r) → mu t (ix L (i : Int)) k ∈ L2 → GS t t.length G (k : Int) L0 (i + 1) L2 mk3 := fun L2 mk3 h2 ⟨r, hr⟩ hmem => by
              have hlen : L.length ≤ L2.length := by rw [hr]; simp
              refine ⟨h2.mi, h2.pre, by omega, fun a ha hal => ?_, fun a ha hal => ?_⟩
              · by_cases hai : a = i
                · subst hai
                  have : ix L2 (a : Int) = ix L (a : Int) := by rw [hr]; exact ix_app hil'
                  rw [this]; exact hmem
                · exact h2.old a (by omega) hal
              · by_cases hai : a = i
                · subst hai; omega
                · exact h2.new a (by omega) hal
            unfold mu at m1
            refine ⟨by omega, by omega, hxin.1, hxin.2, by omega, by omega, m1.1, by omega, ?_⟩
            split
            · rename_i hin
              first
                | exact hX2 (i + 1, L, mk2) (done L mk2 hI ⟨[], by simp⟩ (hI.mem m1.1 m1.2 hin)) rfl
                | exact ⟨⟨by omega, by omega⟩, hX2 (i + 1, L, mk2) (done L mk2 hI ⟨[], by simp⟩ (hI.mem m1.1 m1.2 hin)) rfl⟩
            · rename_i hout
              have hg := hI.grow m1.1 m1.2 hc hout
              have hgl := nodup_le hg.mi.nd hg.mi.inn
              exact ⟨m1.1, by omega, by simp at hgl ⊢; omega, ⟨by omega, by omega⟩, hX2 (i + 1, _, _) (done _ _ hg ⟨_, rfl⟩ (by simp [mu])) rfl⟩
          · rename_i hib
            refine LoopWP.to (G ++ [(k : Int)]).length (fun s : Nat × List Int × List Bool => s.1) (fun s => s.1 ≤ (G ++ [(k : Int)]).length ∧ GS t t.length G (k : Int) L0 i s.2.1 s.2.2 ∧ (∃ r, s.2.1 = L ++ r) ∧ ∀ q : Nat, q < s.1 → mu t (ix L (i : Int)) (ix (G ++ [(k : Int)]) q) ∈ s.2.1)
              ⟨Nat.zero_le _, hI, ⟨[], by simp⟩, fun q hq => absurd hq (Nat.not_lt_zero _)⟩ (fun s hs => hs.1) ?_
            rintro ⟨q, L3, mk3⟩ X3 ⟨hq, hJ, ⟨r, hr⟩, hdone⟩ hX3
            simp only at hq hJ hr hdone
            show mult_Generators_L3 t k G i _ K _ q L3 mk3
            unfold mult_Generators_L3
            have hl3 : L.length ≤ L3.length := by rw [hr]; simp
            have e3 : ix L3 (i : Int) = ix L (i : Int) := by rw [hr]; exact ix_app hil'
            have hm3 := hJ.mi.len
            split
            · rename_i hql
              have hyin := hGin _ (ix_mem (xs := G ++ [(k : Int)]) (i := (q : Int)) (by omega) hql)
              have hyc := Clo.gen (t := t) (ix_mem (xs := G ++ [(k : Int)]) (i := (q : Int)) (by omega) hql)
              rw [e3]
              have m1 := T.mu hxin.1 hxin.2 hyin.1 hyin.2
              have hc := Clo.mul hxc hyc
              have step : ∀ (L4 : List Int) (r2 : List Int), L4 = L3 ++ r2 → mu t (ix L (i : Int)) (ix (G ++ [(k : Int)]) q) ∈ L4 → ∀ q2 : Nat, q2 < q + 1 → mu t (ix L (i : Int)) (ix (G ++ [(k : Int)]) q2) ∈ L4 := fun L4 r2 h4 hm q2 hq2 => by
                by_cases hqq : q2 = q
                · subst hqq; exact hm
                · rw [h4]; exact List.mem_append_left _ (hdone q2 (by omega))
              unfold mu at m1
              refine ⟨by omega, by omega, by omega, by omega, hxin.1, hxin.2, hyin.1, by omega, m1.1, by omega, ?_⟩
              split
              · rename_i hin
                exact hX3 (q + 1, L3, mk3) ⟨by simp only; omega, hJ, ⟨r, hr⟩, step L3 [] (by simp) (hJ.mem m1.1 m1.2 hin)⟩ rfl
              · rename_i hout
                have hg := hJ.grow m1.1 m1.2 hc hout
                have hgl := nodup_le hg.mi.nd hg.mi.inn
                exact ⟨m1.1, by omega, by simp at hgl ⊢; omega, hX3 (q + 1, _, _) ⟨by simp only; omega, hg, ⟨_, by rw [hr, List.append_assoc]⟩, step _ [_] rfl (by simp [mu])⟩ rfl⟩
            · have hqe : q = (G ++ [(k : Int)]).length := by omega
              refine ⟨⟨by omega, by omega⟩, hX2 (i + 1, L3, mk3) ⟨hJ.mi, hJ.pre, by simp only; omega, fun a ha hal => ?_, fun a ha hal y hy => ?_⟩ rfl⟩
              · simp only at ha
                exact hJ.old a (by omega) hal
              · simp only at ha
                by_cases hai : a = i
                · subst hai
                  obtain ⟨q2, hq2, rfl⟩ := mem_ix.1 hy
                  rw [e3]
                  exact hdone q2 (by omega)
                · exact hJ.new a (by omega) hal y hy
        · have hie : i = L.length := by have := hI.le; omega
          subst hie
          exact hX (L, G ++ [(k : Int)], mk2) hkl ⟨hGk.symm, hI.fin hC⟩
    · have : k = t.length := by omega
      subst this
      rw [hG]; exact h
  · rename_i hv
    rw [if_neg hv] at h; exact h
theorem ref14_Generators_ok {t : List (List Int)} (hv : VT t = true) {K : List Int → Prop} (h : K (gre t t.length)) : ref14_Generators t K := by
  unfold ref14_Generators
  have T := SH.tb (VT.sh hv)
  have n4 := T.n4
  refine fun _ => LoopWP.fold t.length (fun k (G : List Int) => G = gre t k) rfl ?_
  rintro k G X hk rfl hX
  show ref14_Generators_L1 t K _ k _
  unfold ref14_Generators_L1
  have hGl := gre_len (t := t) k
  split
  · have hkl : k < t.length := by omega
    refine ref14_Generated_ok (VT.sh hv) (inB_mem.2 fun y hy => by have := gre_in k y hy; omega) fun l hl => ?_
    refine LoopWP.foldR l.length (fun j (b : Bool) => b = true ↔ ∃ i : Nat, i < j ∧ ix l i = k) 0 (Nat.zero_le _) ⟨(fun hh => by cases hh), fun ⟨i, hi, _⟩ => absurd hi (Nat.not_lt_zero _)⟩ ?_
    intro j b X2 hj hJ hX2
    show ref14_Generators_L2 k (gre t k) _ l K _ b j
    unfold ref14_Generators_L2
    split
    · have hjl : j < l.length := by omega
      refine ⟨by omega, by omega, ?_⟩
      split
      · rename_i hb
        obtain ⟨i, hi, he⟩ := hJ.1 hb
        exact hX2 true hjl ⟨fun _ => ⟨i, by omega, he⟩, fun _ => rfl⟩
      · rename_i hb
        split
        · rename_i he; exact hX2 true hjl ⟨fun _ => ⟨j, by omega, he.symm⟩, fun _ => rfl⟩
        · rename_i he
          refine hX2 false hjl ⟨(fun hh => by cases hh), fun ⟨i, hi, hh⟩ => absurd (hJ.2 ⟨i, ?_, hh⟩) hb⟩
          by_cases hij : i = j
          · subst hij; exact absurd hh.symm he
          · omega
    · have hmem : b = true ↔ Clo t (gre t k) k := hJ.trans ⟨fun ⟨i, hi, he⟩ => (hl.2 _).1 (he ▸ ix_mem (by omega) (by omega)), fun hc => by
        obtain ⟨i, hi, he⟩ := mem_ix.1 ((hl.2 _).2 hc)
        exact ⟨i, by omega, he⟩⟩
      split
      · rename_i hb
        refine hX _ hkl ?_
        rw [gre, if_pos (hmem.1 hb)]
      · rename_i hb
        refine ⟨by simp; omega, hX _ hkl ?_⟩
        rw [gre, if_neg (fun hc => hb (hmem.2 hc))]
  · have : k = t.length := by omega
    subst this; exact h
theorem law14_MultBasis_ok (t : List (List Int)) : law14_MultBasis t (fun b => b = true) := by
  unfold law14_MultBasis
  refine ref14_Shape_ok ?_
  split
  · refine fun _ => ?_
    split
    · exact law14_awake_ok rfl
    · refine mult_Generators_ok (mult_Indecomposable_ok (mult_Center_ok (mult_Commutative_ok (ref14_Valid_ok ?_))))
      by_cases hv : VT t = true
      · simp only [if_pos hv]
        refine ref14_Generators_ok hv (ref03_Same_ok ?_)
        rw [if_pos (by simp)]
        refine ref14_Indecomposable_ok (VT.sh hv) (ref03_Same_ok ?_)
        rw [if_pos (by simp)]
        refine ref14_Center_ok (VT.sh hv) (ref03_Same_ok ?_)
        rw [if_pos (by simp [cenF, hv])]
        refine fun _ => ?_
        by_cases hl : (cenF t).length = t.length
        · rw [if_pos (by omega), if_pos (by simp [hv, hl])]; exact law14_awake_ok rfl
        · rw [if_neg (by omega), if_neg (by simp [hl])]; exact law14_awake_ok rfl
      · simp only [if_neg hv]
        have hC : cenF t = [] := by rw [cenF, if_neg hv]
        rw [hC]
        simp only [List.length_nil]
        have hf : VT t = false := by simpa using hv
        simp [hf]
        intros
        exact law14_awake_ok rfl
  · rename_i hs
    have hv : ¬ VT t = true := fun hv => hs (shC0.2 (VT.sh hv))
    refine mult_Generators_ok (mult_Indecomposable_ok (mult_Center_ok (mult_Commutative_ok (ref14_Valid_ok ?_))))
    simp only [if_neg hv]
    have hC : cenF t = [] := by rw [cenF, if_neg hv]
    rw [hC]
    simp only [List.length_nil]
    have hf : VT t = false := by simpa using hv
    simp [hf]
    intros
    exact law14_awake_ok rfl
end Sg
