/- Green's relations of the opposite table. Plain law. -/
import Derived.Test.YthobeabghciknaaGreenG
import Derived.Test.YthobeabghciknaaMultN
namespace Sg
open Go
set_option linter.unusedVariables false
set_option linter.unusedSimpArgs false
theorem leR_opp {t : List (List Int)} {x y : Nat} (hy : y < t.length) : leR (opp t) x y ↔ leL t x y := by
  unfold leR leL
  rw [opp_len]
  constructor
  · rintro (h | ⟨s, hs, h⟩)
    · exact .inl h
    · exact .inr ⟨s, hs, by rw [← mu_opp hy hs]; exact h⟩
  · rintro (h | ⟨s, hs, h⟩)
    · exact .inl h
    · exact .inr ⟨s, hs, by rw [mu_opp hy hs]; exact h⟩
theorem leL_opp {t : List (List Int)} {x y : Nat} (hy : y < t.length) : leL (opp t) x y ↔ leR t x y := by
  unfold leR leL
  rw [opp_len]
  constructor
  · rintro (h | ⟨s, hs, h⟩)
    · exact .inl h
    · exact .inr ⟨s, hs, by rw [← mu_opp hs hy]; exact h⟩
  · rintro (h | ⟨s, hs, h⟩)
    · exact .inl h
    · exact .inr ⟨s, hs, by rw [mu_opp hs hy]; exact h⟩
/-- One may go up on the right first. -/
theorem le_swap' {t : List (List Int)} (hv : VT t = true) {x y z : Nat} (hx : x < t.length) (hz : z < t.length) (h : leR t x y) (k : leL t y z) : ∃ w : Nat, w < t.length ∧ leL t x w ∧ leR t w z := by
  have T := SH.tb (VT.sh hv)
  rcases h with rfl | ⟨s, hs, h⟩
  · exact ⟨z, hz, k, .inl rfl⟩
  · rcases k with rfl | ⟨u, hu, k⟩
    · exact ⟨x, hx, .inl rfl, .inr ⟨s, hs, h⟩⟩
    · obtain ⟨w, hw, e⟩ := mu_cl T hz hs
      refine ⟨w, hw, .inr ⟨u, hu, ?_⟩, .inr ⟨s, hs, e⟩⟩
      rw [← e, ← VT.as hv u z s hu hz hs, k, h]
theorem leJ_iff' {t : List (List Int)} (hv : VT t = true) {x y : Nat} (hx : x < t.length) (hy : y < t.length) : leJ t x y ↔ ∃ z : Nat, z < t.length ∧ leR t z y ∧ leL t x z := by
  constructor
  · rintro ⟨z, hz, h1, h2⟩
    obtain ⟨w, hw, w1, w2⟩ := le_swap' hv hx hy h2 h1
    exact ⟨w, hw, w2, w1⟩
  · rintro ⟨z, hz, h1, h2⟩
    obtain ⟨w, hw, w1, w2⟩ := le_swap hv hx hy h2 h1
    exact ⟨w, hw, w2, w1⟩
theorem leJ_opp {t : List (List Int)} (hv : VT t = true) {x y : Nat} (hx : x < t.length) (hy : y < t.length) : leJ (opp t) x y ↔ leJ t x y := by
  rw [leJ_iff' hv hx hy]
  unfold leJ
  rw [opp_len]
  constructor
  · rintro ⟨z, hz, h1, h2⟩; exact ⟨z, hz, (leL_opp hy).1 h1, (leR_opp hz).1 h2⟩
  · rintro ⟨z, hz, h1, h2⟩; exact ⟨z, hz, (leL_opp hy).2 h1, (leR_opp hz).2 h2⟩
theorem law15_GreenMirrors_ok (t : List (List Int)) : law15_GreenMirrors t (fun b => b = true) := by
  unfold law15_GreenMirrors
  refine law15_small_ok ?_
  by_cases hs0 : (decide ((t.length : Int) ≤ 16) && VT t) = true
  · rw [if_pos hs0]
    simp only [Bool.and_eq_true, decide_eq_true_eq] at hs0
    obtain ⟨h16, hv⟩ := hs0
    refine green_Classes_ok (fun _ g hg => ?_) fun h => absurd hv h
    refine mult_Opposite_ok ?_
    rw [if_pos hv]
    have hvo : VT (opp t) = true := opp_VT hv
    refine green_Classes_ok (fun _ o ho => ?_) fun h => absurd hvo h
    have e1 : g.R = o.L := hg.R.uniq (by have := ho.L; rwa [opp_len] at this) fun i j hi hj => by unfold eR eL; rw [leL_opp hj, leL_opp hi]
    have e2 : g.L = o.R := hg.L.uniq (by have := ho.R; rwa [opp_len] at this) fun i j hi hj => by unfold eR eL; rw [leR_opp hj, leR_opp hi]
    have e3 : g.J = o.J := hg.J.uniq (by have := ho.J; rwa [opp_len] at this) fun i j hi hj => by unfold eJ; rw [leJ_opp hv hi hj, leJ_opp hv hj hi]
    have e4 : g.H = o.H := hg.H.uniq (by have := ho.H; rwa [opp_len] at this) fun i j hi hj => by
      unfold eR eL
      rw [leL_opp hj, leL_opp hi, leR_opp hj, leR_opp hi]
      exact ⟨fun h => ⟨h.2, h.1⟩, fun h => ⟨h.2, h.1⟩⟩
    have hc := hg.cnt
    rw [e3] at hc
    have e5 := hc.uniq ho.cnt
    have hJl := hg.J.len
    refine fun _ _ => ?_
    rw [if_pos (by omega)]
    refine fun _ _ => ?_
    rw [if_pos e5]
    refine LoopWP.scan g.Below.length (fun _ => True) ?_
    rintro k X hk _ hX
    show law15_GreenMirrors_L1 g o _ X k
    unfold law15_GreenMirrors_L1
    split
    · have hkc : k < g.Below.length := by omega
      have r1 := hg.row k hkc
      have r2 := ho.row k (by omega)
      refine ⟨by omega, by omega, fun _ => ?_⟩
      refine LoopWP.scan g.Below.length (fun _ => True) ?_
      rintro m X2 hm _ hX2
      show law15_GreenMirrors_L2 g o k X _ X2 m
      unfold law15_GreenMirrors_L2
      split
      · have hmc : m < g.Below.length := by omega
        obtain ⟨x, hx, ex⟩ := hg.cls hkc
        obtain ⟨y, hy, ey⟩ := hg.cls hmc
        have b1 := hg.bel x y hx hy
        have b2 := ho.bel x y (by rw [opp_len]; exact hx) (by rw [opp_len]; exact hy)
        rw [← e3] at b2
        rw [ex, ey] at b1 b2
        rw [leJ_opp hv hx hy] at b2
        refine ⟨by omega, by omega, fun _ => ?_⟩
        rw [if_neg (by omega)]
        refine ⟨by omega, by omega, by omega, by omega, ?_⟩
        split
        · rename_i hb
          refine ⟨by omega, by omega, by omega, by omega, ?_⟩
          rw [if_pos (b2.2 (b1.1 hb))]
          exact hX2 (by omega) trivial
        · rename_i hb
          refine ⟨by omega, by omega, by omega, by omega, ?_⟩
          rw [if_neg fun h => hb (b1.2 (b2.1 h))]
          exact hX2 (by omega) trivial
      · exact hX (by omega) trivial
    · refine ref03_Same_ok ?_
      rw [decide_eq_true e1, if_pos rfl]
      refine ref03_Same_ok ?_
      rw [decide_eq_true e2, if_pos rfl]
      refine ref03_Same_ok ?_
      rw [decide_eq_true e3, if_pos rfl]
      refine ref03_Same_ok ?_
      rw [decide_eq_true e4, if_pos rfl]
      exact law15_awake_ok rfl
  · rw [if_neg hs0]
    exact law15_awake_ok rfl
end Sg
