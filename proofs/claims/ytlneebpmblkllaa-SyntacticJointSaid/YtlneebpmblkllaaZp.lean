/- -/
import Derived.Test.YtlneebpmblkllaaFns
import Derived.Test.YtlneebpmblkllaaGen
import Derived.Test.YtlneebpmblkllaaBits
import Derived.Test.YtlneebpmblkllaaPStr
import Derived.Test.YtlneebpmblkllaaPMap
set_option linter.unusedVariables false
set_option linter.unusedSimpArgs false
namespace Sg
open Go
theorem J22 {a b : List Int} {K : Bool → Prop} (h : K (decide (a = b))) : J15 a b K := by
 unfold J15
 intro ha hb
 split
 ·rename_i hl
  have hl' : a.length = b.length := ω
  refine LoopWP.to a.length (fun k : Nat => k) (fun k => k ≤ a.length ∧ ∀ j : Nat, j < k → ix a j = ix b j) ⟨ω, fun j hj => by omega⟩ (fun s h => h.1) ?_
  rintro k X ⟨hk, hI⟩ hX
  show J3a a b K X k
  unfold J3a
  split
  ·refine ⟨ω, ω, ω, ω, ?_⟩
   split
   ·rename_i he
    refine hX (k + 1) ⟨ω, fun j hj => ?_⟩ rfl
    by_cases hjk : j = k
    ·subst hjk; exact he
    ·exact hI j ω
   ·rename_i hne
    have : a ≠ b := fun h => hne (by rw [h])
    simpa [this] using h
  ·have : a = b := J0b hl' fun j hj => hI j ω
   simpa [this] using h
 ·rename_i hl
  have : a ≠ b := fun h => hl (by rw [h])
  simpa [this] using h
theorem J4X {a b : List (List Int)} {K : Bool → Prop} (h : K (decide (a = b))) : J0T a b K := by
 unfold J0T
 intro ha hb
 split
 ·rename_i hl
  have hl' : a.length = b.length := ω
  refine LoopWP.to a.length (fun k : Nat => k) (fun k => k ≤ a.length ∧ ∀ j : Nat, j < k → ix a j = ix b j) ⟨ω, fun j hj => by omega⟩ (fun s h => h.1) ?_
  rintro k X ⟨hk, hI⟩ hX
  show J1x a b K X k
  unfold J1x
  split
  ·refine ⟨ω, ω, ω, ω, J22 ?_⟩
   by_cases he : ix a (k : Int) = ix b (k : Int)
   ·rw [if_pos (by simpa using he)]
    refine hX (k + 1) ⟨ω, fun j hj => ?_⟩ rfl
    by_cases hjk : j = k
    ·subst hjk; exact he
    ·exact hI j ω
   ·rw [if_neg (by simpa using he)]
    have : a ≠ b := fun h => he (by rw [h])
    simpa [this] using h
  ·have : a = b := J0b hl' fun j hj => hI j ω
   simpa [this] using h
 ·rename_i hl
  have : a ≠ b := fun h => hl (by rw [h])
  simpa [this] using h
end Sg
namespace Sg
open Go
theorem J1D {n : Int} {K : List Int → Prop} (h0 : 0 ≤ n) (h1 : n ≤ 1099511627776) (h : K (iota n.toNat)) : J0E n K := by
 unfold J0E
 refine ⟨h0, h1, ?_⟩
 refine LoopWP.to n.toNat (fun s : Nat × List Int => s.1) (fun s => s.1 ≤ n.toNat ∧ s.2.length = n.toNat ∧ ∀ j : Nat, j < s.1 → ix s.2 j = j) ⟨by simp, by simp, fun j hj => by simp at hj⟩ (fun s h => h.1) ?_
 rintro ⟨k, p⟩ X ⟨hk, hl, hI⟩ hX
 simp only at hk hl hI
 show J1z n K _ k p
 unfold J1z
 simp only [List.length_replicate]
 split
 ·refine ⟨ω, ω, ⟨ω, ω⟩, hX (k + 1, _) ⟨by simp only; omega, by simpa using hl, fun j hj => ?_⟩ rfl⟩
  simp only at hj ⊢
  rw [ix_st _ ω ω ω]
  split
  ·omega
  ·exact hI j ω
 ·have : p = iota n.toNat := J0b (by simpa using hl) fun j hj => by rw [hI j ω, J4d ω]
  rw [← this] at h; exact h
end Sg
namespace Sg
open Go
theorem J4U {n : Int} {K : List Int → Prop} (h : K (if 1 ≤ n ∧ n ≤ 32 then iota n.toNat else [])) : J0V n K := by
 unfold J0V
 split
 ·rw [if_neg ω] at h; exact h
 ·split
  ·rw [if_neg ω] at h; exact h
  ·rw [if_pos ω] at h
   have := J1D (n := n) ω ω h
   exact this
def VF (f : List Int) : Bool := decide (1 ≤ f.length) && decide (f.length ≤ 32) && f.all fun x => decide (0 ≤ x) && decide (x < f.length)
theorem J1v {f : List Int} : VF f = true ↔ 1 ≤ f.length ∧ f.length ≤ 32 ∧ ∀ j : Nat, j < f.length → 0 ≤ ix f j ∧ ix f j < f.length := by
 have : (∀ x ∈ f, 0 ≤ x ∧ x < (f.length : Int)) ↔ ∀ j : Nat, j < f.length → 0 ≤ ix f j ∧ ix f j < f.length := J0w (p := fun x => 0 ≤ x ∧ x < (f.length : Int))
 simp only [VF, Bool.and_eq_true, decide_eq_true_eq, List.all_eq_true, ← this, and_assoc]
theorem VF.at_ {f : List Int} (h : VF f = true) {i : Int} (h0 : 0 ≤ i) (h1 : i < f.length) : 0 ≤ ix f i ∧ ix f i < f.length := by
 obtain ⟨j, rfl⟩ := Int.eq_ofNat_of_zero_le h0
 exact (J1v.1 h).2.2 j ω
theorem VF.len {f : List Int} (h : VF f = true) : 1 ≤ f.length ∧ f.length ≤ 32 := ⟨(J1v.1 h).1, (J1v.1 h).2.1⟩
theorem J5n {f : List Int} (h : ¬ (1 ≤ f.length ∧ f.length ≤ 32 ∧ ∀ j : Nat, j < f.length → 0 ≤ ix f j ∧ ix f j < f.length)) : VF f = false := by
 rw [Bool.eq_false_iff, ne_eq, J1v]; exact h
theorem J3W {f : List Int} {K : Bool → Prop} (h : K (VF f)) : J2y f K := by
 unfold J2y
 intro hm
 split
 ·rw [J5n ω] at h; exact h
 ·split
  ·rw [J5n ω] at h; exact h
  ·refine LoopWP.to f.length (fun k : Nat => k) (fun k => k ≤ f.length ∧ ∀ j : Nat, j < k → 0 ≤ ix f j ∧ ix f j < f.length) ⟨ω, fun j hj => by omega⟩ (fun s h => h.1) ?_
   rintro k X ⟨hk, hI⟩ hX
   show J2W f K X k
   unfold J2W
   split
   ·refine ⟨ω, ω, ?_⟩
    split
    ·rw [J5n (fun hv => by have := hv.2.2 k ω; omega)] at h; exact h
    ·split
     ·rw [J5n (fun hv => by have := hv.2.2 k ω; omega)] at h; exact h
     ·refine hX (k + 1) ⟨ω, fun j hj => ?_⟩ rfl
      by_cases hjk : j = k
      ·subst hjk; omega
      ·exact hI j ω
   ·rw [J1v.2 ⟨ω, ω, fun j hj => hI j ω⟩] at h; exact h
theorem J2O {f : List Int} {K : Bool → Prop} (h : K (VF f)) : J1B f K := J3W h
def compF (f g : List Int) : List Int := f.map fun x => ix g x
@[simp] theorem J1L (f g : List Int) : (compF f g).length = f.length := by simp [compF]
theorem J25 {f g : List Int} {i : Int} (h0 : 0 ≤ i) (h1 : i < f.length) : ix (compF f g) i = ix g (ix f i) := J4F _ h0 h1
theorem J1R {f g : List Int} {K : List Int → Prop} (hl : f.length ≤ 1099511627776) (hg : ∀ j : Nat, j < f.length → 0 ≤ ix f j ∧ ix f j < g.length) (h : K (compF f g)) : J0P f g K := by
 unfold J0P
 intro hm
 refine ⟨ω, ω, ?_⟩
 refine LoopWP.to f.length (fun s : Nat × List Int => s.1) (fun s => s.1 ≤ f.length ∧ s.2.length = f.length ∧ ∀ j : Nat, j < s.1 → ix s.2 j = ix g (ix f j)) ⟨by simp, by simp, fun j hj => by simp at hj⟩ (fun s h => h.1) ?_
 rintro ⟨k, p⟩ X ⟨hk, hpl, hI⟩ hX
 simp only at hk hpl hI
 show J1P f g K _ k p
 unfold J1P
 split
 ·have := hg k ω
  refine ⟨ω, ω, ω, ω, ω, ω, hX (k + 1, _) ⟨by simp only; omega, by simpa using hpl, fun j hj => ?_⟩ rfl⟩
  simp only at hj ⊢
  rw [ix_st _ ω ω ω]
  split
  ·rename_i he; rw [he]
  ·exact hI j ω
 ·have : p = compF f g := J0b (by simpa using hpl) fun j hj => by rw [hI j ω, J25 ω ω]
  rw [← this] at h; exact h
def pairB (f g : List Int) : Bool := VF f && VF g && decide (f.length = g.length)
def compT (f g : List Int) : List Int := if pairB f g = true then compF f g else []
theorem J3I {f g : List Int} : pairB f g = true ↔ VF f = true ∧ VF g = true ∧ f.length = g.length := by simp [pairB, and_assoc]
theorem J5d {f g : List Int} {K : List Int → Prop} (h : K (compT f g)) : J1g f g K := by
 unfold J1g
 intro hm hm'
 split
 ·rename_i hl
  refine J2O ?_
  split
  ·rename_i hf
   refine J2O ?_
   split
   ·rename_i hg
    have hp : pairB f g = true := J3I.2 ⟨hf, hg, ω⟩
    rw [compT, if_pos hp] at h
    have := J1R (f := f) (g := g) (K := K) (by have := hf |> VF.len; omega) (fun j hj => by have := (J1v.1 hf).2.2 j hj; omega) h
    exact this hm
   ·rename_i hg
    rw [compT, if_neg (by rw [J3I]; exact fun h => hg h.2.1)] at h; exact h
  ·rename_i hf
   rw [compT, if_neg (by rw [J3I]; exact fun h => hf h.1)] at h; exact h
 ·rename_i hl
  rw [compT, if_neg (by rw [J3I]; exact fun h => hl (by rw [h.2.2]))] at h; exact h
end Sg
namespace Sg
open Go
theorem J7Y {f g : List Int} (hf : VF f = true) (hg : VF g = true) (hl : f.length = g.length) : VF (compF f g) = true := by
 rw [J1v]
 have := VF.len hf
 refine ⟨by simp; omega, by simp; omega, fun j hj => ?_⟩
 simp only [J1L] at hj ⊢
 have h1 := (J1v.1 hf).2.2 j hj
 rw [J25 ω ω]
 have h2 := VF.at_ hg h1.1 ω
 omega
def itr (f : List Int) : Nat → Int → Int
 | 0, x => x
 | k + 1, x => itr f k (ix f x)
theorem J50 (f : List Int) (a b : Nat) (x : Int) : itr f (a + b) x = itr f b (itr f a x) := by
 induction a generalizing x with
 | zero => simp [itr]
 | succ a ih => rw [show a + 1 + b = (a + b) + 1 from by omega]; exact ih (ix f x)
theorem Ja1 {f : List Int} (hf : VF f = true) (k : Nat) {x : Int} (h0 : 0 ≤ x) (h1 : x < f.length) : 0 ≤ itr f k x ∧ itr f k x < f.length := by
 induction k generalizing x with
 | zero => exact ⟨h0, h1⟩
 | succ k ih => have := VF.at_ hf h0 h1; exact ih this.1 this.2
def pw (f : List Int) (k : Nat) : List Int := (iota f.length).map (itr f k)
@[simp] theorem Ja5 (f : List Int) (k : Nat) : (pw f k).length = f.length := by simp [pw]
end Sg
namespace Sg
open Go
theorem J5X {w : Str} {n : Int} {K : Bool → Prop} (h : K (WV w n)) : J2p w n K := by
 unfold J2p J0v
 by_cases h1 : 1 ≤ n
 ·rw [if_pos h1]
  by_cases h6 : n ≤ 6
  ·rw [if_pos h6]
   simp only [if_true]
   intro _
   split
   ·rw [J4q ω] at h; exact h
   ·refine LoopWP.to w.length (fun k : Nat => k) (fun k => k ≤ w.length ∧ ∀ j : Nat, j < k → 97 ≤ (ix w j).toNat ∧ ((ix w j).toNat : Int) - 97 < n) ⟨ω, fun j hj => by omega⟩ (fun s h => h.1) ?_
    rintro k X ⟨hk, hI⟩ hX
    show J2U w n K X k
    unfold J2U
    split
    ·refine ⟨ω, ω, ?_⟩
     split
     ·rw [J4q (fun hv => by have := hv.2.2.2 k ω; omega)] at h; exact h
     ·rename_i hlo
      refine ⟨ω, ω, ?_⟩
      rw [wrapL ω]
      split
      ·rw [J4q (fun hv => by have := hv.2.2.2 k ω; omega)] at h; exact h
      ·refine hX (k + 1) ⟨ω, fun j hj => ?_⟩ rfl
       by_cases hjk : j = k
       ·subst hjk; exact ⟨ω, ω⟩
       ·exact hI j ω
    ·rw [J81.2 ⟨h1, h6, ω, fun j hj => hI j ω⟩] at h; exact h
  ·rw [if_neg h6]
   rw [J4q ω] at h
   simpa using h
 ·rw [if_neg h1]
  rw [J4q ω] at h
  simpa using h
end Sg
namespace Sg
open Go
def GV (gens : List (List Int)) : Bool := decide (1 ≤ gens.length) && decide (gens.length ≤ 6) && gens.all fun f => VF f && decide (f.length = (ix gens 0).length)
theorem J0e {gens : List (List Int)} : GV gens = true ↔ 1 ≤ gens.length ∧ gens.length ≤ 6 ∧ ∀ j : Nat, j < gens.length → VF (ix gens j) = true ∧ (ix gens j).length = (ix gens 0).length := by
 have : (∀ x ∈ gens, VF x = true ∧ x.length = (ix gens 0).length) ↔ ∀ j : Nat, j < gens.length → VF (ix gens j) = true ∧ (ix gens j).length = (ix gens 0).length := J0w (p := fun x : List Int => VF x = true ∧ x.length = (ix gens 0).length)
 simp only [GV, Bool.and_eq_true, decide_eq_true_eq, List.all_eq_true, ← this, and_assoc]
theorem J4w {gens : List (List Int)} (h : ¬ (1 ≤ gens.length ∧ gens.length ≤ 6 ∧ ∀ j : Nat, j < gens.length → VF (ix gens j) = true ∧ (ix gens j).length = (ix gens 0).length)) : GV gens = false := by
 rw [Bool.eq_false_iff, ne_eq, J0e]; exact h
theorem J5j {gens : List (List Int)} {K : Bool → Prop} (h : K (GV gens)) : J1q gens K := by
 unfold J1q
 intro _
 split
 ·rw [J4w ω] at h; exact h
 ·split
  ·rw [J4w ω] at h; exact h
  ·refine LoopWP.to gens.length (fun k : Nat => k) (fun k => k ≤ gens.length ∧ ∀ j : Nat, j < k → VF (ix gens j) = true ∧ (ix gens j).length = (ix gens 0).length) ⟨ω, fun j hj => by omega⟩ (fun s h => h.1) ?_
   rintro k X ⟨hk, hI⟩ hX
   show J1W gens K X k
   unfold J1W
   split
   ·refine ⟨ω, ω, J3W ?_⟩
    split
    ·rename_i hv
     refine fun _ => ⟨ω, ω, fun _ => ?_⟩
     split
     ·refine hX (k + 1) ⟨ω, fun j hj => ?_⟩ rfl
      by_cases hjk : j = k
      ·subst hjk; exact ⟨hv, ω⟩
      ·exact hI j ω
     ·rw [J4w (fun hg => by have := (hg.2.2 k ω).2; omega)] at h; exact h
    ·rename_i hv
     rw [J4w (fun hg => hv (hg.2.2 k ω).1)] at h; exact h
   ·rw [J0e.2 ⟨ω, ω, fun j hj => hI j ω⟩] at h; exact h
def stepW (gens : List (List Int)) (f : List Int) (b : UInt8) : List Int := compF f (ix gens ((b.toNat : Int) - 97))
def runW (gens : List (List Int)) (f : List Int) (w : Str) : List Int := w.foldl (stepW gens) f
theorem J77 {gens : List (List Int)} {f : List Int} {w : Str} {k : Nat} (h : k < w.length) : runW gens f (w.take (k + 1)) = stepW gens (runW gens f (w.take k)) (ix w k) := by
 rw [J2A h, runW, runW, List.foldl_append]; rfl
theorem GV.gen {gens : List (List Int)} (hg : GV gens = true) {w : Str} (hw : WV w gens.length = true) {k : Nat} (hk : k < w.length) :
  97 ≤ (ix w k).toNat ∧ ((ix w k).toNat : Int) - 97 < gens.length ∧ VF (ix gens (((ix w k).toNat : Int) - 97)) = true ∧ (ix gens (((ix w k).toNat : Int) - 97)).length = (ix gens 0).length := by
 have h1 := (J81.1 hw).2.2.2 k hk
 obtain ⟨m, hm⟩ := Int.eq_ofNat_of_zero_le (by omega : 0 ≤ ((ix w k).toNat : Int) - 97)
 have h2 := (J0e.1 hg).2.2 m ω
 rw [← hm] at h2
 exact ⟨h1.1, h1.2, h2⟩
theorem J7e {n : Nat} (h1 : 1 ≤ n) (h2 : n ≤ 32) : VF (iota n) = true := by
 rw [J1v]
 refine ⟨by simpa using h1, by simpa using h2, fun j hj => ?_⟩
 rw [J47] at hj
 rw [J4d hj, J47]; omega
theorem J9O {gens : List (List Int)} (hg : GV gens = true) {w : Str} (hw : WV w gens.length = true) {f : List Int} (hf : VF f = true) (hl : f.length = (ix gens 0).length) (k : Nat) (hk : k ≤ w.length) :
    VF (runW gens f (w.take k)) = true ∧ (runW gens f (w.take k)).length = (ix gens 0).length := by
  induction k with
  | zero => simpa [runW] using ⟨hf, hl⟩
  | succ k ih =>
    obtain ⟨h1, h2⟩ := ih ω
    obtain ⟨_, _, h3, h4⟩ := GV.gen hg hw (k := k) ω
    rw [J77 ω, stepW]
    exact ⟨J7Y h1 h3 (h2.trans h4.symm), by rw [J1L]; exact h2⟩
def ofWord (gens : List (List Int)) (w : Str) : List Int := runW gens (iota (ix gens 0).length) w
theorem GV.len0 {gens : List (List Int)} (hg : GV gens = true) : 1 ≤ (ix gens 0).length ∧ (ix gens 0).length ≤ 32 := by
 have h := (J0e.1 hg)
 exact VF.len (h.2.2 0 ω).1
theorem J5G {gens : List (List Int)} (hg : GV gens = true) {w : Str} (hw : WV w gens.length = true) {K : List Int → Prop} (h : K (ofWord gens w)) : J1M gens w K := by
 unfold J1M
 intro _
 refine J5X ?_
 rw [if_pos hw]
 have hgl := (J0e.1 hg).1
 have h0 := GV.len0 hg
 refine ⟨ω, ω, fun _ => J1D ω ω ?_⟩
 rw [show ((ix gens 0).length : Int).toNat = (ix gens 0).length from rfl]
 refine LoopWP.to w.length (fun s : List Int × Nat => s.2) (fun s => s.2 ≤ w.length ∧ s.1 = runW gens (iota (ix gens 0).length) (w.take s.2)) ⟨by simp, by simp [runW]⟩ (fun s h => h.1) ?_
 rintro ⟨f, k⟩ X ⟨hk, hI⟩ hX
 simp only at hk hI
 show J2l gens w K _ f k
 unfold J2l
 intro _
 split
 ·obtain ⟨g1, g2, g3, g4⟩ := GV.gen hg hw (k := k) ω
  obtain ⟨r1, r2⟩ := J9O hg hw (J7e h0.1 h0.2) (by simp) k ω
  rw [wrapL g1]
  refine ⟨ω, ω, ω, g2, J1R (by have := VF.len r1; rw [← hI] at this; omega) (fun j hj => ?_) (hX (_, k + 1) ⟨by simp only; omega, ?_⟩ rfl)⟩
  ·rw [hI] at hj ⊢
   have := (J1v.1 r1).2.2 j hj
   omega
  ·simp only
   rw [J77 ω, stepW, hI]
 ·have : k = w.length := ω
  rw [hI, this, List.take_length]; exact h
theorem J7l {a b c : List Int} (ha : ∀ j : Nat, j < a.length → 0 ≤ ix a j ∧ ix a j < b.length) : compF (compF a b) c = compF a (compF b c) := J0b (by simp) fun j hj => by
 simp only [J1L] at hj
 have := ha j hj
 rw [J25 ω (by simp; omega), J25 ω ω, J25 ω ω, J25 ω ω]
theorem J8c (g : List Int) {n : Nat} (hg : ∀ j : Nat, j < g.length → 0 ≤ ix g j ∧ ix g j < n) : compF g (iota n) = g := J0b (by simp) fun j hj => by
 simp only [J1L] at hj
 have := hg j hj
 rw [J25 ω ω, ix_iota' this.1 this.2]
end Sg
namespace Sg
open Go
theorem u8_lt {a b : UInt8} : a < b ↔ a.toNat < b.toNat := UInt8.lt_iff_toNat_lt
theorem u8_eq {a b : UInt8} (h : a.toNat = b.toNat) : a = b := UInt8.toNat_inj.1 h
theorem J0W {a b : UInt8} {x y : Str} : slt (a :: x) (b :: y) = true ↔ a.toNat < b.toNat ∨ (a = b ∧ slt x y = true) := by
 simp [slt, u8_lt]
theorem J56 : ∀ w : Str, slt w w = false
  | [] => rfl
  | a :: w => by
    rw [Bool.eq_false_iff, ne_eq, J0W, J56 w]
    simp
theorem J5A : ∀ {u v w : Str}, slt u v = true → slt v w = true → slt u w = true
  | _, [], _, h, _ => by simp [slt] at h
  | _, _ :: _, [], _, h => by simp [slt] at h
  | [], _ :: _, _ :: _, _, _ => rfl
  | a :: u, b :: v, c :: w, h, k => by
    rw [J0W] at *
    rcases h with h | ⟨rfl, h⟩
    · rcases k with k | ⟨rfl, k⟩
      · exact .inl ω
      · exact .inl h
    · rcases k with k | ⟨rfl, k⟩
      · exact .inl k
      · exact .inr ⟨rfl, J5A h k⟩
theorem J5v : ∀ {u v : Str}, u.length = v.length → slt u v = true ∨ u = v ∨ slt v u = true
  | [], [], _ => .inr (.inl rfl)
  | a :: u, b :: v, h => by
    simp only [List.length_cons, Nat.add_right_cancel_iff] at h
    rw [J0W, J0W]
    by_cases hab : a.toNat = b.toNat
    · have hab := u8_eq hab
      subst hab
      rcases J5v h with k | rfl | k
      · exact .inl (.inr ⟨rfl, k⟩)
      · exact .inr (.inl rfl)
      · exact .inr (.inr (.inr ⟨rfl, k⟩))
    · by_cases hl : a.toNat < b.toNat
      · exact .inl (.inl hl)
      · exact .inr (.inr (.inl ω))
theorem J3s {p q u v : Str} (hl : p.length = q.length) (h : slt p q = true) : slt (p ++ u) (q ++ v) = true := by
  induction p generalizing q with
  | nil => cases q with
    | nil => simp [slt] at h
    | cons b q => simp at hl
  | cons a p ih => cases q with
    | nil => simp at hl
    | cons b q =>
      simp only [List.length_cons, Nat.add_right_cancel_iff] at hl
      rw [List.cons_append, List.cons_append, J0W]
      rw [J0W] at h
      rcases h with h | ⟨h1, h2⟩
      · exact .inl h
      · exact .inr ⟨h1, ih hl h2⟩
theorem J7n (p : Str) {u v : Str} : slt (p ++ u) (p ++ v) = slt u v := by
  induction p with
  | nil => rfl
  | cons a p ih =>
    rw [Bool.eq_iff_iff, List.cons_append, List.cons_append, J0W, ih]
    simp
def SL (u v : Str) : Prop := u.length < v.length ∨ (u.length = v.length ∧ slt u v = true)
theorem SL.irrefl (w : Str) : ¬ SL w w := fun h => by
 rcases h with h | ⟨_, h⟩
 ·omega
 ·rw [J56] at h; cases h
theorem SL.trans {u v w : Str} (h : SL u v) (k : SL v w) : SL u w := by
 rcases h with h | ⟨h, h2⟩ <;> rcases k with k | ⟨k, k2⟩
 ·exact .inl ω
 ·exact .inl ω
 ·exact .inl ω
 ·exact .inr ⟨ω, J5A h2 k2⟩
theorem SL.total (u v : Str) : SL u v ∨ u = v ∨ SL v u := by
 by_cases h : u.length = v.length
 ·rcases J5v h with k | k | k
  ·exact .inl (.inr ⟨h, k⟩)
  ·exact .inr (.inl k)
  ·exact .inr (.inr (.inr ⟨h.symm, k⟩))
 ·by_cases h2 : u.length < v.length
  ·exact .inl (.inl h2)
  ·exact .inr (.inr (.inl ω))
theorem SL.asymm {u v : Str} (h : SL u v) : ¬ SL v u := fun k => SL.irrefl u (h.trans k)
theorem SL.J6S {u v : Str} (h : SL u v) (w : Str) : SL (u ++ w) (v ++ w) := by
 rcases h with h | ⟨h, k⟩
 ·exact .inl (by simp; omega)
 ·exact .inr ⟨by simp [h], J3s h k⟩
theorem SL.J9b {u v : Str} (h : SL u v) (w : Str) : SL (w ++ u) (w ++ v) := by
 rcases h with h | ⟨h, k⟩
 ·exact .inl (by simp; omega)
 ·exact .inr ⟨by simp [h], by rw [J7n]; exact k⟩
theorem SL.snoc {u v : Str} {a b : UInt8} (h : SL (u ++ [a]) (v ++ [b])) : SL u v ∨ (u = v ∧ a.toNat < b.toNat) := by
 rcases h with h | ⟨h, k⟩
 ·simp only [List.length_append, List.length_singleton] at h
  exact .inl (.inl ω)
 ·simp only [List.length_append, List.length_singleton] at h
  have hl : u.length = v.length := ω
  rcases J5v hl with e | e | e
  ·exact .inl (.inr ⟨hl, e⟩)
  ·subst e
   rw [J7n, J0W] at k
   rcases k with k | ⟨_, k⟩
   ·exact .inr ⟨rfl, k⟩
   ·simp [slt] at k
  ·have := J3s (u := [b]) (v := [a]) hl.symm e
   have := J5A k this
   rw [J56] at this; cases this
theorem SL.J0G {u : Str} {a b : UInt8} (h : a.toNat < b.toNat) : SL (u ++ [a]) (u ++ [b]) := .inr ⟨by simp, by rw [J7n, J0W]; exact .inl h⟩
theorem SL.nil {w : Str} (h : w ≠ []) : SL [] w := .inl (by cases w with
 | nil => exact absurd rfl h
 | cons a w => simp)
theorem J54 (w : Str) : ¬ SL w [] := fun h => by
 rcases h with h | ⟨h, k⟩
 ·simp at h
 ·cases w with
  | nil => simp [slt] at k
  | cons a w => simp at h
theorem SL.wf : WellFounded SL := by
  have key : ∀ n (w : Str), w.length = n → Acc SL w := by
    intro n
    induction n using Nat.strongRecOn with
    | _ n ih =>
      have num : ∀ m (w : Str), w.length = n → w.foldl (fun a b => a * 256 + b.toNat) 0 = m → Acc SL w := by
        intro m
        induction m using Nat.strongRecOn with
        | _ m ih2 =>
          intro w hw hm
          refine ⟨w, fun v hv => ?_⟩
          rcases hv with hv | ⟨hv, hs⟩
          · exact ih v.length ω v rfl
          · refine ih2 _ ?_ v ω rfl
            rw [← hm]
            have lt : ∀ (u v : Str) (a b : Nat), u.length = v.length → (a < b ∨ (a = b ∧ slt u v = true)) → u.foldl (fun a b => a * 256 + b.toNat) a < v.foldl (fun a b => a * 256 + b.toNat) b := by
              intro u
              induction u with
              | nil =>
                intro v a b hl h
                cases v with
                | nil => rcases h with h | ⟨_, h⟩
                         · exact h
                         · simp [slt] at h
                | cons c v => simp at hl
              | cons c u ih3 =>
                intro v a b hl h
                cases v with
                | nil => simp at hl
                | cons d v =>
                  simp only [List.foldl_cons]
                  refine ih3 v _ _ (by simpa using hl) ?_
                  have hc := c.toNat_lt
                  have hd := d.toNat_lt
                  rcases h with h | ⟨rfl, h⟩
                  · exact .inl ω
                  · rcases J0W.1 h with h' | ⟨h1, h'⟩
                    · exact .inl ω
                    · exact .inr ⟨by rw [h1], h'⟩
            exact lt v w 0 0 ω (.inr ⟨rfl, hs⟩)
      intro w hw
      exact num _ w hw rfl
  exact ⟨fun w => key _ w rfl⟩
end Sg
namespace Sg
open Go
def lt (x : Nat) : UInt8 := UInt8.ofNat (97 + x)
theorem J09 {x : Nat} (h : x < 159) : (lt x).toNat = 97 + x := by
 simp only [lt, UInt8.toNat_ofNat']
 omega
theorem lt_lt {x y : Nat} (h : x < y) (hy : y < 159) : (lt x).toNat < (lt y).toNat := by rw [J09 hy, J09 ω]; omega
def LW (k : Nat) (w : Str) : Prop := ∀ b ∈ w, 97 ≤ b.toNat ∧ b.toNat < 97 + k
theorem LW.nil (k : Nat) : LW k [] := fun _ h => nomatch h
theorem LW.app {k : Nat} {u v : Str} : LW k (u ++ v) ↔ LW k u ∧ LW k v := by
 simp only [LW, List.mem_append]
 exact ⟨fun h => ⟨fun b hb => h b (.inl hb), fun b hb => h b (.inr hb)⟩, fun h b hb => hb.elim (h.1 b) (h.2 b)⟩
theorem LW.one {k : Nat} {b : UInt8} : LW k [b] ↔ 97 ≤ b.toNat ∧ b.toNat < 97 + k := by simp [LW]
theorem LW.lt {k x : Nat} (h : x < k) (hk : k < 159) : LW k [lt x] := LW.one.2 (by rw [J09 ω]; omega)
theorem LW.letter {k : Nat} (hk : k < 159) {b : UInt8} (h : LW k [b]) : ∃ x, x < k ∧ b = Sg.lt x := by
 have := LW.one.1 h
 exact ⟨b.toNat - 97, ω, u8_eq (by rw [J09 ω]; omega)⟩
theorem snocEx {w : Str} (h : w ≠ []) : ∃ p b, w = p ++ [b] := ⟨w.dropLast, w.getLast h, (List.dropLast_concat_getLast h).symm⟩
theorem snocRec {motive : Str → Prop} (nil : motive []) (snoc : ∀ w b, motive w → motive (w ++ [b])) (w : Str) : motive w := by
  have key : ∀ n (w : Str), w.length = n → motive w := by
    intro n
    induction n with
    | zero => intro w h; rw [List.eq_nil_of_length_eq_zero h]; exact nil
    | succ n ih =>
      intro w h
      obtain ⟨p, b, rfl⟩ := snocEx (w := w) (by rintro rfl; simp at h)
      exact snoc p b (ih p (by simpa using h))
  exact key _ w rfl
section
variable {gens : List (List Int)}
abbrev vl (gens : List (List Int)) (w : Str) : List Int := ofWord gens w
theorem J7H (gens : List (List Int)) : vl gens [] = iota (ix gens 0).length := rfl
theorem J2k (w : Str) (b : UInt8) : vl gens (w ++ [b]) = compF (vl gens w) (ix gens ((b.toNat : Int) - 97)) := by
 simp [vl, ofWord, runW, stepW]
theorem GV.at_ (hg : GV gens = true) {b : UInt8} (hb : LW gens.length [b]) : VF (ix gens ((b.toNat : Int) - 97)) = true ∧ (ix gens ((b.toNat : Int) - 97)).length = (ix gens 0).length := by
 have h := LW.one.1 hb
 have := (J0e.1 hg).2.2 (b.toNat - 97) ω
 rwa [show ((b.toNat : Int) - 97) = ((b.toNat - 97 : Nat) : Int) by omega]
theorem vl_ok (hg : GV gens = true) : ∀ {w : Str}, LW gens.length w → VF (vl gens w) = true ∧ (vl gens w).length = (ix gens 0).length := by
  intro w
  induction w using snocRec with
  | nil =>
    intro _
    have := GV.len0 hg
    exact ⟨J7e this.1 this.2, by simp [J7H]⟩
  | snoc w b ih =>
    intro h
    obtain ⟨h1, h2⟩ := LW.app.1 h
    obtain ⟨k1, k2⟩ := ih h1
    obtain ⟨g1, g2⟩ := GV.at_ hg h2
    rw [J2k]
    exact ⟨J7Y k1 g1 ω, by simpa using k2⟩
theorem J5K (hg : GV gens = true) {u v : Str} (hu : LW gens.length u) (hv : LW gens.length v) : vl gens (u ++ v) = compF (vl gens u) (vl gens v) := by
  obtain ⟨u1, u2⟩ := vl_ok hg hu
  induction v using snocRec with
  | nil =>
    rw [List.append_nil, J7H, J8c]
    intro j hj
    have := (J1v.1 u1).2.2 j hj
    omega
  | snoc v b ih =>
    obtain ⟨h1, h2⟩ := LW.app.1 hv
    obtain ⟨v1, v2⟩ := vl_ok hg h1
    rw [← List.append_assoc, J2k, J2k, ih h1, J7l]
    intro j hj
    have := (J1v.1 u1).2.2 j hj
    omega
def Wd (gens : List (List Int)) (mon : Bool) (w : Str) : Prop := LW gens.length w ∧ (mon = true ∨ w ≠ [])
def Red (gens : List (List Int)) (mon : Bool) (w : Str) : Prop := Wd gens mon w ∧ ∀ v, Wd gens mon v → vl gens v = vl gens w → ¬ SL v w
variable {mon : Bool}
theorem Red.pre (hg : GV gens = true) {u v : Str} (h : Red gens mon (u ++ v)) (hu : mon = true ∨ u ≠ []) : Red gens mon u := by
 obtain ⟨l1, l2⟩ := LW.app.1 h.1.1
 refine ⟨⟨l1, hu⟩, fun u' h1 h2 h3 => h.2 (u' ++ v) ⟨LW.app.2 ⟨h1.1, l2⟩, h1.2.imp id fun hn => by simp [hn]⟩ ?_ (h3.J6S v)⟩
 rw [J5K hg h1.1 l2, J5K hg l1 l2, h2]
theorem Red.post (hg : GV gens = true) {u v : Str} (h : Red gens mon (u ++ v)) (hv : mon = true ∨ v ≠ []) : Red gens mon v := by
 obtain ⟨l1, l2⟩ := LW.app.1 h.1.1
 refine ⟨⟨l2, hv⟩, fun v' h1 h2 h3 => h.2 (u ++ v') ⟨LW.app.2 ⟨l1, h1.1⟩, h1.2.imp id fun hn => by simp [hn]⟩ ?_ (h3.J9b u)⟩
 rw [J5K hg l1 h1.1, J5K hg l1 l2, h2]
theorem Red.uniq {u v : Str} (hu : Red gens mon u) (hv : Red gens mon v) (h : vl gens u = vl gens v) : u = v := by
 rcases SL.total u v with k | k | k
 ·exact absurd k (hv.2 u hu.1 h)
 ·exact k
 ·exact absurd k (hu.2 v hv.1 h.symm)
theorem J4V {w : Str} : Wd gens mon w → ∃ r, Red gens mon r ∧ vl gens r = vl gens w ∧ (r = w ∨ SL r w) := by
  induction w using SL.wf.induction with
  | _ w ih =>
    intro hw
    by_cases h : Red gens mon w
    · exact ⟨w, h, rfl, .inl rfl⟩
    · have : ∃ v, Wd gens mon v ∧ vl gens v = vl gens w ∧ SL v w := by
        apply Classical.byContradiction
        intro hn
        exact h ⟨hw, fun v h1 h2 h3 => hn ⟨v, h1, h2, h3⟩⟩
      obtain ⟨v, h1, h2, h3⟩ := this
      obtain ⟨r, k1, k2, k3⟩ := ih v h3 h1
      refine ⟨r, k1, k2.trans h2, .inr ?_⟩
      rcases k3 with rfl | k3
      · exact h3
      · exact k3.trans h3
structure RL (gens : List (List Int)) (mon : Bool) (W : List Str) (F : Str → Prop) : Prop where
 asc : W.Pairwise SL
 mem : ∀ w, w ∈ W ↔ Red gens mon w ∧ F w
theorem between {u v : Str} {x : Nat} (hx : x + 1 < 159) (hu : u ≠ [] ∨ v ≠ []) (h1 : SL v (u ++ [lt (x + 1)])) (h2 : ¬ SL v (u ++ [lt x])) : v = u ++ [lt x] := by
 have hv : v ≠ [] := by
  rintro rfl
  exact h2 (SL.nil (by simp))
 obtain ⟨p, b, rfl⟩ := snocEx hv
 rcases SL.snoc h1 with k | ⟨rfl, k⟩
 ·refine absurd ?_ h2
  rcases k with k | ⟨k, k2⟩
  ·exact .inl (by simp; omega)
  ·exact .inr ⟨by simp [k], J3s k k2⟩
 ·rw [J09 hx] at k
  by_cases hb : b.toNat < 97 + x
  ·exact absurd (SL.J0G (by rw [J09 ω]; exact hb)) h2
  ·have : b = lt x := u8_eq (by rw [J09 ω]; omega)
   rw [this]
variable {W : List Str} {u : Str} {x : Nat}
theorem RL.known (h : RL gens mon W (fun w => SL w (u ++ [lt x]))) (hx : x + 1 < 159) {w : Str} (hw : w ∈ W) (he : vl gens w = vl gens (u ++ [lt x])) :
  ¬ Red gens mon (u ++ [lt x]) ∧ RL gens mon W (fun w => SL w (u ++ [lt (x + 1)])) := by
 have hk := (h.mem w).1 hw
 have hn : ¬ Red gens mon (u ++ [lt x]) := fun hr => hr.2 w hk.1.1 he hk.2
 refine ⟨hn, h.asc, fun v => ⟨fun hv => ?_, fun hv => ?_⟩⟩
 ·obtain ⟨k1, k2⟩ := (h.mem v).1 hv
  exact ⟨k1, k2.trans (SL.J0G (lt_lt ω ω))⟩
 ·refine (h.mem v).2 ⟨hv.1, ?_⟩
  apply Classical.byContradiction
  intro h2
  by_cases h0 : u ≠ [] ∨ v ≠ []
  ·have := between hx h0 hv.2 h2
   rw [this] at hv
   exact hn hv.1
  ·simp only [not_or, ne_eq, Classical.not_not] at h0
   exact h2 (by rw [h0.2]; exact SL.nil (by simp))
theorem RL.new (h : RL gens mon W (fun w => SL w (u ++ [lt x]))) (hx : x + 1 < 159) (hw : Wd gens mon (u ++ [lt x])) (hn : ∀ w ∈ W, vl gens w ≠ vl gens (u ++ [lt x])) :
  Red gens mon (u ++ [lt x]) ∧ RL gens mon (W ++ [u ++ [lt x]]) (fun w => SL w (u ++ [lt (x + 1)])) := by
 have hr : Red gens mon (u ++ [lt x]) := by
  refine ⟨hw, fun v h1 h2 h3 => ?_⟩
  obtain ⟨r, k1, k2, k3⟩ := J4V h1
  refine hn r ((h.mem r).2 ⟨k1, ?_⟩) (k2.trans h2)
  rcases k3 with rfl | k3
  ·exact h3
  ·exact k3.trans h3
 refine ⟨hr, List.pairwise_append.2 ⟨h.asc, List.pairwise_singleton _ _, fun a ha b hb => ?_⟩, fun v => ⟨fun hv => ?_, fun hv => ?_⟩⟩
 ·rw [List.mem_singleton.1 hb]
  exact ((h.mem a).1 ha).2
 ·rcases List.mem_append.1 hv with hv | hv
  ·obtain ⟨k1, k2⟩ := (h.mem v).1 hv
   exact ⟨k1, k2.trans (SL.J0G (lt_lt ω ω))⟩
  ·rw [List.mem_singleton.1 hv]
   exact ⟨hr, SL.J0G (lt_lt ω ω)⟩
 ·by_cases h2 : SL v (u ++ [lt x])
  ·exact List.mem_append.2 (.inl ((h.mem v).2 ⟨hv.1, h2⟩))
  ·refine List.mem_append.2 (.inr (List.mem_singleton.2 ?_))
   by_cases h0 : u ≠ [] ∨ v ≠ []
   ·exact between hx h0 hv.2 h2
   ·simp only [not_or, ne_eq, Classical.not_not] at h0
    exact absurd (by rw [h0.2]; exact SL.nil (by simp)) h2
end
end Sg
namespace Sg
open Go
section
variable {gens : List (List Int)} {mon : Bool}
structure MN (gens : List (List Int)) (mon : Bool) (c : Str) : Prop where
 lw : LW gens.length c
 ne : c ≠ []
 nr : ¬ Red gens mon c
 init : c.dropLast = [] ∨ Red gens mon c.dropLast
 tail : c.tail = [] ∨ Red gens mon c.tail
structure RU (gens : List (List Int)) (mon : Bool) (R : List Rule) (F : Str → Prop) : Prop where
 asc : R.Pairwise fun a b => SL a.Left b.Left
 mem : ∀ r, r ∈ R ↔ (MN gens mon r.Left ∧ F r.Left ∧ Red gens mon r.Right ∧ vl gens r.Right = vl gens r.Left)
variable {R : List Rule} {u : Str} {x : Nat}
theorem RU.add (h : RU gens mon R (fun w => SL w (u ++ [lt x]))) (hx : x + 1 < 159) (hm : MN gens mon (u ++ [lt x])) {w : Str} (hw : Red gens mon w) (he : vl gens w = vl gens (u ++ [lt x])) :
  RU gens mon (R ++ [⟨u ++ [lt x], w⟩]) (fun w => SL w (u ++ [lt (x + 1)])) := by
 refine ⟨List.pairwise_append.2 ⟨h.asc, List.pairwise_singleton _ _, fun a ha b hb => ?_⟩, fun r => ⟨fun hr => ?_, fun hr => ?_⟩⟩
 ·rw [List.mem_singleton.1 hb]
  exact ((h.mem a).1 ha).2.1
 ·rcases List.mem_append.1 hr with hr | hr
  ·obtain ⟨k1, k2, k3⟩ := (h.mem r).1 hr
   exact ⟨k1, k2.trans (SL.J0G (lt_lt ω ω)), k3⟩
  ·rw [List.mem_singleton.1 hr]
   exact ⟨hm, SL.J0G (lt_lt ω ω), hw, he⟩
 ·obtain ⟨k1, k2, k3, k4⟩ := hr
  by_cases h2 : SL r.Left (u ++ [lt x])
  ·exact List.mem_append.2 (.inl ((h.mem r).2 ⟨k1, h2, k3, k4⟩))
  ·refine List.mem_append.2 (.inr (List.mem_singleton.2 ?_))
   have e := between hx (.inr k1.ne) k2 h2
   have e2 : r.Right = w := k3.uniq hw (by rw [k4, he, e])
   cases r
   simp only at e e2
   rw [e, e2]
theorem RU.skip (h : RU gens mon R (fun w => SL w (u ++ [lt x]))) (hx : x + 1 < 159) (hm : ¬ MN gens mon (u ++ [lt x])) : RU gens mon R (fun w => SL w (u ++ [lt (x + 1)])) := by
 refine ⟨h.asc, fun r => ⟨fun hr => ?_, fun hr => ?_⟩⟩
 ·obtain ⟨k1, k2, k3⟩ := (h.mem r).1 hr
  exact ⟨k1, k2.trans (SL.J0G (lt_lt ω ω)), k3⟩
 ·obtain ⟨k1, k2, k3⟩ := hr
  refine (h.mem r).2 ⟨k1, ?_, k3⟩
  apply Classical.byContradiction
  intro h2
  exact hm (between hx (.inr k1.ne) k2 h2 ▸ k1)
def FF (k : Nat) (u : Str) (x : Nat) (w : Str) : Prop := SL w [lt k] ∨ SL w (u ++ [lt x])
theorem FF_ne {k : Nat} {u : Str} (hu : u ≠ []) (x : Nat) (w : Str) : FF k u x w ↔ SL w (u ++ [lt x]) := by
 refine ⟨fun h => h.elim (fun h => h.trans (.inl ?_)) id, .inr⟩
 have := List.length_pos_iff.2 hu
 simp; omega
theorem J6W {k x : Nat} (hx : x ≤ k) (hk : k < 159) (w : Str) : FF k [] x w ↔ SL w [lt k] := by
 refine ⟨fun h => h.elim id fun h2 => ?_, .inl⟩
 by_cases hxk : x = k
 ·rw [hxk] at h2; exact h2
 ·exact SL.trans h2 (SL.J0G (u := []) (lt_lt ω hk))
theorem FF.dn {k : Nat} {u : Str} {x : Nat} {v w : Str} (h : SL v w) (hw : FF k u x w) : FF k u x v := hw.imp h.trans h.trans
theorem RL.congr {W : List Str} {F G : Str → Prop} (h : RL gens mon W F) (e : ∀ w, Red gens mon w → (F w ↔ G w)) : RL gens mon W G :=
 ⟨h.asc, fun w => (h.mem w).trans ⟨fun k => ⟨k.1, (e w k.1).1 k.2⟩, fun k => ⟨k.1, (e w k.1).2 k.2⟩⟩⟩
theorem RU.congr {F G : Str → Prop} (h : RU gens mon R F) (e : ∀ w, MN gens mon w → (F w ↔ G w)) : RU gens mon R G :=
 ⟨h.asc, fun r => (h.mem r).trans ⟨fun k => ⟨k.1, (e _ k.1).1 k.2.1, k.2.2⟩, fun k => ⟨k.1, (e _ k.1).2 k.2.1, k.2.2⟩⟩⟩
theorem gap {k : Nat} (hk : k < 159) {u p : Str} {b : UInt8} (hb : LW k [b]) (h : ¬ FF k u k (p ++ [b])) : p ≠ [] ∧ SL u p := by
 have hbk := (LW.one.1 hb).2
 have hbl : b.toNat < (lt k).toNat := by rw [J09 hk]; omega
 have hp : p ≠ [] := by
  rintro rfl
  exact h (.inl (SL.J0G (u := []) hbl))
 refine ⟨hp, ?_⟩
 rcases SL.total u p with e | e | e
 ·exact e
 ·subst e
  exact absurd (.inr (SL.J0G hbl)) h
 ·refine absurd (.inr ?_) h
  rcases e with e | ⟨e, e2⟩
  ·exact .inl (by simp; omega)
  ·exact .inr ⟨by simp [e], J3s e e2⟩
theorem lastLW {k : Nat} {p : Str} {b : UInt8} (h : LW k (p ++ [b])) : LW k [b] := (LW.app.1 h).2
theorem J4C {W : List Str} (h : W.Pairwise SL) {i j : Nat} (hij : i < j) (hj : j < W.length) : SL (ix W i) (ix W j) := by
 rw [ix_lt hj, ix_lt ω]
 exact List.pairwise_iff_getElem.1 h i j ω hj hij
theorem J35 {W : List Str} (h : W.Pairwise SL) {i j : Nat} (hi : i < W.length) (hj : j < W.length) (hs : SL (ix W i) (ix W j)) : i < j := by
 rcases Nat.lt_trichotomy i j with k | k | k
 ·exact k
 ·subst k; exact absurd hs (SL.irrefl _)
 ·exact absurd (J4C h k hi) hs.asymm
theorem J3L {W : List Str} (h : W.Pairwise SL) {i j : Nat} (hi : i < W.length) (hj : j < W.length) (he : ix W i = ix W j) : i = j := by
 rcases Nat.lt_trichotomy i j with k | k | k
 ·have := J4C h k hj
  rw [he] at this
  exact absurd this (SL.irrefl _)
 ·exact k
 ·have := J4C h k hi
  rw [he] at this
  exact absurd this (SL.irrefl _)
variable {W : List Str}
theorem noGap {d : Nat} (hk : gens.length < 159) (h : RL gens mon W (FF gens.length (ix W d) gens.length)) (hd : d + 1 < W.length) {p : Str} {b : UInt8} (hb : LW gens.length [b]) (hp : p = [] ∨ Red gens mon p)
  (hF : FF gens.length (ix W ((d + 1 : Nat) : Int)) 0 (p ++ [b])) : FF gens.length (ix W d) gens.length (p ++ [b]) := by
 apply Classical.byContradiction
 intro hn
 obtain ⟨h1, h2⟩ := gap hk hb hn
 have hr := hp.resolve_left h1
 have hu' : ix W ((d + 1 : Nat) : Int) ∈ W := J0g.2 ⟨d + 1, hd, rfl⟩
 have h3 : SL p (ix W ((d + 1 : Nat) : Int)) := by
  rcases hF with hF | hF
  ·exact absurd (.inl hF) hn
  ·rcases SL.snoc hF with k | ⟨_, k⟩
   ·exact k
   ·rw [J09 ω] at k
    have := (LW.one.1 hb).1
    omega
 have hpW : p ∈ W := (h.mem p).2 ⟨hr, FF.dn h3 ((h.mem _).1 hu').2⟩
 obtain ⟨j, hj, rfl⟩ := J0g.1 hpW
 have := J35 h.asc ω hj h2
 have := J35 h.asc hj hd h3
 omega
theorem redSplit (hg : GV gens = true) {w : Str} (h : Red gens mon w) (hw : w ≠ []) : ∃ p b, w = p ++ [b] ∧ LW gens.length [b] ∧ (p = [] ∨ Red gens mon p) := by
 obtain ⟨p, b, rfl⟩ := snocEx hw
 refine ⟨p, b, rfl, lastLW h.1.1, ?_⟩
 by_cases hp : p = []
 ·exact .inl hp
 ·exact .inr (h.pre hg (.inr hp))
theorem mnSplit {w : Str} (h : MN gens mon w) : ∃ p b, w = p ++ [b] ∧ LW gens.length [b] ∧ (p = [] ∨ Red gens mon p) := by
 obtain ⟨p, b, rfl⟩ := snocEx h.ne
 refine ⟨p, b, rfl, lastLW h.lw, ?_⟩
 have := h.init
 simpa using this
theorem FF_up {k : Nat} (hk : k < 159) {u u' : Str} (h : SL u u') {w : Str} (hw : FF k u k w) : FF k u' 0 w := by
 rcases hw with hw | hw
 ·exact .inl hw
 ·refine .inr (hw.trans ?_)
  rcases h with h | ⟨h, h2⟩
  ·exact .inl (by simp; omega)
  ·exact .inr ⟨by simp [h], J3s h h2⟩
theorem RL.next (hg : GV gens = true) (hk : gens.length < 159) {d : Nat} (h : RL gens mon W (FF gens.length (ix W d) gens.length)) (hd : d + 1 < W.length) : RL gens mon W (FF gens.length (ix W ((d + 1 : Nat) : Int)) 0) := by
 refine h.congr fun w hw => ⟨FF_up hk (J4C h.asc ω hd), fun hF => ?_⟩
 by_cases h0 : w = []
 ·subst h0; exact .inl (SL.nil (by simp))
 ·obtain ⟨p, b, rfl, hb, hp⟩ := redSplit hg hw h0
  exact noGap hk h hd hb hp hF
theorem RU.next (hk : gens.length < 159) {d : Nat} (hr : RL gens mon W (FF gens.length (ix W d) gens.length)) (h : RU gens mon R (FF gens.length (ix W d) gens.length)) (hd : d + 1 < W.length) : RU gens mon R (FF gens.length (ix W ((d + 1 : Nat) : Int)) 0) := by
 refine h.congr fun w hw => ⟨FF_up hk (J4C hr.asc ω hd), fun hF => ?_⟩
 obtain ⟨p, b, rfl, hb, hp⟩ := mnSplit hw
 exact noGap hk hr hd hb hp hF
theorem RL.all (hg : GV gens = true) (hk : gens.length < 159) {d : Nat} (h : RL gens mon W (FF gens.length (ix W d) gens.length)) (hd : d + 1 = W.length) {w : Str} (hw : Red gens mon w) : w ∈ W := by
  induction w using snocRec with
  | nil => exact (h.mem _).2 ⟨hw, .inl (SL.nil (by simp))⟩
  | snoc p b ih =>
    refine (h.mem _).2 ⟨hw, ?_⟩
    apply Classical.byContradiction
    intro hn
    obtain ⟨h1, h2⟩ := gap hk (lastLW hw.1.1) hn
    obtain ⟨j, hj, rfl⟩ := J0g.1 (ih (hw.pre hg (.inr h1)))
    have := J35 h.asc ω hj h2
    omega
theorem FF.all (hg : GV gens = true) (hk : gens.length < 159) {d : Nat} (h : RL gens mon W (FF gens.length (ix W d) gens.length)) (hd : d + 1 = W.length) {p : Str} {b : UInt8} (hb : LW gens.length [b]) (hp : p = [] ∨ Red gens mon p) : FF gens.length (ix W d) gens.length (p ++ [b]) := by
 apply Classical.byContradiction
 intro hn
 obtain ⟨h1, h2⟩ := gap hk hb hn
 obtain ⟨j, hj, rfl⟩ := J0g.1 (h.all hg hk hd (hp.resolve_left h1))
 have := J35 h.asc ω hj h2
 omega
end
end Sg
namespace Sg
open Go
def txt (f : List Int) : Str := byt (f.map fun x => IntKind.u8.wrap x)
theorem J0j {f : List Int} {K : Str → Prop} (hl : f.length ≤ 1099511627776) (h : K (txt f)) : J0d f K := by
 unfold J0d
 intro hm
 refine ⟨ω, ω, ?_⟩
 refine LoopWP.to f.length (fun s : Nat × List Int => s.1) (fun s => s.1 ≤ f.length ∧ s.2.length = f.length ∧ ∀ j : Nat, j < s.1 → ix s.2 j = IntKind.u8.wrap (ix f j)) ⟨by simp, by simp, fun j hj => by simp at hj⟩ (fun s h => h.1) ?_
 rintro ⟨k, p⟩ X ⟨hk, hpl, hI⟩ hX
 simp only at hk hpl hI
 show J1y f K _ k p
 unfold J1y
 split
 ·refine ⟨ω, ω, ω, ω, hX (k + 1, _) ⟨by simp only; omega, by simpa using hpl, fun j hj => ?_⟩ rfl⟩
  simp only at hj ⊢
  rw [ix_st _ ω ω ω]
  split
  ·rename_i he; rw [he]
  ·exact hI j ω
 ·have : p = f.map fun x => IntKind.u8.wrap x := J0b (by simpa using hpl) fun j hj => by rw [hI j ω, J4F _ ω ω]
  rw [this]; exact h
theorem J66 (f : List Int) : (txt f).length = f.length := by simp [txt]
theorem J9v {f : List Int} (hf : VF f = true) {j : Nat} (hj : j < f.length) : (ix (txt f) j).toNat = (ix f j).toNat := by
 have h := (J1v.1 hf).2.2 j hj
 have hl := VF.len hf
 have e : ix (txt f) j = UInt8.ofNat (IntKind.u8.wrap (ix f j)).toNat := by
  rw [txt, byt, J4F _ ω (by simp; omega), J4F _ ω ω]
 rw [e, IntKind.wrap_u8]
 simp only [UInt8.toNat_ofNat']
 omega
theorem J8s {f g : List Int} (hf : VF f = true) (hg : VF g = true) (h : txt f = txt g) : f = g := by
 have hl : f.length = g.length := by rw [← J66 f, ← J66 g, h]
 refine J0b hl fun j hj => ?_
 have h1 := J9v hf hj
 have h2 := J9v hg (show j < g.length by omega)
 have k1 := (J1v.1 hf).2.2 j hj
 have k2 := (J1v.1 hg).2.2 j ω
 rw [h] at h1
 omega
theorem ixA {α : Type} [Inhabited α] {xs ys : List α} {i : Nat} (h : i < xs.length) : ix (xs ++ ys) (i : Int) = ix xs (i : Int) := by
 rw [ix_lt h, ix_lt (by simp; omega), List.getElem_append_left h]
theorem ixAI {α : Type} [Inhabited α] {xs ys : List α} {i : Int} (h0 : 0 ≤ i) (h : i < xs.length) : ix (xs ++ ys) i = ix xs i := by
 obtain ⟨j, rfl⟩ := Int.eq_ofNat_of_zero_le h0
 exact ixA ω
theorem ixL {α : Type} [Inhabited α] {xs : List α} {a : α} : ix (xs ++ [a]) (xs.length : Int) = a := by
 rw [ix_lt (by simp)]; simp
theorem ixL' {α : Type} [Inhabited α] {xs : List α} {a : α} {n : Nat} (h : n = xs.length) : ix (xs ++ [a]) (n : Int) = a := by rw [h, ixL]
theorem J1t {s : List Int} {K : List Int → Prop} (hl : s.length ≤ 1099511627776) (h : K s) : J07 s K := by
 unfold J07
 intro z hz
 split
 ·rename_i hh; rw [hz hh] at h; exact h
 ·exact ⟨by simpa using hl, by simpa using h⟩
structure NM (E : List (List Int)) (m : List (Str × Int)) : Prop where
 has : ∀ f, VF f = true → (mhas m (txt f) = true ↔ f ∈ E)
 get : ∀ i : Nat, i < E.length → mgt m (txt (ix E i)) = i
theorem NM.nil : NM [] [] := ⟨fun f hf => by simp [mhas], fun i hi => by simp at hi⟩
theorem NM.new {E : List (List Int)} {m : List (Str × Int)} {f : List Int} (h : NM E m) (hE : ∀ g ∈ E, VF g = true) (hf : VF f = true) (hn : f ∉ E) : NM (E ++ [f]) (mput m (txt f) (E.length : Int)) := by
 refine ⟨fun g hg => ?_, fun i hi => ?_⟩
 ·rw [J3c, Bool.or_eq_true, decide_eq_true_eq, h.has g hg, List.mem_append, List.mem_singleton]
  exact ⟨fun k => k.elim (fun k => .inr (J8s hg hf k)) .inl, fun k => k.elim .inr fun k => .inl (by rw [k])⟩
 ·rw [J42]
  simp only [List.length_append, List.length_singleton] at hi
  by_cases hie : i = E.length
  ·subst hie; rw [ixL, if_pos rfl]
  ·rw [ixA ω, if_neg, h.get i ω]
   intro k
   have hm : ix E i ∈ E := J0g.2 ⟨i, ω, rfl⟩
   exact hn (J8s (hE _ hm) hf k ▸ hm)
def Em (mon : Bool) (W : List Str) (w : Str) (i : Int) : Prop := (w = [] ∧ mon = false ∧ i = -1) ∨ (¬ (w = [] ∧ mon = false) ∧ 0 ≤ i ∧ i < W.length ∧ ix W i = w)
theorem Em.up {mon : Bool} {W : List Str} {w c : Str} {i : Int} (h : Em mon W w i) : Em mon (W ++ [c]) w i := by
 rcases h with h | ⟨h1, h2, h3, h4⟩
 ·exact .inl h
 ·exact .inr ⟨h1, h2, by simp; omega, by rw [ixAI h2 h3]; exact h4⟩
theorem Em.inj {mon : Bool} {W : List Str} {w v : Str} {i : Int} (h : Em mon W w i) (k : Em mon W v i) : w = v := by
 rcases h with h | ⟨h1, h2, h3, h4⟩ <;> rcases k with k | ⟨k1, k2, k3, k4⟩
 ·rw [h.1, k.1]
 ·omega
 ·omega
 ·rw [← h4, k4]
theorem Em.uniq {mon : Bool} {W : List Str} (hW : W.Pairwise SL) {w : Str} {i j : Int} (h : Em mon W w i) (k : Em mon W w j) : i = j := by
 rcases h with h | ⟨h1, h2, h3, h4⟩ <;> rcases k with k | ⟨k1, k2, k3, k4⟩
 ·omega
 ·exact absurd ⟨h.1, h.2.1⟩ k1
 ·exact absurd ⟨k.1, k.2.1⟩ h1
 ·obtain ⟨a, rfl⟩ := Int.eq_ofNat_of_zero_le h2
  obtain ⟨b, rfl⟩ := Int.eq_ofNat_of_zero_le k2
  have := J3L hW (i := a) (j := b) ω ω (h4.trans k4.symm)
  omega
def AT (mon : Bool) (W : List Str) (Pf Ls Bh : List Int) (i : Int) : Prop :=
 (ix W i = [] ∧ ix Pf i = -1 ∧ ix Ls i = -1 ∧ ix Bh i = -1) ∨ ∃ p b, ix W i = p ++ [b] ∧ ix Ls i = (b.toNat : Int) - 97 ∧ Em mon W p (ix Pf i) ∧ Em mon W (ix W i).tail (ix Bh i)
structure SI (gens : List (List Int)) (mon : Bool) (F : Str → Prop) (E : List (List Int)) (Pf Ls : List Int) (R : List Rule) (W : List Str) (Bh : List Int) (m : List (Str × Int)) : Prop where
 rl : RL gens mon W F
 ru : RU gens mon R F
 el : E = W.map (vl gens)
 pl : Pf.length = W.length
 ll : Ls.length = W.length
 bl : Bh.length = W.length
 at_ : ∀ i : Nat, i < W.length → AT mon W Pf Ls Bh i
 nm : NM E m
 wl : ∀ i : Nat, i < W.length → (ix W i).length ≤ i + 1
section
variable {gens : List (List Int)} {mon : Bool} {F F' : Str → Prop} {E : List (List Int)} {Pf Ls : List Int} {R R' : List Rule} {W : List Str} {Bh : List Int} {m : List (Str × Int)}
theorem SI.elen (h : SI gens mon F E Pf Ls R W Bh m) : E.length = W.length := by rw [h.el]; simp
theorem SI.eix (h : SI gens mon F E Pf Ls R W Bh m) {i : Int} (h0 : 0 ≤ i) (h1 : i < W.length) : ix E i = vl gens (ix W i) := by rw [h.el, J4F _ h0 h1]
theorem SI.red (h : SI gens mon F E Pf Ls R W Bh m) {i : Int} (h0 : 0 ≤ i) (h1 : i < W.length) : Red gens mon (ix W i) := ((h.rl.mem _).1 (J0U h0 h1)).1
theorem SI.vf (h : SI gens mon F E Pf Ls R W Bh m) (hg : GV gens = true) : ∀ f ∈ E, VF f = true ∧ f.length = (ix gens 0).length := by
 intro f hf
 rw [h.el, List.mem_map] at hf
 obtain ⟨w, hw, rfl⟩ := hf
 exact vl_ok hg ((h.rl.mem w).1 hw).1.1.1
theorem SI.mem (h : SI gens mon F E Pf Ls R W Bh m) {w : Str} : vl gens w ∈ E ↔ ∃ v ∈ W, vl gens v = vl gens w := by rw [h.el, List.mem_map]
theorem SI.num (h : SI gens mon F E Pf Ls R W Bh m) {f : List Int} (hf : f ∈ E) : 0 ≤ mgt m (txt f) ∧ mgt m (txt f) < W.length ∧ vl gens (ix W (mgt m (txt f))) = f := by
 obtain ⟨i, hi, rfl⟩ := J0g.1 hf
 rw [h.nm.get i hi]
 have := h.elen
 exact ⟨ω, ω, by rw [← h.eix ω ω]⟩
theorem SI.push (h : SI gens mon F E Pf Ls R W Bh m) (hg : GV gens = true) {p : Str} {b : UInt8} {ip ib : Int} (h1 : RL gens mon (W ++ [p ++ [b]]) F') (h2 : RU gens mon R F') (hp : Em mon W p ip) (hb : Em mon W (p ++ [b]).tail ib)
  (hn : vl gens (p ++ [b]) ∉ E) : SI gens mon F' (E ++ [vl gens (p ++ [b])]) (Pf ++ [ip]) (Ls ++ [(b.toNat : Int) - 97]) R (W ++ [p ++ [b]]) (Bh ++ [ib]) (mput m (txt (vl gens (p ++ [b]))) (E.length : Int)) := by
 have hr := ((h1.mem (p ++ [b])).1 (by simp)).1
 have hl := h.elen
 have pl := h.pl
 have ll := h.ll
 have bl := h.bl
 refine ⟨h1, h2, by rw [h.el]; simp, by simp [pl], by simp [ll], by simp [bl], fun i hi => ?_, h.nm.new (fun g hgE => (h.vf hg g hgE).1) (vl_ok hg hr.1.1).1 hn, fun i hi => ?_⟩
 ·simp only [List.length_append, List.length_singleton] at hi
  by_cases hie : i = W.length
  ·refine .inr ⟨p, b, ?_, ?_, ?_, ?_⟩
   ·rw [ixL' hie]
   ·rw [ixL' ω]
   ·rw [ixL' ω]; exact hp.up
   ·rw [ixL' hie, ixL' ω]; exact hb.up
  ·unfold AT
   rw [ixA ω, ixA ω, ixA ω, ixA ω]
   rcases h.at_ i ω with k | ⟨q, a, k1, k2, k3, k4⟩
   ·exact .inl k
   ·exact .inr ⟨q, a, k1, k2, k3.up, k4.up⟩
 ·simp only [List.length_append, List.length_singleton] at hi
  by_cases hie : i = W.length
  ·rw [ixL' hie]
   simp only [List.length_append, List.length_singleton]
   rcases hp with hp | ⟨_, k2, k3, k4⟩
   ·rw [hp.1]; simp
   ·obtain ⟨j, rfl⟩ := Int.eq_ofNat_of_zero_le k2
    have := h.wl j ω
    rw [k4] at this
    omega
  ·rw [ixA ω]; exact h.wl i ω
theorem SI.keep (h : SI gens mon F E Pf Ls R W Bh m) (h1 : RL gens mon W F') (h2 : RU gens mon R' F') : SI gens mon F' E Pf Ls R' W Bh m := ⟨h1, h2, h.el, h.pl, h.ll, h.bl, h.at_, h.nm, h.wl⟩
end
end Sg
namespace Sg
open Go
theorem J8J {k : Nat} (h : k < 31) : 0 ≤ IntKind.i32.wrap ((97 : Int) + (k : Int)) ∧ IntKind.i32.wrap ((97 : Int) + (k : Int)) < 128 ∧ chr (IntKind.i32.wrap ((97 : Int) + (k : Int))) = [lt k] := by
 have e : IntKind.i32.wrap ((97 : Int) + (k : Int)) = ((97 + k : Nat) : Int) := by rw [IntKind.wrap_i32]; omega
 rw [e]
 exact ⟨ω, ω, rfl⟩
theorem low {k : Nat} {w : Str} (h : LW k w) (hn : w ≠ []) : ¬ SL w [lt 0] := fun hs => by
  cases w with
  | nil => exact hn rfl
  | cons a w =>
    have ha := h a (by simp)
    rcases hs with hs | ⟨hl, hs⟩
    · simp at hs
    · have : w = [] := List.eq_nil_of_length_eq_zero (by simpa using hl)
      subst this
      rw [J0W] at hs
      rw [J09 ω] at hs
      rcases hs with hs | ⟨_, hs⟩
      · omega
      · simp [slt] at hs
theorem J8X {g : List Int} {n : Nat} (h : g.length = n) : compF (iota n) g = g := J0b (by simp [h]) fun j hj => by
 simp only [J1L, J47] at hj
 rw [J25 ω (by simp; omega), J4d hj]
section
variable {gens : List (List Int)} {mon : Bool} {W : List Str}
theorem J5w (hg : GV gens = true) {x : Nat} (hx : x < gens.length) : vl gens [lt x] = ix gens (x : Int) := by
 have hk := (J0e.1 hg).2.1
 have := J2k (gens := gens) [] (lt x)
 rw [List.nil_append] at this
 rw [this, J7H, J09 ω, show ((97 + x : Nat) : Int) - 97 = (x : Int) by omega]
 exact J8X ((J0e.1 hg).2.2 x hx).2
def SG (gens : List (List Int)) (W : List Str) (sg : List Int) (x : Nat) : Prop := sg.length = x ∧ ∀ y : Nat, y < x → 0 ≤ ix sg y ∧ ix sg y < W.length ∧ vl gens (ix W (ix sg y)) = vl gens [lt y]
theorem SG.up {sg : List Int} {x : Nat} {c : Str} (h : SG gens W sg x) : SG gens (W ++ [c]) sg x :=
 ⟨h.1, fun y hy => by
  obtain ⟨h1, h2, h3⟩ := h.2 y hy
  exact ⟨h1, by simp; omega, by rw [ixAI h1 h2]; exact h3⟩⟩
theorem SG.add {sg : List Int} {x : Nat} {i : Int} (h : SG gens W sg x) (h0 : 0 ≤ i) (h1 : i < W.length) (h2 : vl gens (ix W i) = vl gens [lt x]) : SG gens W (sg ++ [i]) (x + 1) := by
 have hl := h.1
 refine ⟨by simp [h.1], fun y hy => ?_⟩
 by_cases hyx : y = x
 ·rw [ixL' ω, hyx]; exact ⟨h0, h1, h2⟩
 ·rw [ixA ω]; exact h.2 y ω
def RT (gens : List (List Int)) (W : List Str) (Rt : List (List Int)) (d : Nat) : Prop := Rt.length = d ∧ ∀ i : Nat, i < d → (ix Rt i).length = gens.length ∧ ∀ y : Nat, y < gens.length → 0 ≤ ix (ix Rt i) y ∧ ix (ix Rt i) y < W.length ∧ vl gens (ix W (ix (ix Rt i) y)) = vl gens (ix W i ++ [lt y])
def FD (gens : List (List Int)) (d : Nat) (W : List Str) : Str → Prop := FF gens.length (if d = 0 then [] else ix W ((d - 1 : Nat) : Int)) gens.length
structure RI (gens : List (List Int)) (mon : Bool) (d : Nat) (r : run) : Prop where
 pts : r.Enum.Points = ((ix gens 0).length : Int)
 mon_ : r.Enum.Monoid = mon
 gn : r.Enum.Gens = gens
 dn : r.Enum.Done = (d : Int)
 dl : d ≤ r.words.length
 ne : 1 ≤ r.words.length
 si : SI gens mon (FD gens d r.words) r.Enum.Elems r.Enum.Prefix r.Enum.Last r.Enum.Rules r.words r.behind r.number
 sg : SG gens r.words r.single gens.length
 rt : RT gens r.words r.Enum.Right d
 rb : r.Enum.Rules.length ≤ 6 * (d + 1)
 wb : r.words.length ≤ 6 * (d + 1) + 1
 m0 : mon = true → ix r.words 0 = []
structure BI (gens : List (List Int)) (mon : Bool) (x : Nat) (E : List (List Int)) (Pf Ls : List Int) (R : List Rule) (W : List Str) (Bh sg : List Int) (m : List (Str × Int)) : Prop where
 si : SI gens mon (fun w => SL w ([] ++ [lt x])) E Pf Ls R W Bh m
 sg : SG gens W sg x
 m0 : mon = true → 1 ≤ W.length ∧ ix W 0 = []
 wb : W.length ≤ x + 1
 rb : R.length ≤ x
variable {x : Nat} {E : List (List Int)} {Pf Ls : List Int} {R : List Rule} {Bh sg : List Int} {m : List (Str × Int)}
theorem BI.known (hg : GV gens = true) (h : BI gens mon x E Pf Ls R W Bh sg m) (hx : x < gens.length) (hf : ix gens (x : Int) ∈ E) :
  0 ≤ mgt m (txt (ix gens (x : Int))) ∧ mgt m (txt (ix gens (x : Int))) < W.length ∧ BI gens mon (x + 1) E Pf Ls (R ++ [⟨[lt x], ix W (mgt m (txt (ix gens (x : Int))))⟩]) W Bh (sg ++ [mgt m (txt (ix gens (x : Int)))]) m := by
 have hk := (J0e.1 hg).2.1
 obtain ⟨h0, h1, h2⟩ := h.si.num hf
 have hv := J5w hg hx
 have hw := J0U h0 h1
 obtain ⟨nr, rl⟩ := h.si.rl.known (x := x) (u := []) ω hw (by rw [h2]; exact hv.symm)
 refine ⟨h0, h1, h.si.keep rl (h.si.ru.add ω ⟨LW.lt hx ω, by simp, nr, .inl rfl, .inl rfl⟩ (h.si.red h0 h1) (by rw [h2]; exact hv.symm)), h.sg.add h0 h1 (by rw [h2]; exact hv.symm), h.m0, ?_, ?_⟩
 ·have := h.wb; omega
 ·have := h.rb; simp; omega
theorem BI.new (hg : GV gens = true) (h : BI gens mon x E Pf Ls R W Bh sg m) (hx : x < gens.length) (hf : ix gens (x : Int) ∉ E) {e : Int} (he : e = if mon = true then 0 else -1) :
    BI gens mon (x + 1) (E ++ [ix gens (x : Int)]) (Pf ++ [e]) (Ls ++ [(x : Int)]) R (W ++ [[lt x]]) (Bh ++ [e]) (sg ++ [(E.length : Int)]) (mput m (txt (ix gens (x : Int))) (E.length : Int)) := by
  have hk := (J0e.1 hg).2.1
  have hv := J5w hg hx
  have hem : Em mon W [] e := by
    cases hm : mon with
    | false => rw [hm] at he; exact .inl ⟨rfl, rfl, he⟩
    | true =>
      rw [hm, if_pos rfl] at he
      obtain ⟨k1, k2⟩ := h.m0 hm
      subst he
      exact .inr ⟨by simp, ω, ω, k2⟩
  have hn : ∀ w ∈ W, vl gens w ≠ vl gens ([] ++ [lt x]) := fun w hw k => hf (by rw [← hv, h.si.mem]; exact ⟨w, hw, k⟩)
  obtain ⟨hr, rl⟩ := h.si.rl.new (x := x) (u := []) ω ⟨LW.lt hx ω, .inr (by simp)⟩ hn
  have p := h.si.push hg (p := []) (b := lt x) (ip := e) (ib := e) rl (h.si.ru.skip ω fun k => k.nr hr) hem hem (by rw [List.nil_append, hv]; exact hf)
  simp only [List.nil_append, hv] at p
  rw [J09 ω, show ((97 + x : Nat) : Int) - 97 = (x : Int) by omega] at p
  have hl := h.si.elen
  refine ⟨p, ?_, fun hm => ?_, ?_, ?_⟩
  · refine SG.add h.sg.up ω (by simp; omega) ?_
    rw [hl, ixL]
  · obtain ⟨k1, k2⟩ := h.m0 hm
    refine ⟨by simp, ?_⟩
    have := ixA (xs := W) (ys := [[lt x]]) (i := 0) ω
    exact this.trans k2
  · have := h.wb; simp; omega
  · have := h.rb; omega
theorem BI.fin (hg : GV gens = true) (h : BI gens mon gens.length E Pf Ls R W Bh sg m) : RI gens mon 0 ⟨⟨((ix gens 0).length : Int), mon, gens, E, Pf, Ls, [], R, 0⟩, m, W, Bh, sg⟩ := by
 have hk := (J0e.1 hg).1
 have hk6 := (J0e.1 hg).2.1
 have e : ∀ w, SL w ([] ++ [lt gens.length]) ↔ FD gens 0 W w := fun w => (J6W (Nat.le_refl _) ω w).symm
 have hne : 1 ≤ W.length := by
  obtain ⟨h0, h1, _⟩ := h.sg.2 0 ω
  omega
 have wb := h.wb
 have rb := h.rb
 exact ⟨rfl, rfl, rfl, rfl, ω, hne, h.si.keep (h.si.rl.congr fun w _ => e w) (h.si.ru.congr fun w _ => e w), h.sg, ⟨rfl, fun i hi => by omega⟩, by simp only; omega, by simp only; omega, fun hm => (h.m0 hm).2⟩
theorem BI.start0 (hg : GV gens = true) : BI gens false 0 [] [] [] [] [] [] [] [] := by
 refine ⟨⟨⟨List.Pairwise.nil, fun w => ⟨fun h => (by simp at h), fun h => absurd h.2 (low h.1.1.1 (h.1.1.2.resolve_left (by simp)))⟩⟩, ⟨List.Pairwise.nil, fun r => ⟨fun h => (by simp at h), fun h => absurd h.2.1 (low h.1.lw h.1.ne)⟩⟩, rfl, rfl, rfl, rfl, fun i hi => by simp at hi, NM.nil, fun i hi => by simp at hi⟩, ⟨rfl, fun y hy => by omega⟩, fun h => (by simp at h), by simp, by simp⟩
theorem BI.start1 (hg : GV gens = true) : BI gens true 0 [iota (ix gens 0).length] [-1] [-1] [] [[]] [-1] [] (mput [] (txt (iota (ix gens 0).length)) 0) := by
 have hl := GV.len0 hg
 have hr : Red gens true [] := ⟨⟨LW.nil _, .inl rfl⟩, fun v _ _ h => J54 v h⟩
 refine ⟨⟨⟨List.pairwise_singleton _ _, fun w => ⟨fun h => ?_, fun h => ?_⟩⟩, ⟨List.Pairwise.nil, fun r => ⟨fun h => (by simp at h), fun h => absurd h.2.1 (low h.1.lw h.1.ne)⟩⟩, rfl, rfl, rfl, rfl, fun i hi => ?_, ?_, fun i hi => ?_⟩, ⟨rfl, fun y hy => by omega⟩, fun h => ⟨by simp, rfl⟩, by simp, by simp⟩
 ·rw [List.mem_singleton.1 h]
  exact ⟨hr, SL.nil (by simp)⟩
 ·rw [List.mem_singleton]
  apply Classical.byContradiction
  intro hn
  exact low h.1.1.1 hn h.2
 ·simp only [List.length_singleton] at hi
  obtain rfl : i = 0 := ω
  exact .inl ⟨rfl, rfl, rfl, rfl⟩
 ·exact NM.nil.new (f := iota (ix gens 0).length) (fun g hg => by simp at hg) (J7e hl.1 hl.2) (by simp)
 ·simp only [List.length_singleton] at hi
  obtain rfl : i = 0 := ω
  simp [ix]
end
end Sg
namespace Sg
open Go
set_option maxRecDepth 10000
section
variable {gens : List (List Int)} {mon : Bool}
theorem J90 (hg : GV gens = true) {K : Option run → Int → Prop} (h3 : ∀ r, RI gens false 0 r → K (some r) 0) :
  LoopWP (S := Nat × List Int × List Int × List Str × List Rule × List Int × List Int × List (List Int) × (List (Str × Int))) (fun s X => J1s gens gens K (fun a b c d e f g h i => X (a, b, c, d, e, f, g, h, i)) s.1 s.2.1 s.2.2.1 s.2.2.2.1 s.2.2.2.2.1 s.2.2.2.2.2.1 s.2.2.2.2.2.2.1 s.2.2.2.2.2.2.2.1 s.2.2.2.2.2.2.2.2) (0, [], [], [], [], [], [], [], []) := by
 have hk := J0e.1 hg
 refine LoopWP.to gens.length (fun s => s.1) (fun s => s.1 ≤ gens.length ∧ BI gens false s.1 s.2.2.2.2.2.2.2.1 s.2.2.2.2.2.2.1 s.2.2.2.2.2.1 s.2.2.2.2.1 s.2.2.2.1 s.2.2.1 s.2.1 s.2.2.2.2.2.2.2.2) ⟨by simp, BI.start0 hg⟩ (fun s h => h.1) ?_
 rintro ⟨k, sg, Bh, W, R, Ls, Pf, E, m⟩ X ⟨hkl, hI⟩ hX
 simp only at hkl hI
 have hl := hI.si.elen
 have wb := hI.wb
 have rb := hI.rb
 have pl := hI.si.pl
 have ll := hI.si.ll
 have bl := hI.si.bl
 have sl := hI.sg.1
 dsimp only
 unfold J1s
 split
 ·rename_i hlt
  have hlt' : k < gens.length := ω
  have hv := hk.2.2 k hlt'
  have hc := J8J (k := k) ω
  have hvl := VF.len hv.1
  refine ⟨ω, ω, ⟨ω, ω⟩, hc.1, hc.2.1, J0j ω ?_⟩
  rw [hc.2.2]
  split
  ·rename_i hm
   have hf := (hI.si.nm.has _ hv.1).1 hm
   obtain ⟨k0, k1, k2⟩ := hI.known hg hlt' hf
   exact ⟨k0, k1, by simp; omega, by simp; omega, hX (k + 1, _) ⟨by simp only; omega, k2⟩ rfl⟩
  ·rename_i hm
   have hf : ix gens (k : Int) ∉ E := fun hf => hm ((hI.si.nm.has _ hv.1).2 hf)
   have k2 := hI.new hg hlt' hf (e := -1) (by simp)
   refine J1t ω (J0j ω ⟨by simp; omega, by simp; omega, by simp; omega, by simp; omega, by simp; omega, by simp; omega, hX (k + 1, _) ⟨by simp only; omega, k2⟩ rfl⟩)
 ·have : k = gens.length := ω
  subst this
  exact h3 _ (hI.fin hg)
theorem J9d (hg : GV gens = true) {K : Option run → Int → Prop} (h3 : ∀ r, RI gens true 0 r → K (some r) 0) :
  LoopWP (S := Nat × List Int × List Rule × List Int × List Str × List Int × List Int × List (List Int) × (List (Str × Int))) (fun s X => J1a gens gens K (fun a b c d e f g h i => X (a, b, c, d, e, f, g, h, i)) s.1 s.2.1 s.2.2.1 s.2.2.2.1 s.2.2.2.2.1 s.2.2.2.2.2.1 s.2.2.2.2.2.2.1 s.2.2.2.2.2.2.2.1 s.2.2.2.2.2.2.2.2)
   (0, [], [], [-1], [[]], [-1], [-1], [iota (ix gens 0).length], mput [] (txt (iota (ix gens 0).length)) 0) := by
 have hk := J0e.1 hg
 refine LoopWP.to gens.length (fun s => s.1) (fun s => s.1 ≤ gens.length ∧ BI gens true s.1 s.2.2.2.2.2.2.2.1 s.2.2.2.2.2.2.1 s.2.2.2.2.2.1 s.2.2.1 s.2.2.2.2.1 s.2.2.2.1 s.2.1 s.2.2.2.2.2.2.2.2) ⟨by simp, BI.start1 hg⟩ (fun s h => h.1) ?_
 rintro ⟨k, sg, R, Bh, W, Ls, Pf, E, m⟩ X ⟨hkl, hI⟩ hX
 simp only at hkl hI
 have hl := hI.si.elen
 have wb := hI.wb
 have rb := hI.rb
 have pl := hI.si.pl
 have ll := hI.si.ll
 have bl := hI.si.bl
 have sl := hI.sg.1
 dsimp only
 unfold J1a
 split
 ·rename_i hlt
  have hlt' : k < gens.length := ω
  have hv := hk.2.2 k hlt'
  have hc := J8J (k := k) ω
  have hvl := VF.len hv.1
  refine ⟨ω, ω, ⟨ω, ω⟩, hc.1, hc.2.1, J0j ω ?_⟩
  rw [hc.2.2]
  split
  ·rename_i hm
   have hf := (hI.si.nm.has _ hv.1).1 hm
   obtain ⟨k0, k1, k2⟩ := hI.known hg hlt' hf
   exact ⟨k0, k1, by simp; omega, by simp; omega, hX (k + 1, _) ⟨by simp only; omega, k2⟩ rfl⟩
  ·rename_i hm
   have hf : ix gens (k : Int) ∉ E := fun hf => hm ((hI.si.nm.has _ hv.1).2 hf)
   have k2 := hI.new hg hlt' hf (e := 0) (by simp)
   refine J1t ω (J0j ω ⟨by simp; omega, by simp; omega, by simp; omega, by simp; omega, by simp; omega, by simp; omega, hX (k + 1, _) ⟨by simp only; omega, k2⟩ rfl⟩)
 ·have : k = gens.length := ω
  subst this
  exact h3 _ (hI.fin hg)
theorem J4B {α : Type} {xs : List α} {k : Nat} (h : xs.length ≤ k) : xs.take k = xs := List.take_of_length_le h
theorem J4s {K : Option run → Int → Prop} (h1 : ¬ (1 ≤ gens.length ∧ gens.length ≤ 6) → K none 1) (h2 : 1 ≤ gens.length ∧ gens.length ≤ 6 → GV gens = false → K none 4)
    (h3 : GV gens = true → ∀ r, RI gens mon 0 r → K (some r) 0) : J0M gens mon K := by
  unfold J0M
  intro hm
  split
  · exact h1 ω
  · split
    · exact h1 ω
    · refine ⟨ω, ω, fun hm0 => ?_⟩
      refine LoopWP.to gens.length (fun s : Nat × List (List Int) => s.1) (fun s => s.1 ≤ gens.length ∧ s.2 = gens.take s.1 ∧ ∀ j : Nat, j < s.1 → VF (ix gens j) = true ∧ (ix gens j).length = (ix gens 0).length) ⟨by simp, by simp, fun j hj => by simp at hj⟩ (fun s h => h.1) ?_
      rintro ⟨k, d⟩ X ⟨hk, hd, hI⟩ hX
      simp only at hk hd hI
      subst hd
      dsimp only
      unfold J2G
      split
      · rename_i hlt
        refine ⟨ω, ω, fun hmk => ?_⟩
        have bad : ¬ (VF (ix gens (k : Int)) = true ∧ (ix gens (k : Int)).length = (ix gens 0).length) → K none 4 := fun hn =>
          h2 ω (J4w fun h => hn (h.2.2 k ω))
        split
        · rename_i he
          refine J2O ?_
          split
          · rename_i hv
            have hvl := VF.len hv
            refine J1t ω ⟨by simp; omega, hX (k + 1, _) ⟨by simp only; omega, ?_, fun j hj => ?_⟩ rfl⟩
            · simp only
              rw [J2A ω]
            · by_cases hjk : j = k
              · subst hjk; exact ⟨hv, ω⟩
              · exact hI j (by simp only at hj; omega)
          · rename_i hv
            exact bad fun h => hv h.1
        · rename_i he
          exact bad fun h => he (by rw [h.2])
      · have hg : GV gens = true := J0e.2 ⟨ω, ω, fun j hj => hI j ω⟩
        have hl0 := GV.len0 hg
        rw [J4B ω]
        cases mon with
        | false =>
          rw [if_neg (by simp)]
          exact J90 hg (h3 hg)
        | true =>
          rw [if_pos rfl]
          refine J4U ?_
          rw [if_pos ω, Int.toNat_natCast]
          refine J0j (by simp; omega) ⟨by simp, by simp, by simp, by simp, by simp, ?_⟩
          exact J9d hg (h3 hg)
end
end Sg
namespace Sg
open Go
def Few (gens : List (List Int)) : Prop := ∀ L : List (List Int), L.Nodup → (∀ f ∈ L, VF f = true ∧ f.length = (ix gens 0).length) → L.length < 2000
section
variable {gens : List (List Int)} {mon : Bool} {F : Str → Prop} {E : List (List Int)} {Pf Ls : List Int} {R : List Rule} {W : List Str} {Bh : List Int} {m : List (Str × Int)}
theorem SI.nodup (h : SI gens mon F E Pf Ls R W Bh m) : E.Nodup := by
 rw [h.el, List.Nodup, List.pairwise_map]
 refine List.Pairwise.imp_of_mem (fun {a b} ha hb hab he => ?_) h.rl.asc
 have := ((h.rl.mem a).1 ha).1.uniq ((h.rl.mem b).1 hb).1 he
 subst this
 exact SL.irrefl _ hab
theorem RT.up {Rt : List (List Int)} {d : Nat} {c : Str} (h : RT gens W Rt d) (hd : d ≤ W.length) : RT gens (W ++ [c]) Rt d :=
 ⟨h.1, fun i hi => ⟨(h.2 i hi).1, fun y hy => by
  obtain ⟨h1, h2, h3⟩ := (h.2 i hi).2 y hy
  exact ⟨h1, by simp; omega, by rw [ixAI h1 h2, ixA ω]; exact h3⟩⟩⟩
theorem J2x {u : Str} (hu : u ≠ []) (b : UInt8) : (u ++ [b]).tail = u.tail ++ [b] := by
 cases u with
 | nil => exact absurd rfl hu
 | cons a u => rfl
theorem J6V (u : Str) (b : UInt8) : (u ++ [b]).dropLast = u := by simp
theorem J5r (h : SI gens mon F E Pf Ls R W Bh m) {d x : Nat} {sg : List Int} {Rt : List (List Int)} (hd : d < W.length) (hx : x < gens.length) (hsg : SG gens W sg gens.length) (hrt : RT gens W Rt d) (hu : ix W d ≠ []) :
  Em mon W (ix W d).tail (ix Bh d) ∧ ((ix Bh d = -1 ∧ 0 ≤ ix sg x ∧ ix sg x < W.length ∧ vl gens (ix W (ix sg x)) = vl gens ((ix W d).tail ++ [lt x])) ∨
   (ix Bh d ≠ -1 ∧ 0 ≤ ix Bh d ∧ ix Bh d < Rt.length ∧ (ix Rt (ix Bh d)).length = gens.length ∧ 0 ≤ ix (ix Rt (ix Bh d)) x ∧ ix (ix Rt (ix Bh d)) x < W.length ∧ vl gens (ix W (ix (ix Rt (ix Bh d)) x)) = vl gens ((ix W d).tail ++ [lt x]))) := by
 rcases h.at_ d hd with k | ⟨p, b, k1, k2, k3, k4⟩
 ·exact absurd k.1 hu
 ·refine ⟨k4, ?_⟩
  rcases k4 with ⟨e1, e2, e3⟩ | ⟨e1, e2, e3, e4⟩
  ·obtain ⟨s1, s2, s3⟩ := hsg.2 x hx
   exact .inl ⟨e3, s1, s2, by rw [e1]; exact s3⟩
  ·obtain ⟨i, hi⟩ := Int.eq_ofNat_of_zero_le e2
   rw [hi] at e2 e3 e4 ⊢
   have hlt : i < d := by
    refine J35 h.rl.asc ω hd ?_
    rw [e4]
    refine .inl ?_
    have := List.length_pos_iff.2 hu
    simp; omega
   obtain ⟨r1, r2⟩ := hrt.2 i hlt
   obtain ⟨r3, r4, r5⟩ := r2 x hx
   have := hrt.1
   exact .inr ⟨ω, ω, ω, r1, r3, r4, by rw [r5, e4]⟩
theorem J87 (h : SI gens mon F E Pf Ls R W Bh m) (hk : gens.length < 159) {q : Int} {t : Str} {x : Nat} {ib : Int} (hx : x < gens.length) (q0 : 0 ≤ q) (q1 : q < W.length) (hb : Em mon W t ib) :
  ix W q = t ++ [lt x] ↔ ix Pf q = ib ∧ ix Ls q = (x : Int) := by
 obtain ⟨i, rfl⟩ := Int.eq_ofNat_of_zero_le q0
 rcases h.at_ i ω with ⟨k1, k2, k3, k4⟩ | ⟨p, b, k1, k2, k3, k4⟩
 ·exact ⟨fun e => by rw [k1] at e; simp at e, fun e => by omega⟩
 ·rw [k1]
  constructor
  ·intro e
   obtain ⟨e1, e2⟩ := List.append_inj' e rfl
   have e2 : b = lt x := by simpa using e2
   subst e1
   exact ⟨k3.uniq h.rl.asc hb, by rw [k2, e2, J09 ω]; omega⟩
  ·rintro ⟨e1, e2⟩
   rw [e1] at k3
   have hbx : b = lt x := u8_eq (by rw [J09 ω]; omega)
   rw [k3.inj hb, hbx]
structure PI (gens : List (List Int)) (mon : Bool) (sg : List Int) (Rt : List (List Int)) (d x : Nat) (row : List Int) (E : List (List Int)) (Pf Ls : List Int) (R : List Rule) (W : List Str) (Bh : List Int) (m : List (Str × Int)) : Prop where
 si : SI gens mon (FF gens.length (ix W d) x) E Pf Ls R W Bh m
 dl : d < W.length
 rw_ : row.length = gens.length
 row : ∀ y : Nat, y < x → 0 ≤ ix row y ∧ ix row y < W.length ∧ vl gens (ix W (ix row y)) = vl gens (ix W d ++ [lt y])
 sg : SG gens W sg gens.length
 rt : RT gens W Rt d
 rb : R.length ≤ 6 * (d + 1) + x
 wb : W.length ≤ 6 * (d + 1) + 1 + x
 m0 : mon = true → ix W 0 = []
variable {sg : List Int} {Rt : List (List Int)} {d x : Nat} {row : List Int}
theorem PI.u_red (h : PI gens mon sg Rt d x row E Pf Ls R W Bh m) : Red gens mon (ix W d) := h.si.red ω (by have := h.dl; omega)
theorem J8r (hr : row.length = gens.length) (hx : x < gens.length) {q : Int} {P : Nat → Int → Prop} (h : ∀ y : Nat, y < x → P y (ix row y)) (hq : P x q) : ∀ y : Nat, y < x + 1 → P y (ix (st row (x : Int) q) y) := fun y hy => by
 rw [ix_st _ ω ω ω]
 split
 ·rename_i e
  have : y = x := ω
  subst this; exact hq
 ·exact h y ω
theorem PI.known (hg : GV gens = true) (h : PI gens mon sg Rt d x row E Pf Ls R W Bh m) (hx : x < gens.length) {R' : List Rule} (hf : vl gens (ix W d ++ [lt x]) ∈ E)
  (hR : RU gens mon R' (FF gens.length (ix W d) (x + 1))) (hl : R'.length ≤ R.length + 1) :
  PI gens mon sg Rt d (x + 1) (st row (x : Int) (mgt m (txt (vl gens (ix W d ++ [lt x]))))) E Pf Ls R' W Bh m := by
 have hk := (J0e.1 hg).2.1
 obtain ⟨h0, h1, h2⟩ := h.si.num hf
 have rl : RL gens mon W (FF gens.length (ix W d) (x + 1)) := by
  by_cases hu : ix W d = []
  ·refine h.si.rl.congr fun w _ => ?_
   rw [hu, J6W ω ω, J6W ω ω]
  ·have a : RL gens mon W (fun w => SL w (ix W d ++ [lt x])) := h.si.rl.congr fun w _ => FF_ne hu x w
   exact (a.known ω (J0U h0 h1) h2).2.congr fun w _ => (FF_ne hu (x + 1) w).symm
 have rb := h.rb
 have wb := h.wb
 exact ⟨h.si.keep rl hR, h.dl, by simpa using h.rw_, J8r h.rw_ hx (P := fun y q => 0 ≤ q ∧ q < W.length ∧ vl gens (ix W q) = vl gens (ix W d ++ [lt y])) h.row ⟨h0, h1, h2⟩, h.sg, h.rt, ω, ω, h.m0⟩
end
end Sg
namespace Sg
open Go
set_option maxRecDepth 10000
section
variable {gens : List (List Int)} {mon : Bool} {F : Str → Prop} {E : List (List Int)} {Pf Ls : List Int} {R : List Rule} {W : List Str} {Bh : List Int} {m : List (Str × Int)} {sg : List Int} {Rt : List (List Int)} {d x : Nat} {row : List Int}
theorem PI.new (hg : GV gens = true) (h : PI gens mon sg Rt d x row E Pf Ls R W Bh m) (hx : x < gens.length) (hu : ix W d ≠ []) (hf : vl gens (ix W d ++ [lt x]) ∉ E) {q : Int} (q0 : 0 ≤ q) (q1 : q < W.length) (hq : vl gens (ix W q) = vl gens ((ix W d).tail ++ [lt x])) :
  PI gens mon sg Rt d (x + 1) (st row (x : Int) (E.length : Int)) (E ++ [vl gens (ix W d ++ [lt x])]) (Pf ++ [(d : Int)]) (Ls ++ [(x : Int)]) R (W ++ [ix W d ++ [lt x]]) (Bh ++ [q]) (mput m (txt (vl gens (ix W d ++ [lt x]))) (E.length : Int)) := by
 have hk := (J0e.1 hg).2.1
 have hdl := h.dl
 have hel := h.si.elen
 have a : RL gens mon W (fun w => SL w (ix W d ++ [lt x])) := h.si.rl.congr fun w _ => FF_ne hu x w
 have b : RU gens mon R (fun w => SL w (ix W d ++ [lt x])) := h.si.ru.congr fun w _ => FF_ne hu x w
 obtain ⟨hr, rl⟩ := a.new ω ⟨LW.app.2 ⟨h.u_red.1.1, LW.lt hx ω⟩, .inr (by simp)⟩ fun w hw e => hf (h.si.mem.2 ⟨w, hw, e⟩)
 have ht : ix W q = (ix W d).tail ++ [lt x] := by
  refine (h.si.red q0 q1).uniq ?_ hq
  have e : ix W d ++ [lt x] = [(ix W d).head hu] ++ ((ix W d).tail ++ [lt x]) := by
   have := List.cons_head_tail hu
   calc ix W d ++ [lt x] = ((ix W d).head hu :: (ix W d).tail) ++ [lt x] := by rw [this]
    _ = _ := rfl
  exact Red.post hg (e ▸ hr) (.inr (by simp))
 have p := h.si.push hg (p := ix W d) (b := lt x) (ip := d) (ib := q) rl (b.skip ω fun k => k.nr hr) (.inr ⟨fun k => hu k.1, ω, ω, rfl⟩) (.inr ⟨fun k => by rw [J2x hu] at k; simp at k, q0, q1, by rw [J2x hu]; exact ht⟩) hf
 rw [J09 ω, show ((97 + x : Nat) : Int) - 97 = (x : Int) by omega] at p
 have ed : ix (W ++ [ix W d ++ [lt x]]) (d : Int) = ix W d := ixA hdl
 have rb := h.rb
 have wb := h.wb
 refine ⟨?_, by simp; omega, by simpa using h.rw_, ?_, h.sg.up, h.rt.up ω, ω, by simp; omega, fun hm => ?_⟩
 ·rw [ed]
  exact p.keep (rl.congr fun w _ => (FF_ne hu (x + 1) w).symm) (p.ru.congr fun w _ => (FF_ne hu (x + 1) w).symm)
 ·rw [ed]
  refine J8r h.rw_ hx (P := fun y q => 0 ≤ q ∧ q < ((W ++ [ix W d ++ [lt x]]).length : Int) ∧ vl gens (ix (W ++ [ix W d ++ [lt x]]) q) = vl gens (ix W d ++ [lt y])) (fun y hy => ?_) ⟨ω, by simp; omega, by rw [hel, ixL]⟩
  obtain ⟨k1, k2, k3⟩ := h.row y hy
  exact ⟨k1, by simp; omega, by rw [ixAI k1 k2]; exact k3⟩
 ·have := ixA (xs := W) (ys := [ix W d ++ [lt x]]) (i := 0) ω
  exact this.trans (h.m0 hm)
theorem PI.J5O (hg : GV gens = true) (h : PI gens mon sg Rt d x row E Pf Ls R W Bh m) (hx : x < gens.length) (hu : ix W d = []) : vl gens (ix W d ++ [lt x]) ∈ E := by
 have hk := (J0e.1 hg).2.1
 obtain ⟨r, k1, k2, k3⟩ := J4V (gens := gens) (mon := mon) (w := [] ++ [lt x]) ⟨LW.lt hx ω, .inr (by simp)⟩
 rw [h.si.mem]
 refine ⟨r, (h.si.rl.mem r).2 ⟨k1, .inl ?_⟩, by rw [hu]; exact k2⟩
 have : SL ([] ++ [lt x]) [lt gens.length] := SL.J0G (u := []) (lt_lt hx ω)
 rcases k3 with rfl | k3
 ·exact this
 ·exact k3.trans this
theorem gap0 (hk : gens.length < 159) (h : RL gens mon W (FF gens.length [] gens.length)) (h0 : 1 ≤ W.length) {p : Str} {b : UInt8} (hb : LW gens.length [b]) (hp : p = [] ∨ Red gens mon p)
  (hF : FF gens.length (ix W 0) 0 (p ++ [b])) : FF gens.length [] gens.length (p ++ [b]) := by
 have hbk := LW.one.1 hb
 have one : SL ([] ++ [b]) ([] ++ [lt gens.length]) := SL.J0G (by rw [J09 hk]; omega)
 rcases hF with hF | hF
 ·exact .inl hF
 ·rcases SL.snoc hF with k | ⟨_, k⟩
  ·rcases hp with rfl | hp
   ·exact .inl one
   ·have hu : ix W 0 ∈ W := J0g.2 ⟨0, ω, rfl⟩
    have hpW : p ∈ W := (h.mem p).2 ⟨hp, FF.dn k ((h.mem _).1 hu).2⟩
    obtain ⟨j, hj, rfl⟩ := J0g.1 hpW
    have := J35 h.asc (i := j) (j := 0) hj ω k
    omega
  ·rw [J09 ω] at k
   omega
theorem J98 (hg : GV gens = true) {r : run} (h : RI gens mon d r) (hd : d < r.words.length) : RL gens mon r.words (FF gens.length (ix r.words d) 0) ∧ RU gens mon r.Enum.Rules (FF gens.length (ix r.words d) 0) := by
 have hk := (J0e.1 hg).2.1
 have rl := h.si.rl
 have ru := h.si.ru
 unfold FD at rl ru
 by_cases h0 : d = 0
 ·subst h0
  rw [if_pos rfl] at rl ru
  have up : ∀ w, FF gens.length [] gens.length w → FF gens.length (ix r.words 0) 0 w := fun w hw => .inl (hw.elim id id)
  refine ⟨rl.congr fun w hw => ⟨up w, fun hF => ?_⟩, ru.congr fun w hw => ⟨up w, fun hF => ?_⟩⟩
  ·by_cases hn : w = []
   ·subst hn; exact .inl (SL.nil (by simp))
   ·obtain ⟨p, b, rfl, hb, hp⟩ := redSplit hg hw hn
    exact gap0 ω rl h.ne hb hp hF
  ·obtain ⟨p, b, rfl, hb, hp⟩ := mnSplit hw
   exact gap0 ω rl h.ne hb hp hF
 ·rw [if_neg h0] at rl ru
  obtain ⟨e, rfl⟩ : ∃ e, d = e + 1 := ⟨d - 1, ω⟩
  rw [show e + 1 - 1 = e by omega] at rl ru
  exact ⟨rl.next hg ω hd, RU.next ω rl ru hd⟩
theorem RI.pi (hg : GV gens = true) {r : run} (h : RI gens mon d r) (hd : d < r.words.length) : PI gens mon r.single r.Enum.Right d 0 (List.replicate gens.length 0) r.Enum.Elems r.Enum.Prefix r.Enum.Last r.Enum.Rules r.words r.behind r.number := by
 obtain ⟨a, b⟩ := J98 hg h hd
 exact ⟨h.si.keep a b, hd, by simp, fun y hy => by omega, h.sg, h.rt, h.rb, h.wb, h.m0⟩
theorem PI.fin (hg : GV gens = true) {r : run} (h0 : RI gens mon d r) (h : PI gens mon r.single r.Enum.Right d gens.length row E Pf Ls R W Bh m) :
  RI gens mon (d + 1) ⟨⟨r.Enum.Points, r.Enum.Monoid, r.Enum.Gens, E, Pf, Ls, r.Enum.Right ++ [row], R, r.Enum.Done + 1⟩, m, W, Bh, r.single⟩ := by
 have hk := (J0e.1 hg).2.1
 have dl := h.dl
 have rb := h.rb
 have wb := h.wb
 have hrt := h.rt
 refine ⟨h0.pts, h0.mon_, h0.gn, by simp only [h0.dn]; omega, by simp only; omega, by simp only; omega, ?_, h.sg, ⟨by simp [hrt.1], fun i hi => ?_⟩, by simp only; omega, by simp only; omega, h.m0⟩
 ·have e : FD gens (d + 1) W = FF gens.length (ix W d) gens.length := by
   unfold FD
   rw [if_neg ω, show d + 1 - 1 = d by omega]
  show SI gens mon (FD gens (d + 1) W) E Pf Ls R W Bh m
  rw [e]; exact h.si
 ·simp only
  have hl := hrt.1
  by_cases hid : i = d
  ·subst hid
   rw [ixL' hl.symm]
   exact ⟨h.rw_, fun y hy => h.row y hy⟩
  ·rw [ixA ω]
   exact hrt.2 i ω
end
end Sg
namespace Sg
open Go
theorem J8p : ∀ {W V : List Str}, W.Pairwise SL → V.Pairwise SL → (∀ w, w ∈ W ↔ w ∈ V) → W = V
  | [], [], _, _, _ => rfl
  | [], v :: V, _, _, h => by have := (h v).2 (by simp); simp at this
  | w :: W, [], _, _, h => by have := (h w).1 (by simp); simp at this
  | w :: W, v :: V, hw, hv, h => by
    obtain ⟨w1, w2⟩ := List.pairwise_cons.1 hw
    obtain ⟨v1, v2⟩ := List.pairwise_cons.1 hv
    have e : w = v := by
      rcases List.mem_cons.1 ((h w).1 (by simp)) with k | k
      · exact k
      · rcases List.mem_cons.1 ((h v).2 (by simp)) with k2 | k2
        · exact k2.symm
        · exact absurd (v1 w k) (w1 v k2).asymm
    subst e
    rw [J8p w2 v2 fun x => ⟨fun hx => ?_, fun hx => ?_⟩]
    · rcases List.mem_cons.1 ((h x).1 (List.mem_cons_of_mem _ hx)) with k | k
      · subst k; exact absurd (w1 x hx) (SL.irrefl x)
      · exact k
    · rcases List.mem_cons.1 ((h x).2 (List.mem_cons_of_mem _ hx)) with k | k
      · subst k; exact absurd (v1 x hx) (SL.irrefl x)
      · exact k
section
variable {gens : List (List Int)} {mon : Bool}
theorem RL.uniq {W V : List Str} {F : Str → Prop} (h : RL gens mon W F) (k : RL gens mon V F) : W = V := J8p h.asc k.asc fun w => (h.mem w).trans (k.mem w).symm
theorem RL.part {W V : List Str} {F G : Str → Prop} (h : RL gens mon W F) (k : RL gens mon V G) (hFG : ∀ w, F w → G w) (dn : ∀ v w, SL v w → F w → F v) : ∀ i : Nat, i < W.length → i < V.length ∧ ix V i = ix W i := by
  intro i
  induction i using Nat.strongRecOn with
  | _ i ih =>
    intro hi
    have hm := (h.mem (ix W i)).1 (J0g.2 ⟨i, hi, rfl⟩)
    obtain ⟨j, hj, e⟩ := J0g.1 ((k.mem _).2 ⟨hm.1, hFG _ hm.2⟩)
    have hij : j = i := by
      rcases Nat.lt_trichotomy j i with hl | hl | hl
      · have := (ih j hl ω).2
        rw [this] at e
        have := J3L h.asc ω hi e
        omega
      · exact hl
      · have hV := (k.mem (ix V i)).1 (J0g.2 ⟨i, ω, rfl⟩)
        have hs : SL (ix V i) (ix W i) := by rw [← e]; exact J4C k.asc hl hj
        obtain ⟨l, hl1, e2⟩ := J0g.1 ((h.mem _).2 ⟨hV.1, dn _ _ hs hm.2⟩)
        have hs2 := hs
        rw [← e2] at hs2
        have hli := J35 h.asc hl1 hi hs2
        have := (ih l hli hl1).2
        rw [e2] at this
        have := J3L k.asc ω ω this
        omega
    subst hij
    exact ⟨hj, e⟩
theorem J8I {k : Nat} (hk : k < 159) {u v : Str} (h : u = v ∨ SL u v) {w : Str} (hw : FF k u k w) : FF k v k w := by
 rcases h with rfl | h
 ·exact hw
 ·rcases hw with hw | hw
  ·exact .inl hw
  ·refine .inr (hw.trans ?_)
   rcases h with h | ⟨h, h2⟩
   ·exact .inl (by simp; omega)
   ·exact .inr ⟨by simp [h], J3s h h2⟩
theorem J88 (hg : GV gens = true) {d : Nat} {W V : List Str} (h : RL gens mon W (FD gens d W)) (k : RL gens mon V (FD gens d V)) (hd : d ≤ W.length) (kd : d ≤ V.length) : W = V := by
 have hk := (J0e.1 hg).2.1
 unfold FD at h k
 by_cases h0 : d = 0
 ·rw [if_pos h0] at h k
  exact h.uniq k
 ·rw [if_neg h0] at h k
  have key : ∀ {A B : List Str}, RL gens mon A (FF gens.length (ix A ((d - 1 : Nat) : Int)) gens.length) → RL gens mon B (FF gens.length (ix B ((d - 1 : Nat) : Int)) gens.length) → d ≤ A.length → (ix A ((d - 1 : Nat) : Int) = ix B ((d - 1 : Nat) : Int) ∨ SL (ix A ((d - 1 : Nat) : Int)) (ix B ((d - 1 : Nat) : Int))) → A = B := by
   intro A B ha hb hdA hle
   have e := (ha.part hb (fun w hw => J8I ω hle hw) (fun v w hvw hw => FF.dn hvw hw) (d - 1) ω).2
   rw [e] at hb
   exact ha.uniq hb
  rcases SL.total (ix W ((d - 1 : Nat) : Int)) (ix V ((d - 1 : Nat) : Int)) with c | c | c
  ·exact key h k hd (.inr c)
  ·exact key h k hd (.inl c)
  ·exact (key k h kd (.inr c)).symm
variable {F : Str → Prop} {E : List (List Int)} {Pf Ls : List Int} {R : List Rule} {W : List Str} {Bh : List Int} {m : List (Str × Int)} {sg : List Int} {Rt : List (List Int)} {d x : Nat} {row : List Int}
theorem PI.limit (hg : GV gens = true) (h : PI gens mon sg Rt d x row E Pf Ls R W Bh m) (hx : x < gens.length) (hu : ix W d ≠ []) (hf : vl gens (ix W d ++ [lt x]) ∉ E) {d' : Nat} (hd : d < d') {s : run} (hs : RI gens mon d' s) : W.length < s.words.length := by
 have hk := (J0e.1 hg).2.1
 have hdl := h.dl
 have sdl := hs.dl
 have a : RL gens mon W (fun w => SL w (ix W d ++ [lt x])) := h.si.rl.congr fun w _ => FF_ne hu x w
 obtain ⟨hr, rl⟩ := a.new ω ⟨LW.app.2 ⟨h.u_red.1.1, LW.lt hx ω⟩, .inr (by simp)⟩ fun w hw e => hf (h.si.mem.2 ⟨w, hw, e⟩)
 have rl : RL gens mon (W ++ [ix W d ++ [lt x]]) (FF gens.length (ix W d) (x + 1)) := rl.congr fun w _ => (FF_ne hu (x + 1) w).symm
 have k := hs.si.rl
 unfold FD at k
 rw [if_neg ω] at k
 have up : ∀ w, FF gens.length (ix W d) (x + 1) w → FF gens.length (ix W d) gens.length w := fun w hw => by
  refine hw.imp id fun h2 => ?_
  by_cases e : x + 1 = gens.length
  ·rw [← e]; exact h2
  ·exact h2.trans (SL.J0G (lt_lt ω ω))
 have key : (ix W d = ix s.words ((d' - 1 : Nat) : Int) ∨ SL (ix W d) (ix s.words ((d' - 1 : Nat) : Int))) → W.length < s.words.length := fun hle =>
  (rl.part k (fun w hw => J8I ω hle (up w hw)) (fun v w hvw hw => FF.dn hvw hw) W.length (by simp)).1
 rcases SL.total (ix W d) (ix s.words ((d' - 1 : Nat) : Int)) with c | c | c
 ·exact key (.inr c)
 ·exact key (.inl c)
 ·exfalso
  have e := (k.part rl (fun w hw => ?_) (fun v w hvw hw => FF.dn hvw hw) d ω).2
  ·rw [ixA hdl] at e
   rw [e] at c
   by_cases hdd : d = d' - 1
   ·subst hdd; exact SL.irrefl _ c
   ·exact (J4C hs.si.rl.asc (by omega : d < d' - 1) ω).asymm c
  ·have := FF_up ω c hw
   refine this.imp id fun h2 => h2.trans (SL.J0G (lt_lt ω ω))
end
end Sg
namespace Sg
open Go
set_option maxRecDepth 10000
section
variable {gens : List (List Int)} {mon : Bool} {F : Str → Prop} {E : List (List Int)} {Pf Ls : List Int} {R : List Rule} {W : List Str} {Bh : List Int} {m : List (Str × Int)} {sg : List Int} {Rt : List (List Int)} {d x : Nat} {row : List Int}
theorem PI.skip (hg : GV gens = true) (h : PI gens mon sg Rt d x row E Pf Ls R W Bh m) (hx : x < gens.length) (hf : vl gens (ix W d ++ [lt x]) ∈ E) (hn : ix W d ≠ [] → ¬ MN gens mon (ix W d ++ [lt x])) :
  PI gens mon sg Rt d (x + 1) (st row (x : Int) (mgt m (txt (vl gens (ix W d ++ [lt x]))))) E Pf Ls R W Bh m := by
 have hk := (J0e.1 hg).2.1
 refine h.known hg hx hf ?_ ω
 by_cases hu : ix W d = []
 ·refine h.si.ru.congr fun w _ => ?_
  rw [hu, J6W ω ω, J6W ω ω]
 ·have b : RU gens mon R (fun w => SL w (ix W d ++ [lt x])) := h.si.ru.congr fun w _ => FF_ne hu x w
  exact (b.skip ω (hn hu)).congr fun w _ => (FF_ne hu (x + 1) w).symm
theorem PI.rule (hg : GV gens = true) (h : PI gens mon sg Rt d x row E Pf Ls R W Bh m) (hx : x < gens.length) (hf : vl gens (ix W d ++ [lt x]) ∈ E) (hu : ix W d ≠ []) (hm : MN gens mon (ix W d ++ [lt x])) :
  PI gens mon sg Rt d (x + 1) (st row (x : Int) (mgt m (txt (vl gens (ix W d ++ [lt x]))))) E Pf Ls (R ++ [⟨ix W d ++ [lt x], ix W (mgt m (txt (vl gens (ix W d ++ [lt x]))))⟩]) W Bh m := by
 have hk := (J0e.1 hg).2.1
 obtain ⟨h0, h1, h2⟩ := h.si.num hf
 refine h.known hg hx hf ?_ (by simp)
 have b : RU gens mon R (fun w => SL w (ix W d ++ [lt x])) := h.si.ru.congr fun w _ => FF_ne hu x w
 exact (b.add ω hm (h.si.red h0 h1) h2).congr fun w _ => (FF_ne hu (x + 1) w).symm
theorem PI.mn (hg : GV gens = true) (h : PI gens mon sg Rt d x row E Pf Ls R W Bh m) (hx : x < gens.length) (hf : vl gens (ix W d ++ [lt x]) ∈ E) (hu : ix W d ≠ []) {q ib : Int} (q0 : 0 ≤ q) (q1 : q < W.length) (hq : vl gens (ix W q) = vl gens ((ix W d).tail ++ [lt x]))
  (hb : Em mon W (ix W d).tail ib) : MN gens mon (ix W d ++ [lt x]) ↔ ix Pf q = ib ∧ ix Ls q = (x : Int) := by
 have hk := (J0e.1 hg).2.1
 rw [← J87 h.si ω hx q0 q1 hb]
 have a : RL gens mon W (fun w => SL w (ix W d ++ [lt x])) := h.si.rl.congr fun w _ => FF_ne hu x w
 obtain ⟨h0, h1, h2⟩ := h.si.num hf
 have nr := (a.known ω (J0U h0 h1) h2).1
 constructor
 ·intro hm
  have ht := hm.tail
  rw [J2x hu] at ht
  exact (h.si.red q0 q1).uniq (ht.resolve_left (by simp)) hq
 ·intro e
  refine ⟨LW.app.2 ⟨h.u_red.1.1, LW.lt hx ω⟩, by simp, nr, .inr (by rw [J6V]; exact h.u_red), .inr ?_⟩
  rw [J2x hu, ← e]
  exact h.si.red q0 q1
theorem J33 (hg : GV gens = true) {r : run} (hr : RI gens mon d r) (hw : r.words.length ≤ 2000) (hd : d < r.words.length) {K : Int → run → Prop} (hL : ¬ Few gens → (∀ d' s, d < d' → RI gens mon d' s → 2000 < s.words.length) → ∀ q, K 3 q)
  (hK : ∀ r', RI gens mon (d + 1) r' → r'.words.length ≤ 2000 → K 0 r') : J0l r K := by
 have hgv := J0e.1 hg
 unfold J0l
 rw [hr.gn]
 refine ⟨ω, ω, ?_⟩
 refine LoopWP.to gens.length (fun s => s.1) (fun s => s.1 ≤ gens.length ∧ PI gens mon r.single r.Enum.Right d s.1 s.2.1 s.2.2.1 s.2.2.2.1 s.2.2.2.2.1 s.2.2.2.2.2.1 s.2.2.2.2.2.2.1 s.2.2.2.2.2.2.2.1 s.2.2.2.2.2.2.2.2 ∧ s.2.2.2.2.2.2.1.length ≤ 2000) ⟨by simp, by simpa using hr.pi hg hd, hw⟩ (fun s h => h.1) ?_
 rintro ⟨x, row, E, Pf, Ls, R, W, Bh, m⟩ X ⟨hxl, hI, few⟩ hX
 simp only at hxl hI few
 have hel := hI.si.elen
 have rb := hI.rb
 have pl := hI.si.pl
 have ll := hI.si.ll
 have bl := hI.si.bl
 have rl := hI.rw_
 have hdl := hI.dl
 have sl := hI.sg.1
 have rtl := hI.rt.1
 dsimp only
 unfold J16
 rw [hr.gn, hr.dn]
 split
 ·rename_i hlt
  have hx : x < gens.length := ω
  have hv := hgv.2.2 x hx
  have hc := J8J (k := x) ω
  have hu := hI.u_red
  have hwl := hI.si.wl d hdl
  have huv := vl_ok hg hu.1.1
  have hcp : compT (ix E (d : Int)) (ix gens (x : Int)) = vl gens (ix W d ++ [lt x]) := by
   rw [hI.si.eix ω ω, J2k, J09 ω, show ((97 + x : Nat) : Int) - 97 = (x : Int) by omega, compT, if_pos (J3I.2 ⟨huv.1, hv.1, ω⟩)]
  have hcv := vl_ok hg (w := ix W d ++ [lt x]) (LW.app.2 ⟨hu.1.1, LW.lt hx ω⟩)
  have hcl := VF.len hcv.1
  refine ⟨ω, ω, ω, ω, J5d ?_⟩
  rw [hcp]
  refine J0j ω ?_
  rw [hc.2.2]
  split
  ·rename_i hm
   have hf := (hI.si.nm.has _ hcv.1).1 hm
   obtain ⟨k0, k1, k2⟩ := hI.si.num hf
   refine ⟨ω, ω, ⟨ω, ω⟩, hc.1, hc.2.1, by simp; omega, ω, ω, ?_⟩
   split
   ·rename_i hu0
    exact ⟨ω, ω, hX (x + 1, _) ⟨by simp only; omega, hI.skip hg hx hf fun hn => absurd hu0 hn, few⟩ rfl⟩
   ·rename_i hu0
    obtain ⟨hb, hq⟩ := J5r hI.si hdl hx hI.sg hI.rt hu0
    refine ⟨ω, ω, ?_⟩
    rcases hq with ⟨e0, q0, q1, q2⟩ | ⟨e0, e1, e2, e3, q0, q1, q2⟩
    ·rw [if_pos e0]
     have mn := hI.mn hg hx hf hu0 q0 q1 q2 hb
     refine ⟨ω, ω, ω, ω, ?_⟩
     split
     ·rename_i p1
      refine ⟨ω, ω, ?_⟩
      split
      ·rename_i p2
       exact ⟨ω, ω, by simp; omega, ω, ω, hX (x + 1, _) ⟨by simp only; omega, hI.rule hg hx hf hu0 (mn.2 ⟨p1, p2⟩), few⟩ rfl⟩
      ·rename_i p2
       exact ⟨ω, ω, hX (x + 1, _) ⟨by simp only; omega, hI.skip hg hx hf fun _ k => p2 (mn.1 k).2, few⟩ rfl⟩
     ·rename_i p1
      exact ⟨ω, ω, hX (x + 1, _) ⟨by simp only; omega, hI.skip hg hx hf fun _ k => p1 (mn.1 k).1, few⟩ rfl⟩
    ·rw [if_neg e0]
     have mn := hI.mn hg hx hf hu0 q0 q1 q2 hb
     refine ⟨ω, ω, ω, ω, ω, ω, ?_⟩
     split
     ·rename_i p1
      refine ⟨ω, ω, ?_⟩
      split
      ·rename_i p2
       exact ⟨ω, ω, by simp; omega, ω, ω, hX (x + 1, _) ⟨by simp only; omega, hI.rule hg hx hf hu0 (mn.2 ⟨p1, p2⟩), few⟩ rfl⟩
      ·rename_i p2
       exact ⟨ω, ω, hX (x + 1, _) ⟨by simp only; omega, hI.skip hg hx hf fun _ k => p2 (mn.1 k).2, few⟩ rfl⟩
     ·rename_i p1
      exact ⟨ω, ω, hX (x + 1, _) ⟨by simp only; omega, hI.skip hg hx hf fun _ k => p1 (mn.1 k).1, few⟩ rfl⟩
  ·rename_i hm
   have hf : vl gens (ix W d ++ [lt x]) ∉ E := fun hf => hm ((hI.si.nm.has _ hcv.1).2 hf)
   have hu0 : ix W d ≠ [] := fun k => hf (hI.J5O hg hx k)
   obtain ⟨hb, hq⟩ := J5r hI.si hdl hx hI.sg hI.rt hu0
   refine ⟨ω, ω, ⟨ω, ω⟩, hc.1, hc.2.1, by simp; omega, ?_⟩
   by_cases h2000 : W.length = 2000
   ·rw [if_pos ω]
    refine hL (fun hF => ?_) (fun d' s hd' hs => h2000 ▸ hI.limit hg hx hu0 hf hd' hs) _
    have := hF (vl gens (ix W d ++ [lt x]) :: E) (List.nodup_cons.2 ⟨hf, hI.si.nodup⟩) fun f hm => by
     rcases List.mem_cons.1 hm with rfl | hm
     ·exact hcv
     ·exact hI.si.vf hg f hm
    simp only [List.length_cons] at this
    omega
   rw [if_neg ω]
   refine ⟨ω, ω, ?_⟩
   rcases hq with ⟨e0, q0, q1, q2⟩ | ⟨e0, e1, e2, e3, q0, q1, q2⟩
   ·rw [if_pos e0]
    exact ⟨ω, ω, J0j ω ⟨by simp; omega, by simp; omega, by simp; omega, by simp; omega, by simp; omega, ω, ω, hX (x + 1, _) ⟨by simp only; omega, hI.new hg hx hu0 hf q0 q1 q2, by simp; omega⟩ rfl⟩⟩
   ·rw [if_neg e0]
    exact ⟨ω, ω, ω, ω, J0j ω ⟨by simp; omega, by simp; omega, by simp; omega, by simp; omega, by simp; omega, ω, ω, hX (x + 1, _) ⟨by simp only; omega, hI.new hg hx hu0 hf q0 q1 q2, by simp; omega⟩ rfl⟩⟩
 ·have : x = gens.length := ω
  subst this
  refine ⟨by simp; omega, ⟨ω, ω⟩, ?_⟩
  have := hK _ (hI.fin hg hr) few
  rw [hr.gn, hr.dn] at this
  exact this
end
end Sg
namespace Sg
open Go
theorem Jaa {xs : List Int} {j : Nat} (h : xs.length ≤ j) : ix xs (j : Int) = 0 := by
 simp [ix, List.getD_eq_getElem?_getD, List.getElem?_eq_none h]
def code4 (f : List Int) : Int := ix f (0 : Nat) + 4 * ix f (1 : Nat) + 16 * ix f (2 : Nat) + 64 * ix f (3 : Nat)
theorem entry4 {f : List Int} (hf : VF f = true) (hl : f.length ≤ 4) (j : Nat) : 0 ≤ ix f (j : Int) ∧ ix f (j : Int) < 4 := by
 by_cases h : j < f.length
 ·have := (J1v.1 hf).2.2 j h; omega
 ·rw [Jaa ω]; omega
end Sg
namespace Sg
open Go
set_option maxRecDepth 10000
section
variable {gens : List (List Int)} {mon : Bool}
def ofTup (s : Int × Bool × Int × List (List Int) × List (List Int) × List Int × List Int × List (List Int) × List Rule × List Str × List Int × List Int × (List (Str × Int))) : run :=
 ⟨⟨s.1, s.2.1, s.2.2.2.1, s.2.2.2.2.1, s.2.2.2.2.2.1, s.2.2.2.2.2.2.1, s.2.2.2.2.2.2.2.1, s.2.2.2.2.2.2.2.2.1, s.2.2.1⟩, s.2.2.2.2.2.2.2.2.2.2.2.2, s.2.2.2.2.2.2.2.2.2.1, s.2.2.2.2.2.2.2.2.2.2.1, s.2.2.2.2.2.2.2.2.2.2.2.1⟩
def Lim (gens : List (List Int)) (mon : Bool) (d : Nat) : Prop := ¬ Few gens ∧ (∃ s, RI gens mon d s ∧ d < s.words.length) ∧ ∀ d' s, d < d' → RI gens mon d' s → 2000 < s.words.length
theorem J2K {K : Enum → Int → Prop} (hg : GV gens = true) (hL : ∀ d, Lim gens mon d → K ⟨0, false, [], [], [], [], [], [], 0⟩ 3) (h : ∀ r, RI gens mon r.words.length r → r.words.length ≤ 2000 → K r.Enum 0) : J0r gens mon K := by
 unfold J0r
 refine J4s (fun hn => absurd ⟨(J0e.1 hg).1, (J0e.1 hg).2.1⟩ hn) (fun _ hn => by rw [hg] at hn; cases hn) fun _ r0 hr0 => ?_
 rw [Option.elim_some, if_pos rfl]
 refine LoopWP.to 2000 (fun s => (ofTup s).Enum.Done.toNat) (fun s => ∃ d, RI gens mon d (ofTup s) ∧ (ofTup s).words.length ≤ 2000) ⟨0, hr0, by have := hr0.wb; have : (ofTup (r0.Enum.Points, r0.Enum.Monoid, r0.Enum.Done, r0.Enum.Gens, r0.Enum.Elems, r0.Enum.Prefix, r0.Enum.Last, r0.Enum.Right, r0.Enum.Rules, r0.words, r0.behind, r0.single, r0.number)).words = r0.words := rfl; rw [this]; omega⟩ (fun s ⟨d, hd, hw⟩ => ?_) ?_
 ·have := hd.dl
  rw [hd.dn]; simp only [Int.toNat_natCast]; omega
 ·rintro ⟨k1, b1, k2, dg, de, dp, dlst, drt, dru, dw, db, ds, dm⟩ X ⟨d, hd, hw⟩ hX
  dsimp only
  unfold J2D
  have hdn : k2 = (d : Int) := hd.dn
  have hel : de.length = dw.length := hd.si.elen
  have hdl : d ≤ dw.length := hd.dl
  split
  ·rename_i e
   have e2 : d = dw.length := ω
   subst e2
   exact h (ofTup (k1, b1, k2, dg, de, dp, dlst, drt, dru, dw, db, ds, dm)) hd hw
  ·rename_i e
   refine J33 hg hd hw (show d < dw.length by omega) (fun hF hl q => ?_) fun r' hr' hw' => ?_
   ·rw [if_neg (by decide)]
    exact hL d ⟨hF, ⟨_, hd, show d < dw.length by omega⟩, hl⟩
   rw [if_pos rfl]
   refine hX (r'.Enum.Points, r'.Enum.Monoid, r'.Enum.Done, r'.Enum.Gens, r'.Enum.Elems, r'.Enum.Prefix, r'.Enum.Last, r'.Enum.Right, r'.Enum.Rules, r'.words, r'.behind, r'.single, r'.number) ⟨d + 1, hr', hw'⟩ ?_
   show r'.Enum.Done.toNat = k2.toNat + 1
   rw [hr'.dn, hdn]
   simp only [Int.toNat_natCast]
end
end Sg
namespace Sg
open Go
theorem J7S {α : Type} {r : α → α → Prop} (ir : ∀ a, ¬ r a a) (as : ∀ a b, r a b → ¬ r b a) : ∀ {W V : List α}, W.Pairwise r → V.Pairwise r → (∀ w, w ∈ W ↔ w ∈ V) → W = V
  | [], [], _, _, _ => rfl
  | [], v :: V, _, _, h => by have := (h v).2 (by simp); simp at this
  | w :: W, [], _, _, h => by have := (h w).1 (by simp); simp at this
  | w :: W, v :: V, hw, hv, h => by
    obtain ⟨w1, w2⟩ := List.pairwise_cons.1 hw
    obtain ⟨v1, v2⟩ := List.pairwise_cons.1 hv
    have e : w = v := by
      rcases List.mem_cons.1 ((h w).1 (by simp)) with k | k
      · exact k
      · rcases List.mem_cons.1 ((h v).2 (by simp)) with k2 | k2
        · exact k2.symm
        · exact absurd (v1 w k) (as _ _ (w1 v k2))
    subst e
    rw [J7S ir as w2 v2 fun x => ⟨fun hx => ?_, fun hx => ?_⟩]
    · rcases List.mem_cons.1 ((h x).1 (List.mem_cons_of_mem _ hx)) with k | k
      · subst k; exact absurd (w1 x hx) (ir x)
      · exact k
    · rcases List.mem_cons.1 ((h x).2 (List.mem_cons_of_mem _ hx)) with k | k
      · subst k; exact absurd (v1 x hx) (ir x)
      · exact k
section
variable {gens : List (List Int)} {mon : Bool}
theorem RU.uniq {R S : List Rule} {F : Str → Prop} (h : RU gens mon R F) (k : RU gens mon S F) : R = S :=
 J7S (r := fun a b : Rule => SL a.Left b.Left) (fun a => SL.irrefl _) (fun a b h => h.asymm) h.asc k.asc fun w => (h.mem w).trans (k.mem w).symm
theorem J8x {W : List Str} (hW : W.Pairwise SL) {P1 L1 B1 P2 L2 B2 : List Int} {i : Int} (h : AT mon W P1 L1 B1 i) (k : AT mon W P2 L2 B2 i) : ix P1 i = ix P2 i ∧ ix L1 i = ix L2 i ∧ ix B1 i = ix B2 i := by
 rcases h with ⟨a1, a2, a3, a4⟩ | ⟨p, b, a1, a2, a3, a4⟩ <;> rcases k with ⟨c1, c2, c3, c4⟩ | ⟨q, c, c1, c2, c3, c4⟩
 ·exact ⟨ω, ω, ω⟩
 ·rw [a1] at c1; simp at c1
 ·rw [c1] at a1; simp at a1
 ·rw [a1] at c1
  obtain ⟨e1, e2⟩ := List.append_inj' c1 rfl
  have e2 : b = c := by simpa using e2
  subst e1 e2
  exact ⟨a3.uniq hW c3, ω, a4.uniq hW c4⟩
theorem J92 {W : List Str} {F : Str → Prop} (h : RL gens mon W F) {i j : Int} (i0 : 0 ≤ i) (i1 : i < W.length) (j0 : 0 ≤ j) (j1 : j < W.length) (e : vl gens (ix W i) = vl gens (ix W j)) : i = j := by
 have := ((h.mem _).1 (J0U i0 i1)).1.uniq ((h.mem _).1 (J0U j0 j1)).1 e
 obtain ⟨a, rfl⟩ := Int.eq_ofNat_of_zero_le i0
 obtain ⟨b, rfl⟩ := Int.eq_ofNat_of_zero_le j0
 have := J3L h.asc (i := a) (j := b) ω ω this
 omega
theorem RI.J3E (hg : GV gens = true) {d : Nat} {r s : run} (h : RI gens mon d r) (k : RI gens mon d s) : r.words = s.words ∧ r.Enum = s.Enum := by
 have e := J88 hg h.si.rl k.si.rl h.dl k.dl
 refine ⟨e, ?_⟩
 obtain ⟨⟨Pt, Mo, Ge, El, Pr, La, Ri, Ru, Dn⟩, nu, wo, be, si⟩ := r
 obtain ⟨⟨Pt', Mo', Ge', El', Pr', La', Ri', Ru', Dn'⟩, nu', wo', be', si'⟩ := s
 obtain ⟨h1, h2, h3, h4, h5, h6, h7, h8, h9, h10, h11, h12⟩ := h
 obtain ⟨k1, k2, k3, k4, k5, k6, k7, k8, k9, k10, k11, k12⟩ := k
 simp only at e h1 h2 h3 h4 h5 h6 h7 h8 h9 k1 k2 k3 k4 k5 k6 k7 k8 k9
 subst e
 have eE : El = El' := by rw [h7.el, k7.el]
 have eR : Ru = Ru' := h7.ru.uniq k7.ru
 have pl := h7.pl
 have pl' := k7.pl
 have ll := h7.ll
 have ll' := k7.ll
 have eP : Pr = Pr' := J0b ω fun j hj => (J8x h7.rl.asc (h7.at_ j ω) (k7.at_ j ω)).1
 have eL : La = La' := J0b ω fun j hj => (J8x h7.rl.asc (h7.at_ j ω) (k7.at_ j ω)).2.1
 have r1 := h9.1
 have r2 := k9.1
 have eRi : Ri = Ri' := J0b ω fun i hi => by
  obtain ⟨a1, a2⟩ := h9.2 i ω
  obtain ⟨b1, b2⟩ := k9.2 i ω
  refine J0b ω fun y hy => ?_
  obtain ⟨x1, x2, x3⟩ := a2 y ω
  obtain ⟨y1, y2, y3⟩ := b2 y ω
  exact J92 h7.rl x1 x2 y1 y2 (x3.trans y3.symm)
 rw [h1, k1, h2, k2, h3, k3, h4, k4, eE, eR, eP, eL, eRi]
end
end Sg
namespace Sg
open Go
set_option maxRecDepth 10000
def VE (e : Enum) : Prop := GV e.Gens = true ∧ ∃ d r, RI e.Gens e.Monoid d r ∧ r.words.length ≤ 2000 ∧ r.Enum = e
theorem VE.done {e : Enum} (h : VE e) : ∃ d r, RI e.Gens e.Monoid d r ∧ r.words.length ≤ 2000 ∧ r.Enum = e ∧ e.Done = (d : Int) ∧ d ≤ r.words.length := by
 obtain ⟨hg, d, r, h1, h2, h3⟩ := h
 exact ⟨d, r, h1, h2, h3, h3 ▸ h1.dn, h1.dl⟩
theorem VE.of {e : Enum} {d : Nat} {r : run} (hg : GV e.Gens = true) (hr : RI e.Gens e.Monoid d r) (hd : e.Done = (d : Int)) (h : VE e) : r.Enum = e := by
 obtain ⟨d', s, k1, k2, k3, k4, k5⟩ := h.done
 have : d = d' := ω
 subst this
 rw [(hr.J3E hg k1).2, k3]
theorem FD_dn {gens : List (List Int)} {d : Nat} {W : List Str} {v w : Str} (h : SL v w) (hw : FD gens d W w) : FD gens d W v := FF.dn h hw
theorem RI.rlT {gens : List (List Int)} {mon : Bool} {r : run} (hg : GV gens = true) (hr : RI gens mon r.words.length r) : RL gens mon r.words (fun _ => True) := by
 have hk := (J0e.1 hg).2.1
 have h1 := hr.si.rl
 have hne := hr.ne
 unfold FD at h1
 rw [if_neg ω] at h1
 exact ⟨h1.asc, fun w => ⟨fun hw => ⟨((h1.mem w).1 hw).1, trivial⟩, fun hw => h1.all hg ω ω hw.1⟩⟩
theorem RI.J2v {gens : List (List Int)} {mon : Bool} {r s : run} {d : Nat} (hg : GV gens = true) (hr : RI gens mon r.words.length r) (hs : RI gens mon d s) : s.words.length ≤ r.words.length := by
 have := hs.ne
 have := (hs.si.rl.part (hr.rlT hg) (fun _ _ => trivial) (fun v w hvw hw => FD_dn hvw hw) (s.words.length - 1) ω).1
 omega
structure RK (e : Enum) (K : Option run → Bool → Prop) : Prop where
 no : ¬ VE e → K none false
 no' : ¬ VE e → ∀ r, K (some r) false
 yes : GV e.Gens = true → ∀ d r, RI e.Gens e.Monoid d r → r.words.length ≤ 2000 → r.Enum = e → K (some r) true
end Sg
namespace Sg
open Go
set_option maxRecDepth 10000
def Rch (gens : List (List Int)) (mon : Bool) (t : Nat) (r : run) : Prop := ∃ d, RI gens mon d r ∧ r.words.length ≤ 2000 ∧ (d = t ∨ (d = r.words.length ∧ d ≤ t))
def Fin (gens : List (List Int)) (mon : Bool) (r : run) : Prop := RI gens mon r.words.length r ∧ r.words.length ≤ 2000
section
variable {gens : List (List Int)} {mon : Bool}
theorem Rch.uniq (hg : GV gens = true) {t : Nat} {r s : run} (h : Rch gens mon t r) (k : Rch gens mon t s) : r.Enum = s.Enum ∧ r.words = s.words := by
 obtain ⟨d, h1, h2, h3⟩ := h
 obtain ⟨c, k1, k2, k3⟩ := k
 have hd := h1.dl
 have kd := k1.dl
 have e : d = c := by
  rcases h3 with h3 | ⟨h3, h4⟩ <;> rcases k3 with k3 | ⟨k3, k4⟩
  ·omega
  ·have := RI.J2v hg (k3 ▸ k1) h1; omega
  ·have := RI.J2v hg (h3 ▸ h1) k1; omega
  ·have := RI.J2v hg (k3 ▸ k1) h1
   have := RI.J2v hg (h3 ▸ h1) k1
   omega
 subst e
 exact ⟨(h1.J3E hg k1).2, (h1.J3E hg k1).1⟩
theorem Fin.uniq (hg : GV gens = true) {r s : run} (h : Fin gens mon r) (k : Fin gens mon s) : r.Enum = s.Enum ∧ r.words = s.words := by
 have a := RI.J2v hg h.1 k.1
 have b := RI.J2v hg k.1 h.1
 have e : r.words.length = s.words.length := ω
 have k1 := k.1
 rw [← e] at k1
 exact ⟨(h.1.J3E hg k1).2, (h.1.J3E hg k1).1⟩
theorem Lim.fin (hg : GV gens = true) {d : Nat} (h : Lim gens mon d) (r : run) : ¬ Fin gens mon r := fun hr => by
 obtain ⟨_, ⟨s, h1, h2⟩, h3⟩ := h
 have := hr.1.J2v hg h1
 have := h3 _ r ω hr.1
 have := hr.2
 omega
theorem Lim.rch (hg : GV gens = true) {d t : Nat} (h : Lim gens mon d) (hd : d < t) (r : run) : ¬ Rch gens mon t r := fun hr => by
 obtain ⟨_, ⟨s, h1, h2⟩, h3⟩ := h
 obtain ⟨c, k1, k2, k3⟩ := hr
 by_cases hc : d < c
 ·have := h3 c r hc k1; omega
 ·rcases k3 with k3 | ⟨k3, k4⟩
  ·omega
  ·have := RI.J2v hg (k3 ▸ k1) h1; omega
end
end Sg
namespace Sg
open Go
set_option maxRecDepth 10000
def fnd (E : List (List Int)) (f : List Int) : Int := if f ∈ E then (E.idxOf f : Int) else -1
theorem Jac {E : List (List Int)} (hn : E.Nodup) {i : Nat} (hi : i < E.length) : fnd E (ix E (i : Int)) = i := by
 have hm : ix E (i : Int) ∈ E := J0g.2 ⟨i, hi, rfl⟩
 have h1 : E.idxOf (ix E (i : Int)) < E.length := List.idxOf_lt_length_iff.2 hm
 have h2 : E[E.idxOf (ix E (i : Int))] = ix E (i : Int) := List.getElem_idxOf h1
 rw [fnd, if_pos hm]
 have := (List.getElem_inj hn).1 (h2.trans (ix_lt hi))
 omega
theorem J80 {E : List (List Int)} {f : List Int} (h : f ∉ E) : fnd E f = -1 := by rw [fnd, if_neg h]
theorem J6F {E : List (List Int)} {f : List Int} (h : f ∈ E) : 0 ≤ fnd E f ∧ fnd E f < E.length ∧ ix E (fnd E f) = f := by
 have h1 : E.idxOf f < E.length := List.idxOf_lt_length_iff.2 h
 rw [fnd, if_pos h]
 refine ⟨ω, ω, ?_⟩
 rw [ix_lt h1]; exact List.getElem_idxOf h1
section
variable {gens : List (List Int)} {mon : Bool} {F : Str → Prop} {E : List (List Int)} {Pf Ls : List Int} {R : List Rule} {W : List Str} {Bh : List Int} {m : List (Str × Int)} {r : run}
theorem SI.fnd_ (h : SI gens mon F E Pf Ls R W Bh m) {i : Int} (h0 : 0 ≤ i) (h1 : i < W.length) {f : List Int} (he : vl gens (ix W i) = f) : fnd E f = i := by
 obtain ⟨j, rfl⟩ := Int.eq_ofNat_of_zero_le h0
 rw [← he, ← h.eix h0 h1]
 exact Jac h.nodup (by rw [h.elen]; omega)
theorem SI.mgt_ (h : SI gens mon F E Pf Ls R W Bh m) {f : List Int} (hf : f ∈ E) : mgt m (txt f) = fnd E f := by
 obtain ⟨k0, k1, k2⟩ := h.num hf
 exact (h.fnd_ k0 k1 k2).symm
theorem RI.gm {d : Nat} (h : RI gens mon d r) : r.Enum.Gens = gens ∧ r.Enum.Monoid = mon := ⟨h.gn, h.mon_⟩
def ALg (gens : List (List Int)) (W : List Str) (u w : Str) (j : Int) (k : Nat) : Prop := (k = 0 ∧ j = -1 ∧ u = []) ∨ (0 ≤ j ∧ j < W.length ∧ vl gens (ix W j) = vl gens (u ++ w.take k))
theorem J8O {u v : Str} (h : vl gens u = vl gens v) (b : UInt8) : vl gens (u ++ [b]) = vl gens (v ++ [b]) := by rw [J2k, J2k, h]
theorem ALg.step {u w : Str} {j : Int} {k : Nat} (hg : GV gens = true) (hr : RI gens mon r.words.length r) (h : ALg gens r.words u w j k) (hk : k < w.length) (hw : LW gens.length w) :
  0 ≤ IntKind.i64.wrap (IntKind.u8.wrap (((ix w (k : Int)).toNat : Int) - 97)) ∧ IntKind.i64.wrap (IntKind.u8.wrap (((ix w (k : Int)).toNat : Int) - 97)) < gens.length ∧ r.single.length = gens.length ∧ r.Enum.Right.length = r.words.length ∧
  (j = -1 → ALg gens r.words u w (ix r.single (IntKind.i64.wrap (IntKind.u8.wrap (((ix w (k : Int)).toNat : Int) - 97)))) (k + 1)) ∧
  (j ≠ -1 → 0 ≤ j ∧ j < r.words.length ∧ (ix r.Enum.Right j).length = gens.length ∧ ALg gens r.words u w (ix (ix r.Enum.Right j) (IntKind.i64.wrap (IntKind.u8.wrap (((ix w (k : Int)).toNat : Int) - 97)))) (k + 1)) := by
 have hk6 := (J0e.1 hg).2.1
 have hb := hw (ix w (k : Int)) (J0g.2 ⟨k, hk, rfl⟩)
 obtain ⟨x, hx, hbx⟩ := LW.letter (k := gens.length) ω (b := ix w (k : Int)) (LW.one.2 hb)
 have e : IntKind.i64.wrap (IntKind.u8.wrap (((ix w (k : Int)).toNat : Int) - 97)) = (x : Int) := by
  rw [wrapL hb.1, hbx, J09 ω]; omega
 rw [e]
 have ht : w.take (k + 1) = w.take k ++ [lt x] := by rw [J2A hk, hbx]
 refine ⟨ω, ω, hr.sg.1, hr.rt.1, fun hj => ?_, fun hj => ?_⟩
 ·rcases h with ⟨h1, h2, h3⟩ | ⟨h1, h2, h3⟩
  ·obtain ⟨s1, s2, s3⟩ := hr.sg.2 x hx
   refine .inr ⟨s1, s2, ?_⟩
   rw [s3, ht, h1, h3]; rfl
  ·omega
 ·rcases h with ⟨h1, h2, h3⟩ | ⟨h1, h2, h3⟩
  ·omega
  ·obtain ⟨i, rfl⟩ := Int.eq_ofNat_of_zero_le h1
   obtain ⟨r1, r2⟩ := hr.rt.2 i ω
   obtain ⟨r3, r4, r5⟩ := r2 x hx
   refine ⟨h1, h2, r1, .inr ⟨r3, r4, ?_⟩⟩
   rw [r5, ht, ← List.append_assoc]
   exact J8O h3 _
theorem LW_WV {w : Str} {n : Nat} (h : LW n w) (h1 : 1 ≤ n) (h6 : n ≤ 6) (hl : w.length ≤ 2048) : WV w n = true := J81.2 ⟨ω, ω, hl, fun j hj => by
 have := h (ix w j) (J0g.2 ⟨j, hj, rfl⟩)
 omega⟩
end
end Sg
namespace Sg
open Go
set_option maxRecDepth 10000
def tabT (E : List (List Int)) : List (List Int) := E.map fun f => E.map fun g => fnd E (compF f g)
section
variable {gens : List (List Int)} {mon : Bool} {r : run}
theorem RI.J6M (hr : RI gens mon r.words.length r) {q : Int} {x : Nat} {w : Str} (q0 : 0 ≤ q) (q1 : q < r.words.length) (hx : x < gens.length) (hq : vl gens (ix r.words q) = vl gens w) :
  q < r.Enum.Right.length ∧ (ix r.Enum.Right q).length = gens.length ∧ 0 ≤ ix (ix r.Enum.Right q) x ∧ ix (ix r.Enum.Right q) x < r.words.length ∧ vl gens (ix r.words (ix (ix r.Enum.Right q) x)) = vl gens (w ++ [lt x]) := by
 obtain ⟨i, rfl⟩ := Int.eq_ofNat_of_zero_le q0
 obtain ⟨r1, r2⟩ := hr.rt.2 i ω
 obtain ⟨r3, r4, r5⟩ := r2 x hx
 have := hr.rt.1
 exact ⟨ω, r1, r3, r4, by rw [r5]; exact J8O hq _⟩
theorem J9C {E : List (List Int)} {i x : Nat} (hi : i < E.length) (hx : x < E.length) : ix (ix (tabT E) i) x = fnd E (compF (ix E i) (ix E x)) := by
 rw [tabT, J4F _ ω ω, J4F _ ω ω]
theorem J7I {E : List (List Int)} {i : Nat} (hi : i < E.length) : (ix (tabT E) i).length = E.length := by
 rw [tabT, J4F _ ω ω]; simp
theorem J8n (hg : GV gens = true) (hr : RI gens mon r.words.length r) {i j : Nat} (hi : i < r.words.length) (hj : j < r.words.length) {v : Int} (v0 : 0 ≤ v) (v1 : v < r.words.length) (hv : vl gens (ix r.words v) = vl gens (ix r.words i ++ ix r.words j)) : v = ix (ix (tabT r.Enum.Elems) i) j := by
 have hel := hr.si.elen
 have hw := (hr.si.red (i := (i : Int)) ω ω).1.1
 have hw2 := (hr.si.red (i := (j : Int)) ω ω).1.1
 rw [J9C ω ω, hr.si.eix ω ω, hr.si.eix ω ω, ← J5K hg hw hw2]
 exact (hr.si.fnd_ v0 v1 hv).symm
theorem J9P (hg : GV gens = true) (hr : RI gens mon r.words.length r) {i j : Nat} (hi : i < r.words.length) (hj : j < r.words.length) : 0 ≤ ix (ix (tabT r.Enum.Elems) i) j ∧ ix (ix (tabT r.Enum.Elems) i) j < r.words.length ∧ vl gens (ix r.words (ix (ix (tabT r.Enum.Elems) i) j)) = vl gens (ix r.words i ++ ix r.words j) := by
 have w1 := (hr.si.red (i := (i : Int)) ω ω).1
 have w2 := (hr.si.red (i := (j : Int)) ω ω).1
 have hwd : Wd gens mon (ix r.words i ++ ix r.words j) := ⟨LW.app.2 ⟨w1.1, w2.1⟩, w1.2.imp id fun h => by simp [h]⟩
 obtain ⟨s, s1, s2, s3⟩ := J4V hwd
 obtain ⟨q, hq, e⟩ := J0g.1 (((hr.rlT hg).mem s).2 ⟨s1, trivial⟩)
 have h := J8n hg hr hi hj (v := (q : Int)) ω ω (by rw [e, s2])
 rw [← h]
 exact ⟨ω, ω, by rw [e, s2]⟩
end
end Sg
namespace Sg
open Go
set_option maxRecDepth 10000
theorem J8T {a b : Enum} : a = b ↔ a.Points = b.Points ∧ a.Monoid = b.Monoid ∧ a.Done = b.Done ∧ a.Gens = b.Gens ∧ a.Elems = b.Elems ∧ a.Prefix = b.Prefix ∧ a.Last = b.Last ∧ a.Right = b.Right ∧ a.Rules = b.Rules := by
 cases a; cases b
 simp only [Enum.mk.injEq]
 constructor
 ·rintro ⟨h1, h2, h3, h4, h5, h6, h7, h8, h9⟩; exact ⟨h1, h2, h9, h3, h4, h5, h6, h7, h8⟩
 ·rintro ⟨h1, h2, h9, h3, h4, h5, h6, h7, h8⟩; exact ⟨h1, h2, h3, h4, h5, h6, h7, h8, h9⟩
section
variable {gens : List (List Int)} {mon : Bool} {r : run}
end
end Sg
namespace Sg
open Go
set_option maxRecDepth 10000
section
variable {gens : List (List Int)} {mon : Bool} {r : run}
end
end Sg
namespace Sg
open Go
set_option maxRecDepth 10000
section
variable {gens : List (List Int)} {mon : Bool} {r : run}
end
end Sg
namespace Sg
open Go
set_option maxRecDepth 10000
section
variable {gens : List (List Int)} {mon : Bool} {r : run}
end
end Sg
namespace Sg
open Go
set_option maxRecDepth 10000
theorem J8G {E : List (List Int)} {f : List Int} {k : Nat} (hk : k < E.length) (he : ix E (k : Int) = f) (hn : ∀ j : Nat, j < k → ix E (j : Int) ≠ f) : fnd E f = k := by
 have hm : f ∈ E := J0g.2 ⟨k, hk, he⟩
 have h1 : E.idxOf f < E.length := List.idxOf_lt_length_iff.2 hm
 have h2 : E[E.idxOf f] = f := List.getElem_idxOf h1
 rw [fnd, if_pos hm]
 rcases Nat.lt_trichotomy (E.idxOf f) k with h | h | h
 ·exact absurd (by rw [ix_lt h1]; exact h2) (hn _ h)
 ·rw [h]
 ·exfalso
  have := List.not_of_lt_findIdx (p := (· == f)) (xs := E) (i := k) (by simpa [List.idxOf] using h)
  rw [← ix_lt hk, he] at this
  simp at this
theorem J24 {E : List (List Int)} {f : List Int} {K : Int → Prop} (h : K (fnd E f)) : J14 E f K := by
 unfold J14
 intro _
 refine LoopWP.to E.length (fun k : Nat => k) (fun k => k ≤ E.length ∧ ∀ j : Nat, j < k → ix E (j : Int) ≠ f) ⟨ω, fun j hj => by omega⟩ (fun s h => h.1) ?_
 rintro k X ⟨hk, hI⟩ hX
 show J38 E f K X k
 unfold J38
 split
 ·refine ⟨ω, ω, J22 ?_⟩
  by_cases he : ix E (k : Int) = f
  ·rw [if_pos (by simpa using he)]
   rw [J8G ω he hI] at h; exact h
  ·rw [if_neg (by simpa using he)]
   refine hX (k + 1) ⟨ω, upS hI he⟩ rfl
 ·rw [J80 fun hm => ?_] at h
  ·exact h
  ·obtain ⟨j, hj, e⟩ := J0g.1 hm
   exact hI j ω e
theorem J1j {x : Nat} {K : Str → Prop} (hx : x < 159) (h : K [lt x]) : J0z (x : Int) K := by
 unfold J0z
 refine ⟨⟨ω, ω⟩, ?_⟩
 have e : byt [IntKind.u8.wrap ((97 : Int) + (x : Int))] = [lt x] := by
  simp only [byt, List.map_cons, List.map_nil, lt]
  congr 1
  rw [IntKind.wrap_u8]
  congr 1
  omega
 rw [e]; exact h
theorem J6H {a : List (List Int)} {K : List (List Int) → Prop} (hl : a.length ≤ 1000000000) (hr : ∀ f ∈ a, f.length ≤ 1000000000) (h : K a) : J2Z a K := by
 unfold J2Z
 intro _
 refine LoopWP.to a.length (fun s : Nat × List (List Int) => s.1) (fun s => s.1 ≤ a.length ∧ s.2 = a.take s.1) ⟨by simp, by simp⟩ (fun s h => h.1) ?_
 rintro ⟨k, d⟩ X ⟨hk, hd⟩ hX
 simp only at hk hd
 subst hd
 dsimp only
 unfold J4i
 split
 ·have := hr _ (J0U (xs := a) (i := (k : Int)) ω ω)
  refine ⟨ω, ω, by simp; omega, by simp; omega, hX (k + 1, _) ⟨by simp only; omega, ?_⟩ rfl⟩
  simp only [List.nil_append]
  rw [J2A ω]
 ·rw [J4B ω]; exact h
section
variable {gens : List (List Int)} {mon : Bool} {F : Str → Prop} {E : List (List Int)} {Pf Ls : List Int} {R : List Rule} {W : List Str} {Bh : List Int} {m : List (Str × Int)} {r : run}
theorem J1r (hg : GV gens = true) (h : SI gens mon F E Pf Ls R W Bh m) {e : Enum} (hp : e.Prefix = Pf) (hl : e.Last = Ls) {i : Int} (i0 : 0 ≤ i) (i1 : i < W.length) (hw : (ix W i).length ≤ 1000000000) {K : Str → Prop} (hK : K (ix W i)) : J0N e i K := by
 have hk6 := (J0e.1 hg).2.1
 unfold J0N
 refine LoopWP.intro (fun s : Int × Str => (0 ≤ s.1 ∧ s.1 < W.length ∧ ix W s.1 ++ s.2 = ix W i) ∨ (s.1 = -1 ∧ s.2 = ix W i)) (fun s => if 0 ≤ s.1 then (ix W s.1).length + 1 else 0) (.inl ⟨i0, i1, by simp⟩) ?_
 rintro ⟨j, acc⟩ X hI hX
 simp only at hI
 dsimp only
 unfold J4H
 have hpl := h.pl
 have hll := h.ll
 rcases hI with ⟨j0, j1, he⟩ | ⟨j0, he⟩
 ·rw [if_pos j0]
  refine ⟨j0, by rw [hl]; omega, ?_⟩
  obtain ⟨q, rfl⟩ := Int.eq_ofNat_of_zero_le j0
  rw [hl, hp]
  rcases h.at_ q ω with ⟨a1, a2, a3, a4⟩ | ⟨p, b, a1, a2, a3, a4⟩
  ·rw [if_neg ω]
   rw [a1, List.nil_append] at he
   rw [he]; exact hK
  ·have hlw := (h.red (i := (q : Int)) ω ω).1.1
   rw [a1] at hlw
   obtain ⟨x, hx, rfl⟩ := LW.letter ω (LW.app.1 hlw).2
   rw [J09 ω] at a2
   have e2 : ix Ls (q : Int) = (x : Int) := ω
   rw [e2, if_pos ω]
   have hlen := congrArg List.length he
   simp only [List.length_append] at hlen
   refine ⟨ω, ω, J1j ω ⟨by simp; omega, ω, ω, hX (_, _) ?_ ?_⟩⟩
   ·simp only
    rcases a3 with ⟨c1, c2, c3⟩ | ⟨c1, c2, c3, c4⟩
    ·refine .inr ⟨c3, ?_⟩
     rw [← he, a1, c1]; rfl
    ·refine .inl ⟨c2, c3, ?_⟩
     rw [← he, a1, c4, List.append_assoc]
   ·simp only
    rw [if_pos j0, a1]
    rcases a3 with ⟨c1, c2, c3⟩ | ⟨c1, c2, c3, c4⟩
    ·rw [if_neg ω]; omega
    ·rw [if_pos c2, c4]; simp
 ·rw [if_neg ω, he]; exact hK
theorem BI.J7N {x : Nat} {sg : List Int} (h : BI gens mon x E Pf Ls R W Bh sg m) (hx : x ≤ 6) {i : Int} (i0 : 0 ≤ i) (i1 : i < W.length) : (ix W i).length ≤ 1000000000 := by
 obtain ⟨j, rfl⟩ := Int.eq_ofNat_of_zero_le i0
 have := h.si.wl j ω
 have := h.wb
 omega
theorem J52 (hg : GV gens = true) {K : Enum → Int → Prop} (h3 : ∀ r, RI gens false 0 r → K r.Enum 0) :
  LoopWP (S := Nat × List Rule × List Int × List Int × List (List Int)) (fun s X => J2V gens gens K (fun k1_79 d_80 d_86 d_92 d_98 => X (k1_79, d_80, d_86, d_92, d_98)) s.1 s.2.1 s.2.2.1 s.2.2.2.1 s.2.2.2.2) (0, [], [], [], []) := by
 have hk := J0e.1 hg
 refine LoopWP.to gens.length (fun s => s.1) (fun s => s.1 ≤ gens.length ∧ ∃ W Bh sg m, BI gens false s.1 s.2.2.2.2 s.2.2.2.1 s.2.2.1 s.2.1 W Bh sg m) ⟨by simp, [], [], [], [], BI.start0 hg⟩ (fun s h => h.1) ?_
 rintro ⟨k, R, Ls, Pf, E⟩ X ⟨hkl, W, Bh, sg, m, hI⟩ hX
 simp only at hkl hI
 have hl := hI.si.elen
 have wb := hI.wb
 have rb := hI.rb
 have pl := hI.si.pl
 have ll := hI.si.ll
 dsimp only
 unfold J2V
 split
 ·rename_i hlt
  have hlt' : k < gens.length := ω
  have hv := hk.2.2 k hlt'
  have hvl := VF.len hv.1
  refine ⟨ω, ω, J24 ?_⟩
  split
  ·rename_i h0
   have hf : ix gens (k : Int) ∈ E := Classical.byContradiction fun hn => by rw [J80 hn] at h0; omega
   obtain ⟨k0, k1, k2⟩ := hI.known hg hlt' hf
   rw [hI.si.mgt_ hf] at k0 k1 k2
   refine J1j ω (J1r hg hI.si rfl rfl k0 k1 (hI.J7N ω k0 k1) ⟨by simp; omega, hX (k + 1, _) ⟨by simp only; omega, _, _, _, _, k2⟩ rfl⟩)
  ·rename_i h0
   have hf : ix gens (k : Int) ∉ E := fun hf => by have := (J6F hf).1; omega
   have k2 := hI.new hg hlt' hf (e := -1) (by simp)
   exact ⟨by simp; omega, by simp; omega, by simp; omega, by simp; omega, hX (k + 1, _) ⟨by simp only; omega, _, _, _, _, by simpa using k2⟩ rfl⟩
 ·have : k = gens.length := ω
  subst this
  exact h3 _ (hI.fin hg)
theorem J4Z (hg : GV gens = true) {K : Enum → Int → Prop} (h3 : ∀ r, RI gens true 0 r → K r.Enum 0) :
  LoopWP (S := Nat × List Rule × List Int × List Int × List (List Int)) (fun s X => J2T gens gens K (fun k1_79 d_80 d_86 d_92 d_98 => X (k1_79, d_80, d_86, d_92, d_98)) s.1 s.2.1 s.2.2.1 s.2.2.2.1 s.2.2.2.2) (0, [], [-1], [-1], [iota (ix gens 0).length]) := by
 have hk := J0e.1 hg
 refine LoopWP.to gens.length (fun s => s.1) (fun s => s.1 ≤ gens.length ∧ ∃ W Bh sg m, BI gens true s.1 s.2.2.2.2 s.2.2.2.1 s.2.2.1 s.2.1 W Bh sg m) ⟨by simp, _, _, _, _, BI.start1 hg⟩ (fun s h => h.1) ?_
 rintro ⟨k, R, Ls, Pf, E⟩ X ⟨hkl, W, Bh, sg, m, hI⟩ hX
 simp only at hkl hI
 have hl := hI.si.elen
 have wb := hI.wb
 have rb := hI.rb
 have pl := hI.si.pl
 have ll := hI.si.ll
 dsimp only
 unfold J2T
 split
 ·rename_i hlt
  have hlt' : k < gens.length := ω
  have hv := hk.2.2 k hlt'
  have hvl := VF.len hv.1
  refine ⟨ω, ω, J24 ?_⟩
  split
  ·rename_i h0
   have hf : ix gens (k : Int) ∈ E := Classical.byContradiction fun hn => by rw [J80 hn] at h0; omega
   obtain ⟨k0, k1, k2⟩ := hI.known hg hlt' hf
   rw [hI.si.mgt_ hf] at k0 k1 k2
   refine J1j ω (J1r hg hI.si rfl rfl k0 k1 (hI.J7N ω k0 k1) ⟨by simp; omega, hX (k + 1, _) ⟨by simp only; omega, _, _, _, _, k2⟩ rfl⟩)
  ·rename_i h0
   have hf : ix gens (k : Int) ∉ E := fun hf => by have := (J6F hf).1; omega
   have k2 := hI.new hg hlt' hf (e := 0) (by simp)
   exact ⟨by simp; omega, by simp; omega, by simp; omega, by simp; omega, hX (k + 1, _) ⟨by simp only; omega, _, _, _, _, by simpa using k2⟩ rfl⟩
 ·have : k = gens.length := ω
  subst this
  exact h3 _ (hI.fin hg)
theorem J5U {K : Enum → Int → Prop} (h1 : ¬ (1 ≤ gens.length ∧ gens.length ≤ 6) → K ⟨0, false, [], [], [], [], [], [], 0⟩ 1) (h2 : 1 ≤ gens.length ∧ gens.length ≤ 6 → GV gens = false → K ⟨0, false, [], [], [], [], [], [], 0⟩ 4)
    (h3 : GV gens = true → ∀ r, RI gens mon 0 r → Rch gens mon 0 r → K r.Enum 0) : J2j gens mon K := by
  unfold J2j
  intro _
  split
  · exact h1 ω
  · split
    · exact h1 ω
    · refine J5j ?_
      split
      · rename_i hg
        have hk := J0e.1 hg
        have hl0 := GV.len0 hg
        refine ⟨ω, ω, fun _ => J6H ω (fun f hf => ?_) ?_⟩
        · obtain ⟨j, hj, rfl⟩ := J0g.1 hf
          have := VF.len (hk.2.2 j hj).1
          omega
        have fin : ∀ r, RI gens mon 0 r → K r.Enum 0 := fun r hr => h3 hg r hr ⟨0, hr, by have := hr.wb; omega, .inl rfl⟩
        cases mon with
        | false =>
          rw [if_neg (by decide)]
          exact J52 hg fin
        | true =>
          rw [if_pos rfl]
          refine J1D ω ω ?_
          rw [Int.toNat_natCast]
          exact J4Z hg fin
      · rename_i hg
        exact h2 ω (by simpa using hg)
end
end Sg
namespace Sg
open Go
set_option maxRecDepth 10000
def LS (W : List Str) (lm : List (Str × Int)) : Prop := ∀ w, mhas lm w = true ↔ w ∈ W
theorem LS.nil : LS [] [] := fun w => by simp [mhas]
theorem LS.put {W : List Str} {lm : List (Str × Int)} (h : LS W lm) (w : Str) (v : Int) : LS (W ++ [w]) (mput lm w v) := fun u => by
 rw [J3c, Bool.or_eq_true, decide_eq_true_eq, h u, List.mem_append, List.mem_singleton]
 exact ⟨fun k => k.elim .inr .inl, fun k => k.elim .inr .inl⟩
theorem J7g {xs : List Int} {x : Nat} {q : Int} (h : x < xs.length) : (st xs (x : Int) q).take (x + 1) = xs.take x ++ [q] := by
 have h2 : x < (st xs (x : Int) q).length := by simpa using h
 rw [J2A h2, ix_st _ ω ω ω, if_pos rfl]
 congr 1
 simp only [st, Int.toNat_natCast, List.take_set]
 exact List.set_eq_of_length_le (by simp; omega)
section
variable {gens : List (List Int)} {mon : Bool} {F : Str → Prop} {E : List (List Int)} {Pf Ls : List Int} {R : List Rule} {W : List Str} {Bh : List Int} {m lm : List (Str × Int)} {sg : List Int} {Rt : List (List Int)} {d x : Nat} {row : List Int} {r : run}
theorem PI.J7X (hg : GV gens = true) (h : PI gens mon sg Rt d x row E Pf Ls R W Bh m) (hx : x < gens.length) (hf : vl gens (ix W d ++ [lt x]) ∈ E) (hu : ix W d ≠ []) : MN gens mon (ix W d ++ [lt x]) ↔ (ix W d ++ [lt x]).tail ∈ W := by
 have hk := (J0e.1 hg).2.1
 have a : RL gens mon W (fun w => SL w (ix W d ++ [lt x])) := h.si.rl.congr fun w _ => FF_ne hu x w
 obtain ⟨h0, h1, h2⟩ := h.si.num hf
 have nr := (a.known ω (J0U h0 h1) h2).1
 rw [J2x hu, a.mem]
 constructor
 ·intro hm
  have ht := hm.tail
  rw [J2x hu] at ht
  refine ⟨ht.resolve_left (by simp), .inl ?_⟩
  have := List.length_pos_iff.2 hu
  simp; omega
 ·rintro ⟨e, _⟩
  exact ⟨LW.app.2 ⟨h.u_red.1.1, LW.lt hx ω⟩, by simp, nr, .inr (by rw [J6V]; exact h.u_red), .inr (by rw [J2x hu]; exact e)⟩
theorem PI.notThere (hg : GV gens = true) (h : PI gens mon sg Rt d x row E Pf Ls R W Bh m) (hx : x < gens.length) (hu : ix W d ≠ []) {q : Int} (q0 : 0 ≤ q) (q1 : q < W.length) : ix W q ≠ ix W d ++ [lt x] := fun e => by
 have a : RL gens mon W (fun w => SL w (ix W d ++ [lt x])) := h.si.rl.congr fun w _ => FF_ne hu x w
 have := ((a.mem _).1 (J0U q0 q1)).2
 rw [e] at this
 exact SL.irrefl _ this
theorem J4M (hg : GV gens = true) {a0 : Enum} (ha : a0.Gens = gens) (hr : RI gens mon d r) (hw : r.words.length ≤ 2000) (hd : d < r.words.length) {b : Int} (hb : b ≤ 9223372036854775807) (hb1 : 0 < b) (hlm : LS r.words lm)
  {X2 : Int → Int → List Str → List (Str × Int) → List Rule → List (List Int) → List Int → List Int → List (List Int) → Prop} {K : Enum → Int → Prop} (hL : ¬ Few gens → (∀ d' s, d < d' → RI gens mon d' s → 2000 < s.words.length) → K ⟨0, false, [], [], [], [], [], [], 0⟩ 3)
  (hX : ∀ r' lm', RI gens mon (d + 1) r' → r'.words.length ≤ 2000 → LS r'.words lm' → X2 (b - 1) ((d : Int) + 1) r'.words lm' r'.Enum.Rules r'.Enum.Right r'.Enum.Last r'.Enum.Prefix r'.Enum.Elems) :
  LoopWP (S := Nat × List Int × List Str × (List (Str × Int)) × List Rule × List Int × List Int × List (List Int)) (fun s X => J1Q a0 b (d : Int) r.words r.Enum.Right X2 K (fun k3_267 d_268 d_274 m3_280 d_281 d_287 d_293 d_299 => X (k3_267, d_268, d_274, m3_280, d_281, d_287, d_293, d_299)) s.1 s.2.1 s.2.2.1 s.2.2.2.1 s.2.2.2.2.1 s.2.2.2.2.2.1 s.2.2.2.2.2.2.1 s.2.2.2.2.2.2.2)
   (0, [], r.words, lm, r.Enum.Rules, r.Enum.Last, r.Enum.Prefix, r.Enum.Elems) := by
 have hgv := J0e.1 hg
 refine LoopWP.to gens.length (fun s => s.1) (fun s => s.1 ≤ gens.length ∧ (∃ row Bh m, row.take s.1 = s.2.1 ∧ PI gens mon r.single r.Enum.Right d s.1 row s.2.2.2.2.2.2.2 s.2.2.2.2.2.2.1 s.2.2.2.2.2.1 s.2.2.2.2.1 s.2.2.1 Bh m) ∧ ix s.2.2.1 (d : Int) = ix r.words (d : Int) ∧ s.2.2.1.length ≤ 2000 ∧ LS s.2.2.1 s.2.2.2.1)
  ⟨by simp, ⟨_, _, _, rfl, hr.pi hg hd⟩, rfl, hw, hlm⟩ (fun s h => h.1) ?_
 rintro ⟨x, rw_, W, lm, R, Ls, Pf, E⟩ X ⟨hxl, ⟨row, Bh, m, hrow, hI⟩, huW, few, hlm⟩ hX'
 simp only at hxl hrow hI huW few hlm
 have hel := hI.si.elen
 have rb := hI.rb
 have pl := hI.si.pl
 have ll := hI.si.ll
 have rl := hI.rw_
 have hdl := hI.dl
 have rtl := hI.rt.1
 have hrl : rw_.length = x := by rw [← hrow]; simp; omega
 dsimp only
 unfold J1Q
 rw [ha, ← huW]
 split
 ·rename_i hlt
  have hx : x < gens.length := ω
  have hv := hgv.2.2 x hx
  have hu := hI.u_red
  have hwl := hI.si.wl d hdl
  have huv := vl_ok hg hu.1.1
  have hvf := hI.si.vf hg
  have hE : VF (ix E (d : Int)) = true ∧ (ix E (d : Int)).length = (ix gens 0).length := hvf _ (J0U ω ω)
  have hcp : compF (ix E (d : Int)) (ix gens (x : Int)) = vl gens (ix W d ++ [lt x]) := by
   rw [hI.si.eix ω ω, J2k, J09 ω, show ((97 + x : Nat) : Int) - 97 = (x : Int) by omega]
  have hcv := vl_ok hg (w := ix W d ++ [lt x]) (LW.app.2 ⟨hu.1.1, LW.lt hx ω⟩)
  have hcl := VF.len hE.1
  refine ⟨ω, ω, ω, ω, J1R ω (fun j hj => ?_) ?_⟩
  ·have := (J1v.1 hE.1).2.2 j hj
   omega
  rw [hcp]
  refine J24 (J1j ω ⟨by simp; omega, ?_⟩)
  have app : ∀ q, (st row (x : Int) q).take (x + 1) = rw_ ++ [q] := fun q => by rw [J7g ω, hrow]
  split
  ·rename_i hm
   have hf : vl gens (ix W d ++ [lt x]) ∉ E := fun hf => by have := (J6F hf).1; omega
   have hu0 : ix W d ≠ [] := fun k => hf (hI.J5O hg hx k)
   have hln : (¬ Few gens ∨ Few gens) := (Classical.em _).symm
   split
   ·rename_i h2000
    have h2000' : W.length = 2000 := ω
    refine hL (fun hF => ?_) (fun d' s hd' hs => h2000' ▸ hI.limit hg hx hu0 hf hd' hs)
    have := hF (vl gens (ix W d ++ [lt x]) :: E) (List.nodup_cons.2 ⟨hf, hI.si.nodup⟩) fun f hm => by
     rcases List.mem_cons.1 hm with rfl | hm
     ·exact hcv
     ·exact hvf f hm
    simp only [List.length_cons] at this
    omega
   ·rename_i h2000
    obtain ⟨hb', hq⟩ := J5r hI.si hdl hx hI.sg hI.rt hu0
    have hnew : ∃ Bh' m', PI gens mon r.single r.Enum.Right d (x + 1) (st row (x : Int) (E.length : Int)) (E ++ [vl gens (ix W d ++ [lt x])]) (Pf ++ [(d : Int)]) (Ls ++ [(x : Int)]) R (W ++ [ix W d ++ [lt x]]) Bh' m' := by
     rcases hq with ⟨e0, q0, q1, q2⟩ | ⟨e0, e1, e2, e3, q0, q1, q2⟩
     ·exact ⟨_, _, hI.new hg hx hu0 hf q0 q1 q2⟩
     ·exact ⟨_, _, hI.new hg hx hu0 hf q0 q1 q2⟩
    obtain ⟨Bh', m', hn⟩ := hnew
    refine ⟨by simp; omega, by simp; omega, by simp; omega, by simp; omega, by simp; omega, hX' (x + 1, _) ⟨by simp only; omega, ⟨_, Bh', m', app _, hn⟩, ?_, by simp; omega, hlm.put _ _⟩ rfl⟩
    simp only
    rw [ixA hdl]; exact huW
  ·rename_i hm
   have hf : vl gens (ix W d ++ [lt x]) ∈ E := Classical.byContradiction fun hn => by rw [J80 hn] at hm; omega
   have hq := hI.si.mgt_ hf
   obtain ⟨k0, k1, k2⟩ := hI.si.num hf
   rw [hq] at k0 k1
   have skip : (ix W d ≠ [] → ¬ MN gens mon (ix W d ++ [lt x])) → X (x + 1, rw_ ++ [fnd E (vl gens (ix W d ++ [lt x]))], W, lm, R, Ls, Pf, E) := fun hn => by
    have p := hI.skip hg hx hf hn
    rw [hq] at p
    exact hX' (x + 1, _) ⟨by simp only; omega, ⟨_, Bh, m, app _, p⟩, huW, few, hlm⟩ rfl
   split
   ·rename_i hu0
    exact ⟨by simp; omega, skip fun hn => absurd hu0 hn⟩
   ·rename_i hu0
    refine ⟨k0, k1, ?_⟩
    rw [if_neg (hI.notThere hg hx hu0 k0 k1)]
    refine ⟨ω, by simp only [List.length_append, List.length_singleton]; omega, ?_⟩
    have ht : (ix W (d : Int) ++ [lt x]).drop (1 : Int).toNat = (ix W (d : Int) ++ [lt x]).tail := by
     rw [show (1 : Int).toNat = 1 from rfl, List.drop_one]
    rw [ht]
    split
    ·rename_i hh
     have p := hI.rule hg hx hf hu0 ((hI.J7X hg hx hf hu0).2 ((hlm _).1 hh))
     rw [hq] at p
     exact ⟨k0, k1, by simp; omega, by simp; omega, hX' (x + 1, _) ⟨by simp only; omega, ⟨_, Bh, m, app _, p⟩, huW, few, hlm⟩ rfl⟩
    ·rename_i hh
     exact ⟨by simp; omega, skip fun _ hmn => hh ((hlm _).2 ((hI.J7X hg hx hf hu0).1 hmn))⟩
 ·have hxg : x = gens.length := ω
  subst hxg
  have hre : row = rw_ := by rw [← hrow, J4B ω]
  subst hre
  have rtd := hr.rt.1
  refine ⟨by simp; omega, ⟨ω, ω⟩, ⟨ω, ω⟩, ?_⟩
  exact hX _ lm (hI.fin hg hr) few hlm
theorem J5k {t : Nat} {b : Int} {K : Enum → Int → Prop} (hg : GV gens = true) (h : Rch gens mon t r) (hb : b ≤ 9223372036854775807) (h0 : 0 ≤ b) (hL : ¬ Few gens → (∀ r', ¬ Rch gens mon (t + b.toNat) r') → K ⟨0, false, [], [], [], [], [], [], 0⟩ 3)
  (hK : ∀ r', Rch gens mon (t + b.toNat) r' → K r'.Enum 0) : J1m r.Enum b K := by
 obtain ⟨d, hr, hw, hd⟩ := h
 have hk6 := (J0e.1 hg).2.1
 have hel := hr.si.elen
 have hpl := hr.si.pl
 have hll := hr.si.ll
 have hrt := hr.rt.1
 have hrb := hr.rb
 have hdl := hr.dl
 have gm := hr.gm
 unfold J1m
 refine ⟨by simp; omega, by simp; omega, by simp; omega, by simp; omega, by simp; omega, ?_⟩
 refine LoopWP.to r.words.length (fun s : Nat × List Str × List (Str × Int) => s.1) (fun s => s.1 ≤ r.words.length ∧ s.2.1 = r.words.take s.1 ∧ LS (r.words.take s.1) s.2.2) ⟨by simp, by simp, by simpa using LS.nil⟩ (fun s h => h.1) ?_
 rintro ⟨k, ws, lm⟩ X ⟨hk, hws, hlm⟩ hX
 simp only at hk hws hlm
 subst hws
 dsimp only
 unfold J3j
 simp only [List.nil_append]
 split
 ·have hlt : k < r.words.length := ω
  have hwl := hr.si.wl k hlt
  refine J1r hg hr.si rfl rfl (i := (k : Int)) ω ω ω ?_
  have e : r.words.take k ++ [ix r.words (k : Int)] = r.words.take (k + 1) := (J2A hlt).symm
  rw [e]
  have e2 : ix (r.words.take (k + 1)) (k : Int) = ix r.words (k : Int) := by
   rw [← e]; exact ixL' (by simp; omega)
  rw [e2]
  exact ⟨by simp; omega, ω, by simp; omega, hX (k + 1, _) ⟨by simp only; omega, rfl, by rw [← e]; exact hlm.put _ _⟩ rfl⟩
 ·have hkl : k = r.words.length := ω
  subst hkl
  rw [List.take_length] at hlm ⊢
  have key : ∀ (c : Nat) (s : run), RI gens mon c s → s.words.length ≤ 2000 → d ≤ c → (c = d + b.toNat ∨ (c = s.words.length ∧ c ≤ d + b.toNat)) → Rch gens mon (t + b.toNat) s := by
   intro c s hs hsw hdc hc
   refine ⟨c, hs, hsw, ?_⟩
   rcases hd with q3 | ⟨q3, q5⟩
   ·rw [← q3]; exact hc
   ·have := RI.J2v hg (q3 ▸ hr) hs
    have := hs.dl
    exact .inr ω
  refine LoopWP.to b.toNat (fun s => b.toNat - s.1.toNat) (fun s => 0 ≤ s.1 ∧ s.1 ≤ b ∧ ∃ c r', RI gens mon c r' ∧ r'.words.length ≤ 2000 ∧ (c : Int) = d + (b - s.1) ∧ s.2.1 = (c : Int) ∧ s.2.2.1 = r'.words ∧ LS r'.words s.2.2.2.1 ∧ s.2.2.2.2.1 = r'.Enum.Rules ∧ s.2.2.2.2.2.1 = r'.Enum.Right ∧ s.2.2.2.2.2.2.1 = r'.Enum.Last ∧ s.2.2.2.2.2.2.2.1 = r'.Enum.Prefix ∧ s.2.2.2.2.2.2.2.2 = r'.Enum.Elems)
   ⟨h0, by simp, d, r, hr, hw, by simp, hr.dn, rfl, hlm, rfl, rfl, rfl, rfl, rfl⟩ (fun s h => by omega) ?_
  rintro ⟨bb, dn, ws, lm2, ru, rt, ls, pf, es⟩ X2 ⟨hb0, hb1, c, r', hr', hw', hc, e1, e2, hlm2, e3, e4, e5, e6, e7⟩ hX2
  simp only at hb0 hb1 hc e1 e2 hlm2 e3 e4 e5 e6 e7
  subst e1 e2 e3 e4 e5 e6 e7
  dsimp only
  unfold J3h
  have hel' := hr'.si.elen
  have hdl' := hr'.dl
  have hen : (⟨r.Enum.Points, r.Enum.Monoid, r.Enum.Gens, r'.Enum.Elems, r'.Enum.Prefix, r'.Enum.Last, r'.Enum.Right, r'.Enum.Rules, (c : Int)⟩ : Enum) = r'.Enum := by
   have p1 := hr'.pts; have p2 := hr'.mon_; have p3 := hr'.gn; have p4 := hr'.dn
   rw [J8T]
   exact ⟨by rw [hr.pts, p1], by rw [hr.mon_, p2], p4.symm, by rw [hr.gn, p3], rfl, rfl, rfl, rfl, rfl⟩
  have fin : (c = d + b.toNat ∨ (c = r'.words.length ∧ c ≤ d + b.toNat)) → K ⟨r.Enum.Points, r.Enum.Monoid, r.Enum.Gens, r'.Enum.Elems, r'.Enum.Prefix, r'.Enum.Last, r'.Enum.Right, r'.Enum.Rules, (c : Int)⟩ 0 := fun hh => by
   rw [hen]; exact hK r' (key c r' hr' hw' ω hh)
  split
  ·rename_i hbp
   split
   ·rename_i hlt
    refine ⟨ω, ω, fun _ => ?_⟩
    refine J4M hg gm.1 hr' hw' ω ω hbp hlm2 (fun hF hl => ?_) fun r2 lm3 hr2 hw2 hlm3 => ?_
    ·refine hL hF fun r3 => Lim.rch hg (d := c) ⟨hF, ⟨r', hr', ω⟩, hl⟩ ?_ r3
     rcases hd with q3 | ⟨q3, q5⟩
     ·omega
     ·have := RI.J2v hg (q3 ▸ hr) hr'
      omega
    ·have dn2 := hr2.dn
     exact hX2 (bb - 1, (c : Int) + 1, r2.words, lm3, r2.Enum.Rules, r2.Enum.Right, r2.Enum.Last, r2.Enum.Prefix, r2.Enum.Elems) ⟨by simp only; omega, by simp only; omega, c + 1, r2, hr2, hw2, by simp only; omega, by simp only; omega, rfl, hlm3, rfl, rfl, rfl, rfl, rfl⟩ (by simp only; omega)
   ·rename_i hlt
    exact fin (.inr ⟨ω, ω⟩)
  ·exact fin (.inl ω)
end
end Sg
namespace Sg
open Go
set_option maxRecDepth 10000
section
variable {gens : List (List Int)} {mon : Bool} {r : run} {t : Nat} {b : Int}
theorem J62 {K : Enum → Int → Prop} (h1 : ¬ (1 ≤ gens.length ∧ gens.length ≤ 6) → K ⟨0, false, [], [], [], [], [], [], 0⟩ 1) (h2 : 1 ≤ gens.length ∧ gens.length ≤ 6 → GV gens = false → K ⟨0, false, [], [], [], [], [], [], 0⟩ 4)
  (h3 : GV gens = true → ¬ Few gens → (∀ r, ¬ Fin gens mon r) → K ⟨0, false, [], [], [], [], [], [], 0⟩ 3) (h0 : GV gens = true → ∀ r, Fin gens mon r → K r.Enum 0) : J2q gens mon K := by
 unfold J2q
 refine J5U (fun h => ?_) (fun h k => ?_) fun hg r0 hr0 hc0 => ?_
 ·rw [if_neg (by decide)]; exact h1 h
 ·rw [if_neg (by decide)]; exact h2 h k
 ·rw [if_pos rfl]
  refine J5k hg hc0 ω ω (fun hF hl => h3 hg hF fun r hr => hl r ⟨r.words.length, hr.1, hr.2, .inr ⟨rfl, by have := hr.2; simp; omega⟩⟩) fun r' ⟨d, k1, k2, k3⟩ => ?_
  have := k1.dl
  have hd : d = r'.words.length := by
   rcases k3 with k3 | k3
   ·omega
   ·exact k3.1
  subst hd
  exact h0 hg r' ⟨k1, k2⟩
end
end Sg
namespace Sg
open Go
set_option maxRecDepth 10000
theorem iteI {c : Prop} [Decidable c] {a b : Prop} (h : c → a) (k : ¬ c → b) : if c then a else b := by
 split
 ·rename_i hc; exact h hc
 ·rename_i hc; exact k hc
end Sg
namespace Sg
open Go
set_option maxRecDepth 10000
section
variable {gens : List (List Int)} {mon : Bool} {r : run} {t : Nat}
end
section
variable {gens : List (List Int)} {mon : Bool} {r : run} {t : Nat}
theorem J60 {K : List (List Int) → Prop} (hg : GV gens = true) (h : Fin gens mon r) (hK : K (tabT r.Enum.Elems)) : J2n r.Enum K := by
 have hr := h.1
 have hel := hr.si.elen
 have hw2 := h.2
 have hgn := hr.gn
 have hk := J0e.1 hg
 have hTl : (tabT r.Enum.Elems).length = r.words.length := by simp [tabT, hel]
 unfold J2n
 intro _
 refine LoopWP.to r.words.length (fun s : Nat × List (List Int) => s.1) (fun s => s.1 ≤ r.words.length ∧ s.2 = (tabT r.Enum.Elems).take s.1) ⟨by simp, by simp⟩ (fun s h => h.1) ?_
 rintro ⟨i, out⟩ X ⟨hi, ho⟩ hX
 simp only at hi ho
 subst ho
 dsimp only
 unfold J3X
 refine iteI (fun hlt => ?_) fun hlt => ?_
 ·have hi' : i < r.words.length := ω
  have hrl := J7I (E := r.Enum.Elems) (i := i) ω
  refine LoopWP.to r.words.length (fun s : Nat × List Int => s.1) (fun s => s.1 ≤ r.words.length ∧ s.2 = (ix (tabT r.Enum.Elems) i).take s.1) ⟨by simp, by simp⟩ (fun s h => h.1) ?_
  rintro ⟨x, row⟩ X2 ⟨hx, hrr⟩ hX2
  simp only at hx hrr
  subst hrr
  dsimp only
  unfold J3Z
  refine iteI (fun hlt2 => ?_) fun hlt2 => ?_
  ·have hx' : x < r.words.length := ω
   have hwl := hr.si.wl x hx'
   have hlw := (hr.si.red (i := (x : Int)) ω ω).1.1
   refine J1r hg hr.si rfl rfl (i := (x : Int)) ω ω ω ?_
   refine LoopWP.to (ix r.words x).length (fun s : Int × Nat => s.2) (fun s => s.2 ≤ (ix r.words x).length ∧ 0 ≤ s.1 ∧ ALg gens r.words (ix r.words i) (ix r.words x) s.1 s.2) ⟨by simp, by simp, .inr ⟨by simp, by simp only; omega, by simp⟩⟩ (fun s h => h.1) ?_
   rintro ⟨c, k⟩ X3 ⟨hk3, hc, hI⟩ hX3
   simp only at hk3 hI hc
   dsimp only
   unfold J3T
   intro _
   refine iteI (fun hlt3 => ?_) fun hlt3 => ?_
   ·obtain ⟨a1, a2, a3, a4, a5, a6⟩ := hI.step hg hr ω hlw
    obtain ⟨b1, b2, b3, b4⟩ := a6 ω
    refine ⟨b1, ω, ω, ω, a1, ω, hX3 (_, k + 1) ⟨by simp only; omega, ?_, b4⟩ rfl⟩
    rcases b4 with ⟨b4, _⟩ | b4
    ·omega
    ·exact b4.1
   ·have hkl : k = (ix r.words x).length := ω
    subst hkl
    rcases hI with ⟨_, q1, _⟩ | ⟨q1, q2, q3⟩
    ·omega
    ·rw [List.take_length] at q3
     have e := J8n hg hr hi' hx' q1 q2 q3
     refine ⟨by simp; omega, hX2 (x + 1, _) ⟨by simp only; omega, ?_⟩ rfl⟩
     simp only
     rw [J2A ω, e]
  ·have hxg : x = r.words.length := ω
   refine ⟨by simp; omega, hX (i + 1, _) ⟨by simp only; omega, ?_⟩ rfl⟩
   simp only
   rw [J2A (xs := tabT r.Enum.Elems) ω, J4B (xs := ix (tabT r.Enum.Elems) i) ω]
 ·have : i = r.words.length := ω
  subst this
  rw [J4B ω]; exact hK
end
end Sg
namespace Sg
open Go
def mu (t : List (List Int)) (x y : Int) : Int := ix (ix t x) y
def rowB (n : Nat) (row : List Int) : Bool := decide (row.length = n) && row.all fun x => decide (0 ≤ x) && decide (x < n)
def SH (t : List (List Int)) : Bool := decide (1 ≤ t.length) && decide (t.length ≤ 400) && t.all (rowB t.length)
theorem J6L {n : Nat} {row : List Int} : rowB n row = true ↔ row.length = n ∧ ∀ j : Nat, j < row.length → 0 ≤ ix row j ∧ ix row j < n := by
 have : (∀ x ∈ row, 0 ≤ x ∧ x < (n : Int)) ↔ ∀ j : Nat, j < row.length → 0 ≤ ix row j ∧ ix row j < n := J0w (p := fun x : Int => 0 ≤ x ∧ x < (n : Int))
 simp only [rowB, Bool.and_eq_true, decide_eq_true_eq, List.all_eq_true, ← this]
theorem J9s {t : List (List Int)} : SH t = true ↔ 1 ≤ t.length ∧ t.length ≤ 400 ∧ ∀ j : Nat, j < t.length → rowB t.length (ix t j) = true := by
 have : (∀ x ∈ t, rowB t.length x = true) ↔ ∀ j : Nat, j < t.length → rowB t.length (ix t j) = true := J0w (p := fun x => rowB t.length x = true)
 simp only [SH, Bool.and_eq_true, decide_eq_true_eq, List.all_eq_true, ← this, and_assoc]
structure Tb (t : List (List Int)) (n : Nat) : Prop where
 len : t.length = n
 n1 : 1 ≤ n
 n4 : n ≤ 400
 row : ∀ x : Int, 0 ≤ x → x < n → (ix t x).length = n
 lo : ∀ x y : Int, 0 ≤ x → x < n → 0 ≤ y → y < n → 0 ≤ ix (ix t x) y
 hi : ∀ x y : Int, 0 ≤ x → x < n → 0 ≤ y → y < n → ix (ix t x) y < n
theorem SH.tb {t : List (List Int)} (h : SH t = true) : Tb t t.length := by
 obtain ⟨h1, h2, h3⟩ := J9s.1 h
 have hr : ∀ x : Int, 0 ≤ x → x < t.length → rowB t.length (ix t x) = true := fun x h0 hx => by
  obtain ⟨m, rfl⟩ := Int.eq_ofNat_of_zero_le h0; exact h3 m ω
 have hl : ∀ x : Int, 0 ≤ x → x < t.length → (ix t x).length = t.length := fun x h0 hx => (J6L.1 (hr x h0 hx)).1
 have he : ∀ x y : Int, 0 ≤ x → x < t.length → 0 ≤ y → y < t.length → 0 ≤ ix (ix t x) y ∧ ix (ix t x) y < t.length := fun x y h0 hx k0 ky => by
  obtain ⟨m, rfl⟩ := Int.eq_ofNat_of_zero_le k0
  exact (J6L.1 (hr x h0 hx)).2 m (by have := hl x h0 hx; omega)
 exact ⟨rfl, h1, h2, hl, fun x y a b c d => (he x y a b c d).1, fun x y a b c d => (he x y a b c d).2⟩
theorem Tb.mu {t : List (List Int)} {n : Nat} (h : Tb t n) {x y : Int} (h0 : 0 ≤ x) (h1 : x < n) (k0 : 0 ≤ y) (k1 : y < n) : 0 ≤ mu t x y ∧ mu t x y < n := ⟨h.lo x y h0 h1 k0 k1, h.hi x y h0 h1 k0 k1⟩
def shC (t : List (List Int)) : Int := if 400 < t.length then 3 else if SH t = true then 0 else 4
def inB (n : Nat) (l : List Int) : Bool := l.all fun x => decide (0 ≤ x) && decide (x < n)
theorem J9B {n : Nat} {l : List Int} : inB n l = true ↔ ∀ j : Nat, j < l.length → 0 ≤ ix l j ∧ ix l j < n := by
 have : (∀ x ∈ l, 0 ≤ x ∧ x < (n : Int)) ↔ ∀ j : Nat, j < l.length → 0 ≤ ix l j ∧ ix l j < n := J0w (p := fun x : Int => 0 ≤ x ∧ x < (n : Int))
 simp only [inB, Bool.and_eq_true, decide_eq_true_eq, List.all_eq_true, ← this]
theorem J8B {n : Nat} {l : List Int} : inB n l = true ↔ ∀ x ∈ l, 0 ≤ x ∧ x < (n : Int) := by
 simp only [inB, Bool.and_eq_true, decide_eq_true_eq, List.all_eq_true]
def lgB (t : List (List Int)) (g : Int) : Bool := (iota t.length).all fun x => (iota t.length).all fun y => decide (mu t (mu t x g) y = mu t x (mu t g y))
theorem J4p {n : Nat} {x : Int} : x ∈ iota n ↔ 0 ≤ x ∧ x < n := by
 simp only [iota, List.mem_map, List.mem_range]
 constructor
 ·rintro ⟨a, h, rfl⟩; omega
 ·rintro ⟨h0, h1⟩; exact ⟨x.toNat, ω, ω⟩
theorem J9L {t : List (List Int)} {g : Int} : lgB t g = true ↔ ∀ x y : Nat, x < t.length → y < t.length → mu t (mu t x g) y = mu t x (mu t g y) := by
 simp only [lgB, List.all_eq_true, J4p, decide_eq_true_eq]
 constructor
 ·intro h x y hx hy; exact h x ω y ω
 ·intro h x hx y hy
  obtain ⟨a, rfl⟩ := Int.eq_ofNat_of_zero_le hx.1
  obtain ⟨b, rfl⟩ := Int.eq_ofNat_of_zero_le hy.1
  exact h a b ω ω
inductive Clo (t : List (List Int)) (G : List Int) : Int → Prop
 | gen {x : Int} : x ∈ G → Clo t G x
 | mul {x y : Int} : Clo t G x → Clo t G y → Clo t G (mu t x y)
theorem Clo.mono {t : List (List Int)} {G G' : List Int} (h : ∀ x ∈ G, x ∈ G') {x : Int} (hx : Clo t G x) : Clo t G' x := by
 induction hx with
 | gen hg => exact .gen (h _ hg)
 | mul _ _ ih1 ih2 => exact .mul ih1 ih2
theorem Clo.in_ {t : List (List Int)} {n : Nat} (T : Tb t n) {G : List Int} (hG : ∀ x ∈ G, 0 ≤ x ∧ x < (n : Int)) {x : Int} (hx : Clo t G x) : 0 ≤ x ∧ x < (n : Int) := by
 induction hx with
 | gen hg => exact hG _ hg
 | mul _ _ ih1 ih2 => exact T.mu ih1.1 ih1.2 ih2.1 ih2.2
theorem J86 {l : List Int} (hn : l.Nodup) {n : Nat} (hl : ∀ x ∈ l, 0 ≤ x ∧ x < (n : Int)) : l.length ≤ n := by
 rcases Nat.lt_or_ge n l.length with hlt | hge
 ·exfalso
  obtain ⟨a, b, hab, hb, he⟩ := pigeon n (fun m => ix l m) fun m hm => hl _ (J0U ω ω)
  rw [ix_lt ω, ix_lt ω] at he
  exact (List.pairwise_iff_getElem.1 hn) a b ω ω hab he
 ·exact hge
structure MI (t : List (List Int)) (n : Nat) (G made : List Int) (mk : List Bool) : Prop where
 nd : made.Nodup
 len : mk.length = n
 inn : ∀ x ∈ made, 0 ≤ x ∧ x < (n : Int)
 mkd : ∀ x : Nat, x < n → (ix mk x = true ↔ (x : Int) ∈ made)
 clo : ∀ x ∈ made, Clo t G x
theorem MI.add {t : List (List Int)} {n : Nat} {G made : List Int} {mk : List Bool} (h : MI t n G made mk) {x : Int} (h0 : 0 ≤ x) (h1 : x < n) (hc : Clo t G x) (hx : ¬ ix mk x = true) : MI t n G (made ++ [x]) (st mk x true) := by
 obtain ⟨m, rfl⟩ := Int.eq_ofNat_of_zero_le h0
 have hnm : (m : Int) ∉ made := fun hh => hx ((h.mkd m ω).2 hh)
 refine ⟨List.nodup_append.2 ⟨h.nd, by simp, fun a ha b hb hab => ?_⟩, by simpa using h.len, fun x hx => ?_, fun x hxn => ?_, fun x hx => ?_⟩
 ·rw [List.mem_singleton] at hb; subst hab; subst hb; exact hnm ha
 ·rcases List.mem_append.1 hx with hx | hx
  ·exact h.inn x hx
  ·rw [List.mem_singleton] at hx; subst hx; omega
 ·rw [ix_st _ ω (by have := h.len; omega) ω, List.mem_append, List.mem_singleton]
  split
  ·rename_i he; exact ⟨fun _ => .inr he, fun _ => rfl⟩
  ·rename_i he
   rw [h.mkd x hxn]
   exact ⟨.inl, fun hh => hh.resolve_right he⟩
 ·rcases List.mem_append.1 hx with hx | hx
  ·exact h.clo x hx
  ·rw [List.mem_singleton] at hx; subst hx; exact hc
theorem MI.mono {t : List (List Int)} {n : Nat} {G G' made : List Int} {mk : List Bool} (h : MI t n G made mk) (hG : ∀ x ∈ G, x ∈ G') : MI t n G' made mk := ⟨h.nd, h.len, h.inn, h.mkd, fun x hx => (h.clo x hx).mono hG⟩
structure SIM (t : List (List Int)) (n : Nat) (G : List Int) (g : Nat) (made : List Int) (mk : List Bool) : Prop where
 mi : MI t n G made mk
 up : ∀ j : Nat, j < g → (j : Int) ∈ made
theorem SIM.add {t : List (List Int)} {n : Nat} {G : List Int} {g : Nat} {made : List Int} {mk : List Bool} (h : SIM t n G g made mk) {x : Int} (h0 : 0 ≤ x) (h1 : x < n) (hc : Clo t G x) (hx : ¬ ix mk x = true) : SIM t n G g (made ++ [x]) (st mk x true) :=
 ⟨h.mi.add h0 h1 hc hx, fun j hj => List.mem_append_left _ (h.up j hj)⟩
theorem SIM.le {t : List (List Int)} {n : Nat} {G : List Int} {g : Nat} {made : List Int} {mk : List Bool} (h : SIM t n G g made mk) : made.length ≤ n := J86 h.mi.nd h.mi.inn
def AS (t : List (List Int)) : Prop := ∀ x y z : Nat, x < t.length → y < t.length → z < t.length → mu t (mu t x y) z = mu t x (mu t y z)
instance (t : List (List Int)) : Decidable (AS t) := decidable_of_iff ((iota t.length).all fun y => lgB t y) (by
 simp only [List.all_eq_true, J4p, J9L]
 constructor
 ·intro h x y z hx hy hz; exact h y ω x z hx hz
 ·intro h y hy x z hx hz
  obtain ⟨b, rfl⟩ := Int.eq_ofNat_of_zero_le hy.1
  exact h x b z hx ω hz)
theorem AS.all {t : List (List Int)} (h : AS t) {x y z : Int} (hx : 0 ≤ x ∧ x < t.length) (hy : 0 ≤ y ∧ y < t.length) (hz : 0 ≤ z ∧ z < t.length) : mu t (mu t x y) z = mu t x (mu t y z) := by
 obtain ⟨a, rfl⟩ := Int.eq_ofNat_of_zero_le hx.1
 obtain ⟨b, rfl⟩ := Int.eq_ofNat_of_zero_le hy.1
 obtain ⟨c, rfl⟩ := Int.eq_ofNat_of_zero_le hz.1
 exact h a b c ω ω ω
def VT (t : List (List Int)) : Bool := SH t && decide (AS t)
def vaC (t : List (List Int)) : Int := if SH t = true then (if AS t then 0 else 5) else shC t
theorem VT.sh {t : List (List Int)} (h : VT t = true) : SH t = true := by simp only [VT, Bool.and_eq_true] at h; exact h.1
theorem VT.as {t : List (List Int)} (h : VT t = true) : AS t := by simp only [VT, Bool.and_eq_true, decide_eq_true_eq] at h; exact h.2
end Sg
namespace Sg
open Go
def bad (t : List (List Int)) (x y z : Nat) : Prop := mu t (mu t x y) z ≠ mu t x (mu t y z)
def Fst (t : List (List Int)) (x y z : Nat) : Prop := x < t.length ∧ y < t.length ∧ z < t.length ∧ bad t x y z ∧ (∀ a b c : Nat, a < x → b < t.length → c < t.length → ¬ bad t a b c) ∧ (∀ b c : Nat, b < y → c < t.length → ¬ bad t x b c) ∧ ∀ c : Nat, c < z → ¬ bad t x y c
def AsR (t : List (List Int)) (x y z f : Int) : Prop := (f = 5 ∧ vaC t = 5 ∧ ∃ a b c : Nat, x = a ∧ y = b ∧ z = c ∧ Fst t a b c) ∨ (f ≠ 5 ∧ f = vaC t ∧ x = 0 ∧ y = 0 ∧ z = 0)
theorem Fst.uniq {t : List (List Int)} {x y z x' y' z' : Nat} (h : Fst t x y z) (k : Fst t x' y' z') : x = x' ∧ y = y' ∧ z = z' := by
 obtain ⟨h1, h2, h3, h4, h5, h6, h7⟩ := h
 obtain ⟨k1, k2, k3, k4, k5, k6, k7⟩ := k
 rcases Nat.lt_trichotomy x x' with hx | hx | hx
 ·exact absurd h4 (k5 _ _ _ hx h2 h3)
 ·subst hx
  rcases Nat.lt_trichotomy y y' with hy | hy | hy
  ·exact absurd h4 (k6 _ _ hy h3)
  ·subst hy
   rcases Nat.lt_trichotomy z z' with hz | hz | hz
   ·exact absurd h4 (k7 _ hz)
   ·exact ⟨rfl, rfl, hz⟩
   ·exact absurd k4 (h7 _ hz)
  ·exact absurd k4 (h6 _ _ hy k3)
 ·exact absurd k4 (h5 _ _ _ hx k2 k3)
theorem AsR.uniq {t : List (List Int)} {x y z f x' y' z' f' : Int} (h : AsR t x y z f) (k : AsR t x' y' z' f') : x = x' ∧ y = y' ∧ z = z' ∧ f = f' := by
 rcases h with ⟨h1, h2, a, b, c, rfl, rfl, rfl, hf⟩ | ⟨h1, h2, rfl, rfl, rfl⟩ <;> rcases k with ⟨k1, k2, a', b', c', rfl, rfl, rfl, kf⟩ | ⟨k1, k2, rfl, rfl, rfl⟩
 ·obtain ⟨rfl, rfl, rfl⟩ := hf.uniq kf
  exact ⟨rfl, rfl, rfl, ω⟩
 ·omega
 ·omega
 ·exact ⟨rfl, rfl, rfl, ω⟩
theorem AsR.code {t : List (List Int)} {x y z f : Int} (h : AsR t x y z f) : f = vaC t := by
 rcases h with ⟨h1, h2, _⟩ | ⟨h1, h2, _⟩ <;> omega
def isI (t : List (List Int)) (e : Nat) : Prop := ∀ x : Nat, x < t.length → mu t e x = x ∧ mu t x e = x
def FR (n : Nat) (p : Nat → Prop) (r : Int) : Prop := (∃ e : Nat, e < n ∧ r = e ∧ p e ∧ ∀ j : Nat, j < e → ¬ p j) ∨ (r = -1 ∧ ∀ j : Nat, j < n → ¬ p j)
theorem FR.uniq {n : Nat} {p : Nat → Prop} {r r' : Int} (h : FR n p r) (k : FR n p r') : r = r' := by
 rcases h with ⟨e, h1, rfl, h2, h3⟩ | ⟨rfl, h⟩ <;> rcases k with ⟨e', k1, rfl, k2, k3⟩ | ⟨rfl, k⟩
 ·rcases Nat.lt_trichotomy e e' with hx | hx | hx
  ·exact absurd h2 (k3 _ hx)
  ·rw [hx]
  ·exact absurd k2 (h3 _ hx)
 ·exact absurd h2 (k _ h1)
 ·exact absurd k2 (h _ k1)
 ·rfl
theorem FR.ex (p : Nat → Prop) (n : Nat) : ∃ r, FR n p r := by
 by_cases h : ∃ e, e < n ∧ p e
 ·obtain ⟨e, he, hp⟩ := h
  obtain ⟨m, hm, hme, hmin⟩ := J97 p e hp
  exact ⟨m, .inl ⟨m, ω, rfl, hm, hmin⟩⟩
 ·exact ⟨-1, .inr ⟨rfl, fun j hj hp => h ⟨j, hj, hp⟩⟩⟩
def idR (t : List (List Int)) (r : Int) : Prop := FR t.length (isI t) r
end Sg
namespace Sg
open Go
def pow (t : List (List Int)) (x : Int) : Nat → Int
 | 0 => x
 | k + 1 => mu t (pow t x k) x
theorem J84 {t : List (List Int)} {n : Nat} (T : Tb t n) {x : Int} (hx : 0 ≤ x ∧ x < n) : ∀ k, 0 ≤ pow t x k ∧ pow t x k < n
 | 0 => hx
 | k + 1 => T.mu (J84 T hx k).1 (J84 T hx k).2 hx.1 hx.2
section
variable {t : List (List Int)} (hv : VT t = true) {x : Int} (hx : 0 ≤ x ∧ x < t.length)
include hv hx
theorem J9n (a b : Nat) : mu t (pow t x a) (pow t x b) = pow t x (a + b + 1) := by
  have T := SH.tb (VT.sh hv)
  induction b with
  | zero => rfl
  | succ b ih =>
    show mu t (pow t x a) (mu t (pow t x b) x) = mu t (pow t x (a + b + 1)) x
    rw [← ih, (VT.as hv).all (J84 T hx a) (J84 T hx b) hx]
theorem J8L (a b : Nat) : pow t (pow t x a) b = pow t x ((a + 1) * (b + 1) - 1) := by
  induction b with
  | zero => simp [pow]
  | succ b ih =>
    show mu t (pow t (pow t x a) b) (pow t x a) = _
    rw [ih, J9n hv hx]
    congr 1
    rw [Nat.mul_add (a + 1) (b + 1) 1]
    have : 1 ≤ (a + 1) * (b + 1) := Nat.mul_pos ω ω
    omega
end
structure RP (g : Nat → Int) (a m : Nat) : Prop where
 lt : a < m
 eq : g m = g a
 inj : ∀ i j, i < j → j < m → g i ≠ g j
theorem RP.uniq {g : Nat → Int} {a m a' m' : Nat} (h : RP g a m) (k : RP g a' m') : a = a' ∧ m = m' := by
 have hm : m = m' := by
  rcases Nat.lt_trichotomy m m' with hx | hx | hx
  ·exact absurd h.eq.symm (k.inj _ _ h.lt hx)
  ·exact hx
  ·exact absurd k.eq.symm (h.inj _ _ k.lt hx)
 subst hm
 refine ⟨?_, rfl⟩
 have e := h.eq.symm.trans k.eq
 rcases Nat.lt_trichotomy a a' with hx | hx | hx
 ·exact absurd e (h.inj _ _ hx k.lt)
 ·exact hx
 ·exact absurd e.symm (h.inj _ _ hx h.lt)
theorem Ja4 {g : Nat → Int} {n m : Nat} (hg : ∀ k, 0 ≤ g k ∧ g k < (n : Int)) (h : ∀ i j, i < j → j < m → g i ≠ g j) : m ≤ n := by
 rcases Nat.lt_or_ge n m with hlt | hge
 ·obtain ⟨a, b, hab, hb, he⟩ := pigeon n g fun k _ => hg k
  exact absurd he (h a b hab ω)
 ·exact hge
theorem RP.le {g : Nat → Int} {n a m : Nat} (h : RP g a m) (hg : ∀ k, 0 ≤ g k ∧ g k < (n : Int)) : m ≤ n := Ja4 hg h.inj
theorem J8k {t : List (List Int)} {x : Int} {a m : Nat} (h : RP (pow t x) a m) : ∀ k, a ≤ k → pow t x (k + (m - a)) = pow t x k := by
  intro k hk
  obtain ⟨d, rfl⟩ := Nat.exists_eq_add_of_le hk
  induction d with
  | zero => rw [Nat.add_zero, show a + (m - a) = m from by have := h.lt; omega]; exact h.eq
  | succ d ih =>
    have := ih ω
    show pow t x (a + (d + 1) + (m - a)) = mu t (pow t x (a + d)) x
    rw [← this]
    show _ = pow t x (a + d + (m - a) + 1)
    congr 1; omega
theorem J6u {t : List (List Int)} {x : Int} {a m : Nat} (h : RP (pow t x) a m) (q k : Nat) (hk : a ≤ k) : pow t x (k + q * (m - a)) = pow t x k := by
 induction q with
 | zero => simp
 | succ q ih => rw [Nat.succ_mul, ← Nat.add_assoc, J8k h _ ω, ih]
def ipR (t : List (List Int)) (x i p : Int) : Prop := ∃ a m : Nat, RP (pow t x) a m ∧ i = (a : Int) + 1 ∧ p = (m : Int) - a
theorem ipR.uniq {t : List (List Int)} {x i p i' p' : Int} (h : ipR t x i p) (k : ipR t x i' p') : i = i' ∧ p = p' := by
 obtain ⟨a, m, h1, rfl, rfl⟩ := h
 obtain ⟨b, l, k1, rfl, rfl⟩ := k
 obtain ⟨rfl, rfl⟩ := h1.uniq k1
 exact ⟨rfl, rfl⟩
def omR (t : List (List Int)) (x r : Int) : Prop := ∃ j, r = pow t x j ∧ mu t r r = r
theorem omR.uniq {t : List (List Int)} (hv : VT t = true) {x : Int} (hx : 0 ≤ x ∧ x < t.length) {r r' : Int} (h : omR t x r) (k : omR t x r') : r = r' := by
 obtain ⟨a, rfl, ha⟩ := h
 obtain ⟨b, rfl, hb⟩ := k
 have id_pow : ∀ y : Int, mu t y y = y → ∀ c, pow t y c = y := fun y hy c => by
  induction c with
  | zero => rfl
  | succ c ih => show mu t (pow t y c) y = y; rw [ih, hy]
 have e1 := J8L hv hx a b
 have e2 := J8L hv hx b a
 rw [id_pow _ ha b] at e1
 rw [id_pow _ hb a, Nat.mul_comm] at e2
 rw [e1, e2]
theorem omR.mul {t : List (List Int)} (hv : VT t = true) {x : Int} (hx : 0 ≤ x ∧ x < t.length) {a m q : Nat} (h : RP (pow t x) a m) (hq : a + 1 ≤ q * (m - a)) : mu t (pow t x (q * (m - a) - 1)) (pow t x (q * (m - a) - 1)) = pow t x (q * (m - a) - 1) := by
 rw [J9n hv hx]
 have := J6u h q (q * (m - a) - 1) ω
 rw [← this]
 congr 1; omega
end Sg
namespace Sg
open Go
end Sg
namespace Sg
open Go
def ltM (im : List Int) (b : UInt8) : Int := ix im ((b.toNat : Int) - 97)
def val (t : List (List Int)) (im : List Int) : Str → Int
 | [] => 0
 | b :: w => w.foldl (fun x b => mu t x (ltM im b)) (ltM im b)
theorem J5u {t : List (List Int)} {im : List Int} {w : Str} (hw : w ≠ []) (b : UInt8) : val t im (w ++ [b]) = mu t (val t im w) (ltM im b) := by
 cases w with
 | nil => exact absurd rfl hw
 | cons a w => simp [val, List.foldl_append]
theorem lt_in {t : List (List Int)} {im : List Int} (hi : inB t.length im = true) {b : UInt8} (h1 : 97 ≤ b.toNat) (h2 : (b.toNat : Int) - 97 < im.length) : 0 ≤ ltM im b ∧ ltM im b < t.length :=
 J8B.1 hi _ (J0U ω ω)
theorem J9g {t : List (List Int)} {n : Nat} (T : Tb t n) {im : List Int} (hi : ∀ b : UInt8, 97 ≤ b.toNat → (b.toNat : Int) - 97 < im.length → 0 ≤ ltM im b ∧ ltM im b < n) : ∀ w : Str, w ≠ [] → (∀ b ∈ w, 97 ≤ b.toNat ∧ (b.toNat : Int) - 97 < im.length) → 0 ≤ val t im w ∧ val t im w < n := by
  intro w
  induction w using J7W with
  | h0 => intro h; exact absurd rfl h
  | h1 w b ih =>
    intro _ hb
    have hbb := hb b (by simp)
    by_cases hw : w = []
    · subst hw; exact hi b hbb.1 hbb.2
    · rw [J5u hw]
      have h1 := ih hw fun c hc => hb c (by simp [hc])
      have h2 := hi b hbb.1 hbb.2
      exact T.mu h1.1 h1.2 h2.1 h2.2
theorem J4L {t : List (List Int)} (hv : VT t = true) {im : List Int} (hi : inB t.length im = true) {u : Str} (hu : u ≠ []) (hub : ∀ b ∈ u, 97 ≤ b.toNat ∧ (b.toNat : Int) - 97 < im.length) :
    ∀ w : Str, w ≠ [] → (∀ b ∈ w, 97 ≤ b.toNat ∧ (b.toNat : Int) - 97 < im.length) → val t im (u ++ w) = mu t (val t im u) (val t im w) := by
  have T := SH.tb (VT.sh hv)
  have hl : ∀ b : UInt8, 97 ≤ b.toNat → (b.toNat : Int) - 97 < im.length → 0 ≤ ltM im b ∧ ltM im b < t.length := fun b h1 h2 => lt_in hi h1 h2
  have hvu := J9g T hl u hu hub
  intro w
  induction w using J7W with
  | h0 => intro h; exact absurd rfl h
  | h1 w b ih =>
    intro _ hb
    have hbb := hb b (by simp)
    by_cases hw : w = []
    · subst hw; rw [List.nil_append, J5u hu]; rfl
    · have hwb : ∀ c ∈ w, 97 ≤ c.toNat ∧ (c.toNat : Int) - 97 < im.length := fun c hc => hb c (by simp [hc])
      rw [← List.append_assoc, J5u (by simp [hu]), ih hw hwb, J5u hw, (VT.as hv).all hvu (J9g T hl w hw hwb) (hl b hbb.1 hbb.2)]
def vaR (t : List (List Int)) (im : List Int) (w : Str) (r : Int) : Prop :=
 if 1 ≤ im.length ∧ WV w im.length = true ∧ inB t.length im = true ∧ VT t = true then (if w = [] then idR t r else r = val t im w) else r = -1
theorem vaR.uniq {t : List (List Int)} {im : List Int} {w : Str} {r r' : Int} (h : vaR t im w r) (k : vaR t im w r') : r = r' := by
 unfold vaR at h k
 split at h
 ·rename_i hc
  rw [if_pos hc] at k
  split at h
  ·rename_i hw; rw [if_pos hw] at k; exact h.uniq k
  ·rename_i hw; rw [if_neg hw] at k; rw [h, k]
 ·rename_i hc
  rw [if_neg hc] at k; rw [h, k]
end Sg
namespace Sg
open Go
section
variable {t u : List (List Int)} (T : Tb t t.length) (U : Tb u u.length)
include T U
end
def zer (n : Nat) : List (List Int) := List.replicate n (List.replicate n (0 : Int))
end Sg
namespace Sg
open Go
theorem J6r {l : List Int} {n : Int} (h0 : 0 ≤ n) (h1 : n ≤ 1099511627776) {K : List Bool → Prop} (h : ∀ b : List Bool, b.length = n.toNat → (∀ j : Nat, j < n.toNat → (ix b j = true ↔ (j : Int) ∈ l)) → K b) : J3x l n K := by
 unfold J3x
 refine ⟨h0, h1, fun _ => LoopWP.fold l.length (fun k (b : List Bool) => b.length = n.toNat ∧ ∀ j : Nat, j < n.toNat → (ix b j = true ↔ ∃ i : Nat, i < k ∧ ix l i = j)) ⟨by simp, fun j hj => ?_⟩ ?_⟩
 ·rw [J0f _ _ hj]; exact ⟨(fun hh => by cases hh), fun ⟨i, hi, _⟩ => absurd hi (Nat.not_lt_zero _)⟩
 ·rintro k b X hk ⟨hl, hI⟩ hX
  show J3q l n K _ k b
  unfold J3q
  have same : k < l.length → (¬ 0 ≤ ix l (k : Int) ∨ ¬ ix l (k : Int) < n) → ∀ j : Nat, j < n.toNat → (ix b j = true ↔ ∃ i : Nat, i < k + 1 ∧ ix l i = j) := fun hkl ho j hj => by
   rw [hI j hj]
   constructor
   ·rintro ⟨i, hi, he⟩; exact ⟨i, ω, he⟩
   ·rintro ⟨i, hi, he⟩
    refine ⟨i, ?_, he⟩
    by_cases hik : i = k
    ·subst hik; rcases ho with ho | ho <;> omega
    ·omega
  split
  ·refine ⟨ω, ω, ?_⟩
   split
   ·split
    ·refine ⟨ω, ω, hX _ ω ⟨by simpa using hl, fun j hj => ?_⟩⟩
     rw [ix_st _ ω ω ω]
     split
     ·rename_i he; exact ⟨fun _ => ⟨k, ω, he.symm⟩, fun _ => rfl⟩
     ·rename_i he
      rw [hI j hj]
      constructor
      ·rintro ⟨i, hi, he⟩; exact ⟨i, ω, he⟩
      ·rintro ⟨i, hi, he2⟩
       refine ⟨i, ?_, he2⟩
       by_cases hik : i = k
       ·subst hik; exact absurd he2.symm he
       ·omega
    ·rename_i ho; exact hX _ ω ⟨hl, same ω (.inr ho)⟩
   ·rename_i ho; exact hX _ ω ⟨hl, same ω (.inl ho)⟩
  ·refine h b hl fun j hj => ?_
   rw [hI j hj, J0g]
   constructor
   ·rintro ⟨i, hi, he⟩; exact ⟨i, ω, he⟩
   ·rintro ⟨i, hi, he⟩; exact ⟨i, ω, he⟩
theorem J31 (k : Nat) : iota (k + 1) = iota k ++ [(k : Int)] := by simp [iota, List.range_succ]
theorem J4O {b : List Bool} (hb : b.length ≤ 1099511627776) {K : List Int → Prop} (h : K ((iota b.length).filter fun x => ix b x)) : J1e b K := by
 unfold J1e
 refine fun _ => LoopWP.fold b.length (fun k (l : List Int) => l = (iota k).filter fun x => ix b x) rfl ?_
 rintro k l X hk rfl hX
 show J1U b K _ k _
 unfold J1U
 split
 ·refine ⟨ω, ω, ?_⟩
  split
  ·rename_i hm
   refine ⟨?_, hX _ ω ?_⟩
   ·have := List.length_filter_le (fun x => ix b x) (iota k); simp at this ⊢; omega
   ·rw [J31, List.filter_append]; simp [hm]
  ·rename_i hm
   refine hX _ ω ?_
   rw [J31, List.filter_append]; simp [hm]
 ·have : k = b.length := ω
  subst this; exact h
theorem J8M (n : Nat) : (iota n).Pairwise (· < ·) := by
 unfold iota
 rw [List.pairwise_map]
 exact List.pairwise_lt_range.imp fun h => by omega
def AscOfM (p : Int → Prop) (l : List Int) : Prop := l.Pairwise (· < ·) ∧ ∀ x, x ∈ l ↔ p x
theorem J79 (n : Nat) (p : Int → Bool) : AscOfM (fun x => (0 ≤ x ∧ x < (n : Int)) ∧ p x = true) ((iota n).filter p) :=
 ⟨(J8M n).filter _, fun x => by rw [List.mem_filter, J4p]⟩
theorem AscOfM.uniq {p : Int → Prop} {l l' : List Int} (h : AscOfM p l) (k : AscOfM p l') : l = l' := by
  have key : ∀ l l' : List Int, l.Pairwise (· < ·) → l'.Pairwise (· < ·) → (∀ x, x ∈ l ↔ x ∈ l') → l = l' := by
    intro l
    induction l with
    | nil =>
      intro l' _ _ hm
      cases l' with
      | nil => rfl
      | cons b l' => exact absurd ((hm b).2 (by simp)) (by simp)
    | cons a l ih =>
      intro l' h1 h2 hm
      cases l' with
      | nil => exact absurd ((hm a).1 (by simp)) (by simp)
      | cons b l' =>
        rw [List.pairwise_cons] at h1 h2
        have hab : a = b := by
          have ha := (hm a).1 (by simp)
          have hb := (hm b).2 (by simp)
          rcases List.mem_cons.1 ha with e | ha
          · exact e
          · rcases List.mem_cons.1 hb with e | hb
            · exact e.symm
            · have := h1.1 b hb; have := h2.1 a ha; omega
        subst hab
        rw [ih l' h1.2 h2.2 fun x => ?_]
        constructor
        · intro hx
          rcases List.mem_cons.1 ((hm x).1 (by simp [hx])) with e | hx'
          · have := h1.1 x hx; omega
          · exact hx'
        · intro hx
          rcases List.mem_cons.1 ((hm x).2 (by simp [hx])) with e | hx'
          · have := h2.1 x hx; omega
          · exact hx'
  exact key l l' h.1 k.1 fun x => (h.2 x).trans (k.2 x).symm
theorem AscOfM.nodup {p : Int → Prop} {l : List Int} (h : AscOfM p l) : l.Nodup := h.1.imp fun hlt => Int.ne_of_lt hlt
theorem AscOfM.all {p : Int → Prop} {l : List Int} {n : Nat} (h : AscOfM p l) (hp : ∀ x, p x → 0 ≤ x ∧ x < (n : Int)) (hl : l.length = n) {x : Int} (hx : 0 ≤ x ∧ x < (n : Int)) : p x := by
 rw [← h.2]
 refine Classical.byContradiction fun hn => ?_
 have h1 : (x :: l).Nodup := List.nodup_cons.2 ⟨hn, h.nodup⟩
 have := J86 h1 (n := n) fun y hy => by
  rcases List.mem_cons.1 hy with e | hy
  ·subst e; exact hx
  ·exact hp y ((h.2 y).1 hy)
 simp at this; omega
def unm (b : List Bool) : Nat := b.count false
theorem Ja8 {b : List Bool} {x : Int} (h0 : 0 ≤ x) (h1 : x < b.length) (hx : ¬ ix b x = true) : unm (st b x true) + 1 = unm b := by
 obtain ⟨m, rfl⟩ := Int.eq_ofNat_of_zero_le h0
 have hm : m < b.length := ω
 have hb : b[m] = false := by
  have : ix b (m : Int) = b[m] := ix_lt hm
  rw [this] at hx; simpa using hx
 unfold unm st
 simp only [Int.ofNat_eq_natCast, Int.toNat_natCast]
 rw [List.count_set hm]
 have hpos : 0 < b.count false := List.count_pos_iff.2 (by rw [← hb]; exact List.getElem_mem hm)
 simp [hb]
 omega
structure GI (t : List (List Int)) (G : List Int) (b : List Bool) : Prop where
 len : b.length = t.length
 gen : ∀ x ∈ G, ix b x = true
 clo : ∀ x : Int, 0 ≤ x → x < t.length → ix b x = true → Clo t G x
theorem GI.st {t : List (List Int)} {G : List Int} {b : List Bool} (h : GI t G b) (hG : ∀ x ∈ G, 0 ≤ x ∧ x < (t.length : Int)) {x : Int} (h0 : 0 ≤ x) (h1 : x < t.length) (hc : Clo t G x) : GI t G (st b x true) := by
 have hl := h.len
 refine ⟨by simpa using hl, fun y hy => ?_, fun y y0 y1 hy => ?_⟩
 ·rw [ix_st _ h0 ω (hG y hy).1]
  split
  ·rfl
  ·exact h.gen y hy
 ·rw [ix_st _ h0 ω y0] at hy
  split at hy
  ·rename_i e; subst e; exact hc
  ·exact h.clo y y0 y1 hy
theorem J4y {t : List (List Int)} {G : List Int} (ht : SH t = true) (hG : inB t.length G = true) {K : List Int → Prop} (h : ∀ l, AscOfM (Clo t G) l → K l) : J0J t G K := by
  unfold J0J
  have T := SH.tb ht
  have n4 := T.n4
  have hg := J8B.1 hG
  refine fun _ => J6r ω ω fun b0 hl0 hb0 => ?_
  simp only [Int.toNat_natCast] at hl0 hb0
  have hI0 : GI t G b0 := ⟨hl0, fun x hx => by
      obtain ⟨m, rfl⟩ := Int.eq_ofNat_of_zero_le (hg x hx).1
      exact (hb0 m (by have := (hg _ hx).2; omega)).2 hx, fun x x0 x1 hx => by
      obtain ⟨m, rfl⟩ := Int.eq_ofNat_of_zero_le x0
      exact .gen ((hb0 m ω).1 hx)⟩
  refine LoopWP.intro (fun s : Bool × List Bool => GI t G s.2 ∧ (s.1 = false → ∀ x y : Nat, x < t.length → y < t.length → ix s.2 x = true → ix s.2 y = true → ix s.2 (mu t x y) = true))
    (fun s => 2 * unm s.2 + s.1.toNat) ⟨hI0, fun hh => by cases hh⟩ ?_
  rintro ⟨c, b⟩ X ⟨hI, hcl⟩ hX
  simp only at hI hcl
  show J1o t K _ c b
  unfold J1o
  split
  · rename_i hc
    subst hc
    refine LoopWP.to t.length (fun s : Bool × Nat × List Bool => s.2.1) (fun s => s.2.1 ≤ t.length ∧ GI t G s.2.2 ∧ (s.1 = true → unm s.2.2 < unm b) ∧ (s.1 = false → s.2.2 = b ∧ ∀ x y : Nat, x < s.2.1 → y < t.length → ix b x = true → ix b y = true → ix b (mu t x y) = true))
      ⟨Nat.zero_le _, hI, (fun hh => by cases hh), fun _ => ⟨rfl, fun x y hx => absurd hx (Nat.not_lt_zero _)⟩⟩ (fun s hs => hs.1) ?_
    rintro ⟨c2, k, b2⟩ X2 ⟨hk, hI2, hc2, hd2⟩ hX2
    simp only at hk hI2 hc2 hd2
    show J1c t _ K _ c2 k b2
    unfold J1c
    split
    · have hkl : k < t.length := ω
      refine LoopWP.to t.length (fun s : Bool × Nat × List Bool => s.2.1) (fun s => s.2.1 ≤ t.length ∧ GI t G s.2.2 ∧ (s.1 = true → unm s.2.2 < unm b) ∧ (s.1 = false → s.2.2 = b ∧ (∀ x y : Nat, x < k → y < t.length → ix b x = true → ix b y = true → ix b (mu t x y) = true) ∧ ∀ y : Nat, y < s.2.1 → ix b (k : Int) = true → ix b y = true → ix b (mu t k y) = true))
        ⟨Nat.zero_le _, hI2, hc2, fun hh => ⟨(hd2 hh).1, (hd2 hh).2, fun y hy => absurd hy (Nat.not_lt_zero _)⟩⟩ (fun s hs => hs.1) ?_
      rintro ⟨c3, j, b3⟩ X3 ⟨hj, hI3, hc3, hd3⟩ hX3
      simp only at hj hI3 hc3 hd3
      show J1p t k _ K _ c3 j b3
      unfold J1p
      have hl3 := hI3.len
      split
      · have hjl : j < t.length := ω
        refine ⟨ω, ω, ?_⟩
        split
        · rename_i hbk
          refine ⟨ω, ω, ?_⟩
          split
          · rename_i hbj
            have r1 := T.row k ω ω
            have m1 := T.mu (x := k) (y := j) ω ω ω ω
            have hm := Clo.mul (hI3.clo k ω ω hbk) (hI3.clo j ω ω hbj)
            unfold mu at m1
            refine ⟨ω, ω, ω, ω, m1.1, ω, ?_⟩
            split
            · rename_i hin
              refine hX3 (c3, j + 1, b3) ⟨by simp only; omega, hI3, hc3, fun hh => ⟨(hd3 hh).1, (hd3 hh).2.1, fun y hy h1 h2 => ?_⟩⟩ rfl
              simp only at hy
              by_cases hyj : y = j
              · subst hyj; rw [← (hd3 hh).1]; exact hin
              · exact (hd3 hh).2.2 y ω h1 h2
            · rename_i hout
              refine ⟨ω, ω, ω, ω, m1.1, ω, hX3 (true, j + 1, _) ⟨by simp only; omega, hI3.st hg m1.1 m1.2 hm, fun _ => ?_, fun hh => by cases hh⟩ rfl⟩
              have e1 := Ja8 (b := b3) m1.1 ω hout
              simp only
              cases c3 with
              | true => have := hc3 rfl; omega
              | false => have := (hd3 rfl).1; subst this; omega
          · rename_i hbj
            refine hX3 (c3, j + 1, b3) ⟨by simp only; omega, hI3, hc3, fun hh => ⟨(hd3 hh).1, (hd3 hh).2.1, fun y hy h1 h2 => ?_⟩⟩ rfl
            simp only at hy
            by_cases hyj : y = j
            · subst hyj; rw [(hd3 hh).1] at hbj; exact absurd h2 hbj
            · exact (hd3 hh).2.2 y ω h1 h2
        · rename_i hbk
          refine hX3 (c3, j + 1, b3) ⟨by simp only; omega, hI3, hc3, fun hh => ⟨(hd3 hh).1, (hd3 hh).2.1, fun y hy h1 h2 => ?_⟩⟩ rfl
          rw [(hd3 hh).1] at hbk; exact absurd h1 hbk
      · refine hX2 (c3, k + 1, b3) ⟨by simp only; omega, hI3, hc3, fun hh => ⟨(hd3 hh).1, fun x y hx hy h1 h2 => ?_⟩⟩ rfl
        simp only at hx
        by_cases hxk : x = k
        · subst hxk; exact (hd3 hh).2.2 y ω h1 h2
        · exact (hd3 hh).2.1 x y ω hy h1 h2
    · refine hX (c2, b2) ⟨hI2, fun hh x y hx hy h1 h2 => ?_⟩ ?_
      · have := (hd2 hh).1
        simp only at h1 h2 ⊢
        rw [this] at h1 h2 ⊢
        exact (hd2 hh).2 x y ω hy h1 h2
      · simp only
        cases c2 with
        | true => have := hc2 rfl; simp; omega
        | false => have := (hd2 rfl).1; rw [this]; simp
  · rename_i hc
    have hc' : c = false := by simpa using hc
    have hl := hI.len
    refine J4O ω (h _ ?_)
    have hA := J79 b.length fun x => ix b x
    refine ⟨hA.1, fun x => (hA.2 x).trans ⟨fun hx => hI.clo x hx.1.1 ω hx.2, fun hx => ?_⟩⟩
    have hin := hx.in_ T hg
    refine ⟨ω, ?_⟩
    have key : ∀ y, Clo t G y → ix b y = true := fun y hy => by
      induction hy with
      | gen hy => exact hI.gen _ hy
      | mul h1 h2 i1 i2 =>
        have q1 := h1.in_ T hg
        have q2 := h2.in_ T hg
        rename_i y1 y2
        obtain ⟨a, rfl⟩ := Int.eq_ofNat_of_zero_le q1.1
        obtain ⟨c, rfl⟩ := Int.eq_ofNat_of_zero_le q2.1
        exact hcl hc' a c ω ω i1 i2
    exact key x hx
end Sg
namespace Sg
open Go
structure DI (p : Int → Bool) (n i j : Nat) (s : List Int) : Prop where
 len : s.length = n
 ij : i ≤ j
 jn : j ≤ n
 hd : s.take i = (iota j).filter p
 tl : ∀ k : Nat, j ≤ k → k < n → ix s (k : Int) = k
theorem DI.start {p : Int → Bool} {n k : Nat} (hk : k < n) (h : ∀ j : Nat, j < k → p j = true) (hn : p k = false) : DI p n k (k + 1) (iota n) := by
 refine ⟨by simp, ω, ω, ?_, fun m _ hm => J4d hm⟩
 have e1 : (iota n).take k = iota k := by
  unfold iota; rw [← List.map_take, List.take_range, Nat.min_eq_left ω]
 rw [e1, J31, List.filter_append, List.filter_eq_self.2 fun x hx => ?_]
 ·simp [hn]
 ·obtain ⟨h0, h1⟩ := J4p.1 hx
  obtain ⟨m, rfl⟩ := Int.eq_ofNat_of_zero_le h0
  exact h m ω
theorem DI.drop {p : Int → Bool} {n i j : Nat} {s : List Int} (h : DI p n i j s) (hj : j < n) (hp : p j = false) : DI p n i (j + 1) s :=
 ⟨h.len, by have := h.ij; omega, ω, by rw [h.hd, J31, List.filter_append]; simp [hp], fun k hk hkn => h.tl k ω hkn⟩
theorem DI.keep {p : Int → Bool} {n i j : Nat} {s : List Int} (h : DI p n i j s) (hj : j < n) (hp : p j = true) : DI p n (i + 1) (j + 1) (st s (i : Int) (ix s (j : Int))) := by
 have hij := h.ij
 have hl := h.len
 refine ⟨by simpa using hl, ω, ω, ?_, fun k hk hkn => ?_⟩
 ·rw [h.tl j (Nat.le_refl _) hj, J31, List.filter_append, ← h.hd]
  simp only [st, Int.toNat_natCast]
  rw [List.take_set, List.take_succ_eq_append_getElem ω, List.set_append_right _ _ (by simp; omega)]
  have h5 : i - min i s.length = 0 := ω
  simp [hp, h5]
 ·rw [ix_st _ ω ω ω, if_neg ω]
  exact h.tl k ω hkn
theorem DI.fin {p : Int → Bool} {n i : Nat} {s : List Int} (h : DI p n i n s) (q : List Int) : (s.take i ++ q).take i = (iota n).filter p := by
 have := h.ij
 have := h.len
 rw [List.take_append_of_le_length (by simp; omega), List.take_take, Nat.min_self, h.hd]
end Sg
namespace Sg
open Go
end Sg
namespace Sg
open Go
structure CLM (t : List (List Int)) (n : Nat) (G L : List Int) (mk : List Bool) : Prop where
 mi : MI t n G L mk
 gen : ∀ h ∈ G, h ∈ L
 rt : ∀ x ∈ L, ∀ h ∈ G, mu t x h ∈ L
theorem CLM.all {t : List (List Int)} (hv : VT t = true) {G L : List Int} {mk : List Bool} (h : CLM t t.length G L mk) (x : Int) : x ∈ L ↔ Clo t G x := by
  have T := SH.tb (VT.sh hv)
  have hG : ∀ y ∈ G, 0 ≤ y ∧ y < (t.length : Int) := fun y hy => h.mi.inn y (h.gen y hy)
  refine ⟨h.mi.clo x, fun hx => ?_⟩
  have mulr : ∀ z, Clo t G z → ∀ y ∈ L, mu t y z ∈ L := fun z hz => by
    induction hz with
    | gen hg => exact fun y hy => h.rt y hy _ hg
    | mul h1 h2 i1 i2 =>
      intro y hy
      rw [← (VT.as hv).all (h.mi.inn y hy) (h1.in_ T hG) (h2.in_ T hG)]
      exact i2 _ (i1 y hy)
  induction hx with
  | gen hg => exact h.gen _ hg
  | mul h1 h2 i1 i2 => exact mulr _ h2 _ i1
structure GS (t : List (List Int)) (n : Nat) (G : List Int) (g : Int) (L0 : List Int) (i : Nat) (L : List Int) (mk : List Bool) : Prop where
 mi : MI t n (G ++ [g]) L mk
 pre : ∃ r, L = L0 ++ g :: r
 le : i ≤ L.length
 old : ∀ a : Nat, a < i → a < L0.length → mu t (ix L a) g ∈ L
 new : ∀ a : Nat, a < i → L0.length ≤ a → ∀ h ∈ G ++ [g], mu t (ix L a) h ∈ L
theorem GS.start {t : List (List Int)} {n : Nat} {G : List Int} {g : Int} {L0 : List Int} {mk : List Bool} (h : CLM t n G L0 mk) (h0 : 0 ≤ g) (h1 : g < n) (hg : ¬ ix mk g = true) : GS t n G g L0 0 (L0 ++ [g]) (st mk g true) :=
 ⟨(h.mi.mono fun x hx => List.mem_append_left _ hx).add h0 h1 (.gen (by simp)) hg, ⟨[], rfl⟩, Nat.zero_le _, fun a ha => absurd ha (Nat.not_lt_zero _), fun a ha => absurd ha (Nat.not_lt_zero _)⟩
theorem J9W {α : Type} [Inhabited α] {L r : List α} {a : Nat} (h : a < L.length) : ix (L ++ r) (a : Int) = ix L (a : Int) := by
 rw [ix_lt (by simp; omega), ix_lt h, List.getElem_append_left]
theorem GS.fin {t : List (List Int)} {n : Nat} {G : List Int} {g : Int} {L0 L : List Int} {mk0 mk : List Bool} (h0 : CLM t n G L0 mk0) (h : GS t n G g L0 L.length L mk) : CLM t n (G ++ [g]) L mk := by
 obtain ⟨r, hr⟩ := h.pre
 have sub : ∀ x ∈ L0, x ∈ L := fun x hx => by rw [hr]; simp [hx]
 refine ⟨h.mi, fun y hy => ?_, fun x hx y hy => ?_⟩
 ·rcases List.mem_append.1 hy with hy | hy
  ·exact sub y (h0.gen y hy)
  ·rw [List.mem_singleton] at hy; subst hy; rw [hr]; simp
 ·obtain ⟨a, ha, rfl⟩ := J0g.1 hx
  by_cases hal : a < L0.length
  ·rcases List.mem_append.1 hy with hy | hy
   ·have e1 : ix L (a : Int) = ix L0 (a : Int) := by rw [hr]; exact J9W hal
    rw [e1]
    exact sub _ (h0.rt _ (J0U ω ω) y hy)
   ·rw [List.mem_singleton] at hy; subst hy; exact h.old a ha hal
  ·exact h.new a ha ω y hy
theorem GS.mem {t : List (List Int)} {n : Nat} {G : List Int} {g : Int} {L0 : List Int} {i : Nat} {L : List Int} {mk : List Bool} (h : GS t n G g L0 i L mk) {x : Int} (x0 : 0 ≤ x) (x1 : x < n) (hx : ix mk x = true) : x ∈ L := by
 obtain ⟨m, rfl⟩ := Int.eq_ofNat_of_zero_le x0
 exact (h.mi.mkd m ω).1 hx
end Sg
namespace Sg
open Go
theorem J46 {s : List Int} (hs : s.length ≤ 1099511627776) {K : List Int → Prop} (h : K s) : J07 s K := by
 unfold J07
 intro z hz
 split
 ·rename_i h1; rw [hz h1] at h; exact h
 ·exact ⟨by simpa using hs, by simpa using h⟩
def oRow (t : List (List Int)) (x : Nat) : List Int := t.map fun row => ix row (x : Int)
def opp (t : List (List Int)) : List (List Int) := (List.range t.length).map (oRow t)
@[simp] theorem Jaf {t : List (List Int)} {x : Nat} : (oRow t x).length = t.length := by simp [oRow]
@[simp] theorem Jai {t : List (List Int)} : (opp t).length = t.length := by simp [opp]
def aRows (t : List (List Int)) (k : Nat) : List (List Int) := (List.range k).map fun (x : Nat) => ix t (x : Int) ++ [(x : Int)]
def adj (t : List (List Int)) : List (List Int) := aRows t t.length ++ [iota t.length ++ [(t.length : Int)]]
@[simp] theorem Ja6 {t : List (List Int)} (k : Nat) : (aRows t k).length = k := by simp [aRows]
@[simp] theorem Jag {t : List (List Int)} : (adj t).length = t.length + 1 := by simp [adj]
end Sg
namespace Sg
open Go
section
variable {t u : List (List Int)} (T : Tb t t.length) (U : Tb u u.length)
include T U
end
end Sg
namespace Sg
open Go
end Sg
namespace Sg
open Go
def posR (s : List Int) : Nat → Int → Int
 | 0, _ => -1
 | k + 1, x => if x = ix s (k : Int) then (k : Int) else posR s k x
def subRow (t : List (List Int)) (s : List Int) (i : Int) : List Int := (iota s.length).map fun j => posR s s.length (mu t (ix s i) (ix s j))
def subTab (t : List (List Int)) (s : List Int) : List (List Int) := (iota s.length).map (subRow t s)
@[simp] theorem J9T {t : List (List Int)} {s : List Int} {i : Int} : (subRow t s i).length = s.length := by simp [subRow]
@[simp] theorem J9V {t : List (List Int)} {s : List Int} : (subTab t s).length = s.length := by simp [subTab]
end Sg
namespace Sg
open Go
end Sg
namespace Sg
open Go
def DV (d : DFA) : Bool := decide (1 ≤ d.Letters) && decide (d.Letters ≤ 6) && decide (1 ≤ d.Final.length) && decide (d.Final.length ≤ 512) && decide (d.Next.length = d.Final.length) && decide (0 ≤ d.Start) && decide (d.Start < d.Final.length) &&
 d.Next.all fun row => decide ((row.length : Int) = d.Letters) && row.all fun q => decide (0 ≤ q) && decide (q < d.Final.length)
structure Da (d : DFA) : Prop where
 l1 : 1 ≤ d.Letters
 l6 : d.Letters ≤ 6
 f1 : 1 ≤ d.Final.length
 f2 : d.Final.length ≤ 512
 nx : d.Next.length = d.Final.length
 s0 : 0 ≤ d.Start
 s1 : d.Start < d.Final.length
 row : ∀ j : Nat, j < d.Next.length → ((ix d.Next j).length : Int) = d.Letters
 el : ∀ j i : Nat, j < d.Next.length → i < (ix d.Next j).length → 0 ≤ ix (ix d.Next j) i ∧ ix (ix d.Next j) i < d.Final.length
theorem J3J {d : DFA} : DV d = true ↔ Da d := by
 have h1 : ∀ row : List Int, (∀ q ∈ row, 0 ≤ q ∧ q < (d.Final.length : Int)) ↔ ∀ i : Nat, i < row.length → 0 ≤ ix row i ∧ ix row i < d.Final.length := fun row => J0w (p := fun q : Int => 0 ≤ q ∧ q < (d.Final.length : Int))
 have h2 : (∀ row ∈ d.Next, (row.length : Int) = d.Letters ∧ ∀ q ∈ row, 0 ≤ q ∧ q < (d.Final.length : Int)) ↔ ∀ j : Nat, j < d.Next.length → ((ix d.Next j).length : Int) = d.Letters ∧ ∀ q ∈ ix d.Next j, 0 ≤ q ∧ q < (d.Final.length : Int) :=
  J0w (p := fun row : List Int => (row.length : Int) = d.Letters ∧ ∀ q ∈ row, 0 ≤ q ∧ q < (d.Final.length : Int))
 simp only [DV, Bool.and_eq_true, decide_eq_true_eq, List.all_eq_true]
 rw [h2]
 constructor
 ·rintro ⟨⟨⟨⟨⟨⟨⟨a, b⟩, c⟩, d1⟩, e⟩, f⟩, g⟩, h⟩
  exact ⟨a, b, c, d1, e, f, g, fun j hj => (h j hj).1, fun j i hj hi => (h1 _).1 (h j hj).2 i hi⟩
 ·rintro ⟨a, b, c, d1, e, f, g, h, k⟩
  exact ⟨⟨⟨⟨⟨⟨⟨a, b⟩, c⟩, d1⟩, e⟩, f⟩, g⟩, fun j hj => ⟨h j hj, (h1 _).2 fun i hi => k j i hj hi⟩⟩
theorem Da.at_ {d : DFA} (D : Da d) {q x : Int} (h0 : 0 ≤ q) (h1 : q < d.Final.length) (k0 : 0 ≤ x) (k1 : x < d.Letters) : ((ix d.Next q).length : Int) = d.Letters ∧ 0 ≤ ix (ix d.Next q) x ∧ ix (ix d.Next q) x < d.Final.length := by
 obtain ⟨a, rfl⟩ := Int.eq_ofNat_of_zero_le h0
 obtain ⟨b, rfl⟩ := Int.eq_ofNat_of_zero_le k0
 have hn := D.nx
 have hr := D.row a ω
 have := D.el a b ω ω
 exact ⟨hr, this⟩
def daC (d : DFA) : Int := if d.Letters < 1 ∨ 6 < d.Letters then 1 else if 512 < d.Final.length then 3 else if DV d = true then 0 else 4
theorem daC0 {d : DFA} : daC d = 0 ↔ DV d = true := by
 unfold daC
 constructor
 ·intro h
  split at h
  ·omega
  ·split at h
   ·omega
   ·split at h
    ·assumption
    ·omega
 ·intro h
  have D := J3J.1 h
  rw [if_neg (by have := D.l1; have := D.l6; omega), if_neg (by have := D.f2; omega), if_pos h]
theorem daC4 {d : DFA} (h1 : ¬ (d.Letters < 1 ∨ 6 < d.Letters)) (h2 : ¬ 512 < d.Final.length) (h3 : ¬ Da d) : daC d = 4 := by
 rw [daC, if_neg h1, if_neg h2, if_neg (fun h => h3 (J3J.1 h))]
theorem J0L {d : DFA} {K : Int → Prop} (h : K (daC d)) : J0p d K := by
 unfold J0p
 split
 ·rw [daC, if_pos ω] at h; exact h
 ·split
  ·rw [daC, if_pos ω] at h; exact h
  ·refine fun _ => ?_
   split
   ·rw [daC, if_neg ω, if_pos ω] at h; exact h
   ·refine fun _ => ?_
    split
    ·rename_i hnx
     split
     ·rw [daC4 ω ω fun D => by have := D.s0; omega] at h; exact h
     ·split
      ·rw [daC4 ω ω fun D => by have := D.s1; omega] at h; exact h
      ·refine LoopWP.scan d.Next.length (fun j => ((ix d.Next j).length : Int) = d.Letters ∧ ∀ i : Nat, i < (ix d.Next j).length → 0 ≤ ix (ix d.Next j) i ∧ ix (ix d.Next j) i < d.Final.length) ?_
       intro k X hk hI hX
       show J2t d K _ k
       unfold J2t
       split
       ·refine ⟨ω, ω, fun _ => ?_⟩
        split
        ·rename_i hrow
         refine LoopWP.scan (ix d.Next (k : Int)).length (fun i => 0 ≤ ix (ix d.Next (k : Int)) i ∧ ix (ix d.Next (k : Int)) i < d.Final.length) ?_
         intro i X2 hi hJ hX2
         show J2g d k _ K _ i
         unfold J2g
         split
         ·refine ⟨ω, ω, ?_⟩
          split
          ·rw [daC4 ω ω fun D => by have := D.el k i ω ω; omega] at h; exact h
          ·split
           ·rw [daC4 ω ω fun D => by have := D.el k i ω ω; omega] at h; exact h
           ·exact hX2 ω ⟨ω, ω⟩
         ·exact hX ω ⟨hrow, fun i hi => hJ i ω⟩
        ·rename_i hrow
         rw [daC4 ω ω fun D => hrow (D.row k ω)] at h; exact h
       ·have D : Da d := ⟨ω, ω, ω, ω, ω, ω, ω, fun j hj => (hI j ω).1, fun j i hj hi => (hI j ω).2 i hi⟩
        rw [daC0.2 (J3J.2 D)] at h; exact h
    ·rw [daC4 ω ω fun D => by have := D.nx; omega] at h; exact h
theorem J36 {d : DFA} {K : Int → Prop} (h : K (daC d)) : J0q d K := by
 unfold J0q J0v
 refine fun _ => ?_
 split
 ·split
  ·simp only [if_true]
   split
   ·rw [daC, if_neg ω, if_pos ω] at h; exact h
   ·split
    ·rw [daC4 ω ω fun D => by have := D.f1; omega] at h; exact h
    ·refine fun _ => ?_
     split
     ·rename_i hnx
      split
      ·rw [daC4 ω ω fun D => by have := D.s0; omega] at h; exact h
      ·split
       ·rw [daC4 ω ω fun D => by have := D.s1; omega] at h; exact h
       ·refine LoopWP.scan d.Next.length (fun j => ((ix d.Next j).length : Int) = d.Letters ∧ ∀ i : Nat, i < (ix d.Next j).length → 0 ≤ ix (ix d.Next j) i ∧ ix (ix d.Next j) i < d.Final.length) ?_
        intro k X hk hI hX
        show J1E d K _ k
        unfold J1E
        split
        ·refine ⟨ω, ω, fun _ => ?_⟩
         split
         ·rename_i hrow
          refine LoopWP.scan (ix d.Next (k : Int)).length (fun i => 0 ≤ ix (ix d.Next (k : Int)) i ∧ ix (ix d.Next (k : Int)) i < d.Final.length) ?_
          intro i X2 hi hJ hX2
          show J1A d k _ K _ i
          unfold J1A
          split
          ·refine ⟨ω, ω, ?_⟩
           split
           ·rw [daC4 ω ω fun D => by have := D.el k i ω ω; omega] at h; exact h
           ·split
            ·rw [daC4 ω ω fun D => by have := D.el k i ω ω; omega] at h; exact h
            ·exact hX2 ω ⟨ω, ω⟩
          ·exact hX ω ⟨hrow, fun i hi => hJ i ω⟩
         ·rename_i hrow
          rw [daC4 ω ω fun D => hrow (D.row k ω)] at h; exact h
        ·have D : Da d := ⟨ω, ω, ω, ω, ω, ω, ω, fun j hj => (hI j ω).1, fun j i hj hi => (hI j ω).2 i hi⟩
         rw [daC0.2 (J3J.2 D)] at h; exact h
     ·rw [daC4 ω ω fun D => by have := D.nx; omega] at h; exact h
  ·simp only [Bool.false_eq_true, if_false]
   rw [daC, if_pos ω] at h; exact h
 ·simp only [Bool.false_eq_true, if_false]
  rw [daC, if_pos ω] at h; exact h
def rn (d : DFA) (q : Int) (w : Str) : Int := w.foldl (fun q b => ix (ix d.Next q) ((b.toNat : Int) - 97)) q
end Sg
namespace Sg
open Go
def CanP (p : List Int) : Prop := ∀ k : Nat, k < p.length → 0 ≤ ix p (k : Int) ∧ ∀ v : Int, 0 ≤ v → v < ix p (k : Int) → ∃ j : Nat, j < k ∧ ix p (j : Int) = v
structure IsCan {κ : Type} [Inhabited κ] (p : List Int) (l : List κ) : Prop where
 len : p.length = l.length
 can : CanP p
 ker : ∀ i j : Nat, i < l.length → j < l.length → (ix p (i : Int) = ix p (j : Int) ↔ ix l (i : Int) = ix l (j : Int))
theorem IsCan.uniq {κ κ' : Type} [Inhabited κ] [Inhabited κ'] {p q : List Int} {l : List κ} {m : List κ'} (hp : IsCan p l) (hq : IsCan q m) (hl : l.length = m.length)
    (hk : ∀ i j : Nat, i < l.length → j < l.length → (ix l (i : Int) = ix l (j : Int) ↔ ix m (i : Int) = ix m (j : Int))) : p = q := by
  refine J0b (by rw [hp.len, hq.len, hl]) fun k hkl => ?_
  have hkl' : k < l.length := by rw [← hp.len]; exact hkl
  clear hkl
  induction k using Nat.strongRecOn with
  | _ k ih =>
    have ihk : ∀ j : Nat, j < k → ix p (j : Int) = ix q (j : Int) := fun j hj => ih j hj ω
    obtain ⟨p0, p1⟩ := hp.can k (by rw [hp.len]; exact hkl')
    obtain ⟨q0, q1⟩ := hq.can k (by rw [hq.len]; omega)
    have step : ∀ j : Nat, j < k → (ix p (j : Int) = ix p (k : Int) ↔ ix q (j : Int) = ix q (k : Int)) := fun j hj => by
      rw [hp.ker j k ω hkl', hk j k ω hkl', hq.ker j k ω ω]
    rcases Int.lt_trichotomy (ix p (k : Int)) (ix q (k : Int)) with h | h | h
    · obtain ⟨j, hj, he⟩ := q1 _ p0 h
      have h1 := (step j hj).1 (by rw [ihk j hj]; exact he)
      omega
    · exact h
    · obtain ⟨j, hj, he⟩ := p1 _ q0 h
      have h1 := (step j hj).2 (by rw [← ihk j hj]; exact he)
      omega
structure CN {κ : Type} [Inhabited κ] [DecidableEq κ] (l : List κ) (k : Nat) (m : List (κ × Int)) (p : List Int) : Prop where
 len : p.length = l.length
 has : ∀ x, mhas m x = true ↔ ∃ j : Nat, j < k ∧ ix l (j : Int) = x
 at_ : ∀ j : Nat, j < k → ix p (j : Int) = mgt m (ix l (j : Int))
 lo : ∀ j : Nat, j < k → 0 ≤ ix p (j : Int) ∧ ix p (j : Int) < (m.length : Int)
 inj : ∀ i j : Nat, i < k → j < k → ix p (i : Int) = ix p (j : Int) → ix l (i : Int) = ix l (j : Int)
 all : ∀ v : Int, 0 ≤ v → v < (m.length : Int) → ∃ j : Nat, j < k ∧ ix p (j : Int) = v
 can : ∀ q : Nat, q < k → ∀ v : Int, 0 ≤ v → v < ix p (q : Int) → ∃ j : Nat, j < q ∧ ix p (j : Int) = v
 le : m.length ≤ k
section
variable {κ : Type} [Inhabited κ] [DecidableEq κ] {l : List κ}
theorem CN.start : CN l 0 ([] : List (κ × Int)) (List.replicate l.length 0) := ⟨by simp, fun x => by simp [mhas], fun j hj => by omega, fun j hj => by omega, fun i j hi => by omega, fun v h0 h1 => by simp at h1; omega, fun q hq => by omega, by simp⟩
theorem CN.fin {m : List (κ × Int)} {p : List Int} (h : CN l l.length m p) : IsCan p l :=
 ⟨h.len, fun k hk => ⟨(h.lo k (by rw [← h.len]; exact hk)).1, h.can k (by rw [← h.len]; exact hk)⟩, fun i j hi hj => ⟨h.inj i j hi hj, fun he => by rw [h.at_ i hi, h.at_ j hj, he]⟩⟩
theorem CN.old {k : Nat} {m : List (κ × Int)} {p : List Int} (h : CN l k m p) (hk : k < l.length) (hx : mhas m (ix l (k : Int)) = true) : CN l (k + 1) m (st p (k : Int) (mgt m (ix l (k : Int)))) := by
 obtain ⟨i, hi, he⟩ := (h.has _).1 hx
 have e : ∀ j : Nat, ix (st p (k : Int) (mgt m (ix l (k : Int)))) (j : Int) = if j = k then mgt m (ix l (k : Int)) else ix p (j : Int) := fun j => by
  rw [ix_st _ ω (by rw [h.len]; omega) ω]
  by_cases hj : j = k
  ·rw [if_pos ω, if_pos hj]
  ·rw [if_neg ω, if_neg hj]
 have hi' : mgt m (ix l (k : Int)) = ix p (i : Int) := by rw [h.at_ i hi, he]
 refine ⟨by simpa using h.len, fun x => ?_, fun j hj => ?_, fun j hj => ?_, fun a b ha hb hab => ?_, fun v h0 h1 => ?_, fun q hq v h0 h1 => ?_, by have := h.le; omega⟩
 ·rw [h.has]
  constructor
  ·rintro ⟨j, hj, hh⟩; exact ⟨j, ω, hh⟩
  ·rintro ⟨j, hj, hh⟩
   by_cases hjk : j = k
   ·subst hjk; exact ⟨i, hi, he.trans hh⟩
   ·exact ⟨j, ω, hh⟩
 ·rw [e]
  by_cases hjk : j = k
  ·rw [if_pos hjk, hjk]
  ·rw [if_neg hjk]; exact h.at_ j ω
 ·rw [e]
  by_cases hjk : j = k
  ·rw [if_pos hjk, hi']; exact h.lo i hi
  ·rw [if_neg hjk]; exact h.lo j ω
 ·rw [e, e] at hab
  by_cases hak : a = k
  ·by_cases hbk : b = k
   ·rw [hak, hbk]
   ·rw [if_pos hak, if_neg hbk, hi'] at hab
    rw [hak, ← he]; exact h.inj i b hi ω hab
  ·by_cases hbk : b = k
   ·rw [if_neg hak, if_pos hbk, hi'] at hab
    rw [hbk, ← he]; exact h.inj a i ω hi hab
   ·rw [if_neg hak, if_neg hbk] at hab
    exact h.inj a b ω ω hab
 ·obtain ⟨j, hj, hv⟩ := h.all v h0 h1
  exact ⟨j, ω, by rw [e, if_neg ω]; exact hv⟩
 ·rw [e] at h1
  by_cases hqk : q = k
  ·rw [if_pos hqk, hi'] at h1
   obtain ⟨j, hj, hv⟩ := h.can i hi v h0 h1
   exact ⟨j, ω, by rw [e, if_neg ω]; exact hv⟩
  ·rw [if_neg hqk] at h1
   obtain ⟨j, hj, hv⟩ := h.can q ω v h0 h1
   exact ⟨j, ω, by rw [e, if_neg ω]; exact hv⟩
theorem CN.new {k : Nat} {m : List (κ × Int)} {p : List Int} (h : CN l k m p) (hk : k < l.length) (hx : ¬ mhas m (ix l (k : Int)) = true) : CN l (k + 1) (mput m (ix l (k : Int)) (m.length : Int)) (st p (k : Int) (m.length : Int)) := by
 have e : ∀ j : Nat, ix (st p (k : Int) (m.length : Int)) (j : Int) = if j = k then (m.length : Int) else ix p (j : Int) := fun j => by
  rw [ix_st _ ω (by rw [h.len]; omega) ω]
  by_cases hj : j = k
  ·rw [if_pos ω, if_pos hj]
  ·rw [if_neg ω, if_neg hj]
 have hn : ∀ j : Nat, j < k → ¬ ix l (j : Int) = ix l (k : Int) := fun j hj hh => hx ((h.has _).2 ⟨j, hj, hh⟩)
 have hlen : (mput m (ix l (k : Int)) (m.length : Int)).length = m.length + 1 := by rw [J7J, if_neg hx]
 refine ⟨by simpa using h.len, fun x => ?_, fun j hj => ?_, fun j hj => ?_, fun a b ha hb hab => ?_, fun v h0 h1 => ?_, fun q hq v h0 h1 => ?_, by have := h.le; omega⟩
 ·rw [J3c, Bool.or_eq_true, decide_eq_true_eq, h.has]
  constructor
  ·rintro (rfl | ⟨j, hj, hh⟩)
   ·exact ⟨k, ω, rfl⟩
   ·exact ⟨j, ω, hh⟩
  ·rintro ⟨j, hj, hh⟩
   by_cases hjk : j = k
   ·subst hjk; exact .inl hh.symm
   ·exact .inr ⟨j, ω, hh⟩
 ·rw [e, J42]
  by_cases hjk : j = k
  ·rw [if_pos hjk, hjk, if_pos rfl]
  ·rw [if_neg hjk, if_neg (hn j ω)]; exact h.at_ j ω
 ·rw [e, hlen]
  by_cases hjk : j = k
  ·rw [if_pos hjk]; omega
  ·rw [if_neg hjk]; have := h.lo j ω; omega
 ·rw [e, e] at hab
  by_cases hak : a = k
  ·by_cases hbk : b = k
   ·rw [hak, hbk]
   ·rw [if_pos hak, if_neg hbk] at hab
    have := h.lo b ω; omega
  ·by_cases hbk : b = k
   ·rw [if_neg hak, if_pos hbk] at hab
    have := h.lo a ω; omega
   ·rw [if_neg hak, if_neg hbk] at hab
    exact h.inj a b ω ω hab
 ·rw [hlen] at h1
  by_cases hv : v = (m.length : Int)
  ·exact ⟨k, ω, by rw [e, if_pos rfl, hv]⟩
  ·obtain ⟨j, hj, hv⟩ := h.all v h0 ω
   exact ⟨j, ω, by rw [e, if_neg ω]; exact hv⟩
 ·rw [e] at h1
  by_cases hqk : q = k
  ·rw [if_pos hqk] at h1
   obtain ⟨j, hj, hv⟩ := h.all v h0 h1
   exact ⟨j, ω, by rw [e, if_neg ω]; exact hv⟩
  ·rw [if_neg hqk] at h1
   obtain ⟨j, hj, hv⟩ := h.can q ω v h0 h1
   exact ⟨j, ω, by rw [e, if_neg ω]; exact hv⟩
end
def IsCnt (p : List Int) (c : Int) : Prop := 0 ≤ c ∧ ∀ v : Int, (0 ≤ v ∧ v < c) ↔ ∃ j : Nat, j < p.length ∧ ix p (j : Int) = v
theorem IsCnt.uniq {p : List Int} {c d : Int} (h : IsCnt p c) (k : IsCnt p d) : c = d := by
 rcases Int.lt_trichotomy c d with hh | hh | hh
 ·have := (h.2 c).2 ((k.2 c).1 ⟨h.1, hh⟩); omega
 ·exact hh
 ·have := (k.2 d).2 ((h.2 d).1 ⟨k.1, hh⟩); omega
end Sg
namespace Sg
open Go
def Per (f : List Int) (x : Int) : Prop := ∃ d, 1 ≤ d ∧ itr f d x = x
def isMin (f : List Int) (i : Int) (k : Nat) : Prop := 1 ≤ k ∧ itr f k i = i ∧ ∀ m, 1 ≤ m → m < k → i < itr f m i
theorem J9Q {f : List Int} {d : Nat} {x : Int} (h : itr f d x = x) (q : Nat) : itr f (d * q) x = x := by
 induction q with
 | zero => rfl
 | succ q ih => rw [Nat.mul_succ, J50, ih, h]
theorem J9R {f : List Int} {d : Nat} {x : Int} (h : itr f d x = x) (m : Nat) : itr f m x = itr f (m % d) x := by
 conv => lhs; rw [← Nat.div_add_mod m d, J50, J9Q h]
theorem J94 (f : List Int) (a b : Nat) (x : Int) : itr f a (itr f b x) = itr f b (itr f a x) := by
 rw [← J50, ← J50, Nat.add_comm]
theorem Per.on {f : List Int} {x : Int} (h : Per f x) (m : Nat) : Per f (itr f m x) := by
 obtain ⟨d, h1, h2⟩ := h
 exact ⟨d, h1, by rw [J94, h2]⟩
theorem isMin.dvd {f : List Int} {i : Int} {k d : Nat} (h : isMin f i k) (hd : itr f d i = i) : k ∣ d := by
 have h1 := J9R h.2.1 d
 have h2 : d % k < k := Nat.mod_lt _ h.1
 rcases Nat.eq_zero_or_pos (d % k) with h0 | h0
 ·exact Nat.dvd_of_mod_eq_zero h0
 ·have := h.2.2 _ h0 h2; omega
theorem isMin.uniq {f : List Int} {i : Int} {k l : Nat} (h : isMin f i k) (h' : isMin f i l) : k = l := by
 have h1 := h.2.2 l h'.1; have h2 := h'.2.2 k h.1; have h3 := h.2.1; have h4 := h'.2.1
 rcases Nat.lt_trichotomy k l with hh | hh | hh
 ·have := h2 hh; omega
 ·exact hh
 ·have := h1 hh; omega
theorem isMin.le {f : List Int} (hf : VF f = true) {i : Int} {k : Nat} (h0 : 0 ≤ i) (h1 : i < f.length) (h : isMin f i k) : k ≤ f.length := by
 rcases Nat.lt_or_ge f.length k with hlt | hge
 ·obtain ⟨a, b, hab, hb, he⟩ := pigeon f.length (fun m => itr f m i) fun m _ => Ja1 hf m h0 h1
  have h2 : itr f (k - b) (itr f b i) = i := by rw [← J50, show b + (k - b) = k from by omega]; exact h.2.1
  rw [← he, ← J50] at h2
  have := h.2.2 (a + (k - b)) ω ω
  omega
 ·exact hge
def orbit (f : List Int) (i : Int) (k : Nat) : List Int := (List.range k).map fun m => itr f m i
@[simp] theorem J71 (f : List Int) (i : Int) (k : Nat) : (orbit f i k).length = k := by simp [orbit]
inductive CY (f : List Int) : Nat → List (List Int) → Prop
 | zero : CY f 0 []
 | hit {i k : Nat} {l : List (List Int)} : CY f i l → isMin f (i : Int) k → CY f (i + 1) (l ++ [orbit f i k])
 | miss {i : Nat} {l : List (List Int)} : CY f i l → (∀ k, ¬ isMin f (i : Int) k) → CY f (i + 1) l
theorem CY.uniq {f : List Int} {n : Nat} : ∀ {l l' : List (List Int)}, CY f n l → CY f n l' → l = l' := by
  induction n with
  | zero => intro l l' h h'; cases h; cases h'; rfl
  | succ n ih =>
    intro l l' h h'
    cases h with
    | hit h hm => cases h' with
      | hit h' hm' => rw [ih h h', hm.uniq hm']
      | miss h' hm' => exact absurd hm (hm' _)
    | miss h hm => cases h' with
      | hit h' hm' => exact absurd hm' (hm _)
      | miss h' hm' => exact ih h h'
theorem CY.all {f : List Int} {n : Nat} {l : List (List Int)} (h : CY f n l) : ∀ c ∈ l, ∃ (i k : Nat), i < n ∧ isMin f i k ∧ c = orbit f i k := by
  induction h with
  | zero => intro c hc; simp at hc
  | hit _ hm ih =>
    intro c hc
    rcases List.mem_append.1 hc with hc | hc
    · obtain ⟨i, k, h1, h2, h3⟩ := ih c hc; exact ⟨i, k, ω, h2, h3⟩
    · rw [List.mem_singleton] at hc; exact ⟨_, _, Nat.lt_succ_self _, hm, hc⟩
  | miss _ _ ih => intro c hc; obtain ⟨i, k, h1, h2, h3⟩ := ih c hc; exact ⟨i, k, ω, h2, h3⟩
theorem CY.has {f : List Int} {n : Nat} {l : List (List Int)} (h : CY f n l) : ∀ i k : Nat, i < n → isMin f i k → orbit f i k ∈ l := by
  induction h with
  | zero => intro i k hi; omega
  | @hit j k' l _ hm ih =>
    intro i k hi hik
    by_cases hij : i = j
    · subst hij; rw [hm.uniq hik]; exact List.mem_append_right _ (List.mem_singleton.2 rfl)
    · exact List.mem_append_left _ (ih i k ω hik)
  | @miss j l _ hm ih =>
    intro i k hi hik
    by_cases hij : i = j
    · subst hij; exact absurd hik (hm _)
    · exact ih i k ω hik
theorem CY.len {f : List Int} {n : Nat} {l : List (List Int)} (h : CY f n l) : l.length ≤ n := by
 induction h with
 | zero => simp
 | hit _ _ ih => simp; omega
 | miss _ _ ih => omega
structure IP (f : List Int) (a p : Nat) : Prop where
 a1 : 1 ≤ a
 an : a ≤ 1 + f.length
 per : ∀ x : Int, 0 ≤ x → x < f.length → Per f (itr f a x)
 low : a = 1 ∨ ∃ x : Int, 0 ≤ x ∧ x < f.length ∧ ¬ Per f (itr f (a - 1) x)
 p1 : 1 ≤ p
 dv : ∀ i k : Nat, i < f.length → isMin f i k → k ∣ p
 least : ∀ M, (∀ i k : Nat, i < f.length → isMin f i k → k ∣ M) → p ∣ M
theorem IP.uniq {f : List Int} {a p p' : Nat} (h : IP f a p) (hp : (∀ i k : Nat, i < f.length → isMin f i k → k ∣ p') ∧ ∀ M, (∀ i k : Nat, i < f.length → isMin f i k → k ∣ M) → p' ∣ M) : p = p' :=
 Nat.dvd_antisymm (h.least _ hp.1) (hp.2 _ h.dv)
theorem IP.bd {f : List Int} (hf : VF f = true) {a p : Nat} (h : IP f a p) : p ∣ 144403552893600 := by
 refine h.least _ fun i k hi hm => ?_
 have hk := hm.le hf ω ω
 have := VF.len hf
 have hk1 := hm.1
 have : ∀ k, k < 33 → 1 ≤ k → k ∣ 144403552893600 := by decide
 exact this k ω hk1
end Sg
namespace Sg
open Go
def LC (L : List (List Int)) (m : Nat) : Prop := 1 ≤ m ∧ (∀ c ∈ L, c.length ∣ m) ∧ ∀ M, (∀ c ∈ L, c.length ∣ M) → m ∣ M
theorem LC.nil : LC [] 1 := ⟨Nat.le_refl _, fun c hc => by simp at hc, fun M _ => Nat.one_dvd M⟩
theorem CY.dvd {f : List Int} (hf : VF f = true) {l : List (List Int)} (h : CY f f.length l) {c : List Int} (hc : c ∈ l) : 1 ≤ c.length ∧ c.length ≤ f.length := by
 obtain ⟨i, k, hi, hik, rfl⟩ := h.all c hc
 rw [J71]
 exact ⟨hik.1, hik.le hf ω ω⟩
theorem dvd32 : ∀ k, k < 33 → 1 ≤ k → k ∣ 144403552893600 := by decide
theorem LC.bd {f : List Int} (hf : VF f = true) {l L : List (List Int)} (h : CY f f.length l) (hL : ∀ c ∈ L, c ∈ l) {m : Nat} (hm : LC L m) : m ≤ 144403552893600 := by
 refine Nat.le_of_dvd (by decide) (hm.2.2 _ fun c hc => ?_)
 have := h.dvd hf (hL c hc)
 have := VF.len hf
 exact dvd32 _ ω ω
def PL (f : List Int) (m : Nat) : List (List Int) := (List.range m).map fun k => pw f (k + 1)
@[simp] theorem Jab (f : List Int) (m : Nat) : (PL f m).length = m := by simp [PL]
end Sg
namespace Sg
open Go
def col (d : DFA) (x : Nat) : List Int := d.Next.map fun row => ix row (x : Int)
def gensD (d : DFA) : List (List Int) := (List.range d.Letters.toNat).map (col d)
@[simp] theorem Jah {d : DFA} {x : Nat} : (col d x).length = d.Next.length := by simp [col]
@[simp] theorem Ja2 {d : DFA} : (gensD d).length = d.Letters.toNat := by simp [gensD]
end Sg
namespace Sg
open Go
def AscOf (p : Int → Prop) (l : List Int) : Prop := l.Pairwise (· < ·) ∧ ∀ x, x ∈ l ↔ p x
theorem AscOf.uniq {p : Int → Prop} {l l' : List Int} (h : AscOf p l) (k : AscOf p l') : l = l' := by
  have key : ∀ l l' : List Int, l.Pairwise (· < ·) → l'.Pairwise (· < ·) → (∀ x, x ∈ l ↔ x ∈ l') → l = l' := by
    intro l
    induction l with
    | nil =>
      intro l' _ _ hm
      cases l' with
      | nil => rfl
      | cons b l' => exact absurd ((hm b).2 (by simp)) (by simp)
    | cons a l ih =>
      intro l' h1 h2 hm
      cases l' with
      | nil => exact absurd ((hm a).1 (by simp)) (by simp)
      | cons b l' =>
        rw [List.pairwise_cons] at h1 h2
        have hab : a = b := by
          have ha := (hm a).1 (by simp)
          have hb := (hm b).2 (by simp)
          rcases List.mem_cons.1 ha with e | ha
          · exact e
          · rcases List.mem_cons.1 hb with e | hb
            · exact e.symm
            · have := h1.1 b hb; have := h2.1 a ha; omega
        subst hab
        rw [ih l' h1.2 h2.2 fun x => ?_]
        constructor
        · intro hx
          rcases List.mem_cons.1 ((hm x).1 (by simp [hx])) with e | hx'
          · have := h1.1 x hx; omega
          · exact hx'
        · intro hx
          rcases List.mem_cons.1 ((hm x).2 (by simp [hx])) with e | hx'
          · have := h2.1 x hx; omega
          · exact hx'
  exact key l l' h.1 k.1 fun x => (h.2 x).trans (k.2 x).symm
theorem AscOf.nodup {p : Int → Prop} {l : List Int} (h : AscOf p l) : l.Nodup := h.1.imp fun hlt => Int.ne_of_lt hlt
structure CI (s0 : List Int) (c m : Nat) (s : List Int) : Prop where
 len : s.length = s0.length
 c1 : 1 ≤ c
 cm : c + 1 ≤ m
 mn : m ≤ s0.length
 tl : ∀ j : Nat, m ≤ j + 1 → j < s0.length → ix s (j : Int) = ix s0 (j : Int)
 asc : ∀ i j : Nat, i < j → j < c → ix s (i : Int) < ix s (j : Int)
 last : ix s ((c - 1 : Nat) : Int) = ix s0 ((m - 1 : Nat) : Int)
 mem : ∀ x, (∃ i : Nat, i < c ∧ ix s (i : Int) = x) ↔ ∃ i : Nat, i < m ∧ ix s0 (i : Int) = x
theorem CI.same {s0 s : List Int} {c m : Nat} (h : CI s0 c m s) (hm : m < s0.length) (he : ix s0 (m : Int) = ix s0 ((m - 1 : Nat) : Int)) : CI s0 c (m + 1) s := by
 have hc1 := h.c1
 have hcm := h.cm
 refine ⟨h.len, h.c1, ω, hm, fun j hj hj2 => h.tl j ω hj2, h.asc, ?_, fun x => (h.mem x).trans ?_⟩
 ·rw [h.last, ← he]; rfl
 ·constructor
  ·rintro ⟨i, hi, e⟩; exact ⟨i, ω, e⟩
  ·rintro ⟨i, hi, e⟩
   by_cases him : i = m
   ·subst him; exact ⟨i - 1, ω, by rw [← he]; exact e⟩
   ·exact ⟨i, ω, e⟩
end Sg
namespace Sg
open Go
theorem J7U : ∀ {W V : List Str}, W.Pairwise SL → V.Pairwise SL → (∀ w, w ∈ W ↔ w ∈ V) → W = V
  | [], [], _, _, _ => rfl
  | [], v :: V, _, _, h => by have := (h v).2 (by simp); simp at this
  | w :: W, [], _, _, h => by have := (h w).1 (by simp); simp at this
  | w :: W, v :: V, hw, hv, h => by
    obtain ⟨w1, w2⟩ := List.pairwise_cons.1 hw
    obtain ⟨v1, v2⟩ := List.pairwise_cons.1 hv
    have e : w = v := by
      rcases List.mem_cons.1 ((h w).1 (by simp)) with k | k
      · exact k
      · rcases List.mem_cons.1 ((h v).2 (by simp)) with k2 | k2
        · exact k2.symm
        · exact absurd (v1 w k) (w1 v k2).asymm
    subst e
    rw [J7U w2 v2 fun x => ⟨fun hx => ?_, fun hx => ?_⟩]
    · rcases List.mem_cons.1 ((h x).1 (List.mem_cons_of_mem _ hx)) with k | k
      · subst k; exact absurd (w1 x hx) (SL.irrefl x)
      · exact k
    · rcases List.mem_cons.1 ((h x).2 (List.mem_cons_of_mem _ hx)) with k | k
      · subst k; exact absurd (v1 x hx) (SL.irrefl x)
      · exact k
section
variable {k : Nat} {α β : Type} {ρ : Str → α} {ρ' : Str → β}
def RC (k : Nat) (ρ : Str → α) : Prop := ∀ u v b, LW k u → LW k v → LW k [b] → ρ u = ρ v → ρ (u ++ [b]) = ρ (v ++ [b])
theorem RC.app (h : RC k ρ) {u v : Str} (hu : LW k u) (hv : LW k v) (he : ρ u = ρ v) {w : Str} (hw : LW k w) : ρ (u ++ w) = ρ (v ++ w) := by
  induction w using snocRec with
  | nil => simpa using he
  | snoc w b ih =>
    obtain ⟨h1, h2⟩ := LW.app.1 hw
    rw [← List.append_assoc, ← List.append_assoc]
    exact h _ _ b (LW.app.2 ⟨hu, h1⟩) (LW.app.2 ⟨hv, h1⟩) h2 (ih h1)
def Lst (k : Nat) (ρ : Str → α) (w : Str) : Prop := LW k w ∧ ∀ v, LW k v → ρ v = ρ w → ¬ SL v w
theorem Lst.pre (hr : RC k ρ) {u v : Str} (h : Lst k ρ (u ++ v)) : Lst k ρ u := by
 obtain ⟨l1, l2⟩ := LW.app.1 h.1
 exact ⟨l1, fun u' h1 h2 h3 => h.2 (u' ++ v) (LW.app.2 ⟨h1, l2⟩) (hr.app h1 l1 h2 l2) (h3.J6S v)⟩
theorem Lst.uniq {u v : Str} (hu : Lst k ρ u) (hv : Lst k ρ v) (h : ρ u = ρ v) : u = v := by
 rcases SL.total u v with c | c | c
 ·exact absurd c (hv.2 u hu.1 h)
 ·exact c
 ·exact absurd c (hu.2 v hv.1 h.symm)
theorem Lst.nil : Lst k ρ [] := ⟨LW.nil _, fun v _ _ h => J54 v h⟩
theorem J69 {w : Str} : LW k w → ∃ r, Lst k ρ r ∧ ρ r = ρ w ∧ (r = w ∨ SL r w) := by
  induction w using SL.wf.induction with
  | _ w ih =>
    intro hw
    by_cases h : Lst k ρ w
    · exact ⟨w, h, rfl, .inl rfl⟩
    · have : ∃ v, LW k v ∧ ρ v = ρ w ∧ SL v w := by
        apply Classical.byContradiction
        intro hn
        exact h ⟨hw, fun v h1 h2 h3 => hn ⟨v, h1, h2, h3⟩⟩
      obtain ⟨v, h1, h2, h3⟩ := this
      obtain ⟨r, k1, k2, k3⟩ := ih v h3 h1
      refine ⟨r, k1, k2.trans h2, .inr ?_⟩
      rcases k3 with rfl | k3
      · exact h3
      · exact k3.trans h3
theorem Lst.congr (h : ∀ u v, LW k u → LW k v → (ρ u = ρ v ↔ ρ' u = ρ' v)) {w : Str} (hw : Lst k ρ w) : Lst k ρ' w := ⟨hw.1, fun v h1 h2 => hw.2 v h1 ((h v w h1 hw.1).2 h2)⟩
structure CL (k : Nat) (ρ : Str → α) (W : List Str) (F : Str → Prop) : Prop where
 asc : W.Pairwise SL
 mem : ∀ w, w ∈ W ↔ Lst k ρ w ∧ F w
variable {W V : List Str} {u : Str} {x : Nat} {F : Str → Prop}
theorem CL.uniq (h : CL k ρ W F) (c : CL k ρ V F) : W = V :=
 J7U h.asc c.asc fun w => (h.mem w).trans (c.mem w).symm
theorem CL.known (h : CL k ρ W (fun w => SL w (u ++ [lt x]))) (hx : x + 1 < 159) {w : Str} (hw : w ∈ W) (he : ρ w = ρ (u ++ [lt x])) : CL k ρ W (fun w => SL w (u ++ [lt (x + 1)])) := by
 have hk := (h.mem w).1 hw
 have hn : ¬ Lst k ρ (u ++ [lt x]) := fun hr => hr.2 w hk.1.1 he hk.2
 refine ⟨h.asc, fun v => ⟨fun hv => ?_, fun hv => ?_⟩⟩
 ·obtain ⟨k1, k2⟩ := (h.mem v).1 hv
  exact ⟨k1, k2.trans (SL.J0G (lt_lt ω ω))⟩
 ·refine (h.mem v).2 ⟨hv.1, ?_⟩
  apply Classical.byContradiction
  intro h2
  by_cases h0 : u ≠ [] ∨ v ≠ []
  ·have := between hx h0 hv.2 h2
   rw [this] at hv
   exact hn hv.1
  ·simp only [not_or, ne_eq, Classical.not_not] at h0
   exact h2 (by rw [h0.2]; exact SL.nil (by simp))
theorem CL.new (h : CL k ρ W (fun w => SL w (u ++ [lt x]))) (hx : x + 1 < 159) (hw : LW k (u ++ [lt x])) (hn : ∀ w ∈ W, ρ w ≠ ρ (u ++ [lt x])) : CL k ρ (W ++ [u ++ [lt x]]) (fun w => SL w (u ++ [lt (x + 1)])) := by
 have hr : Lst k ρ (u ++ [lt x]) := by
  refine ⟨hw, fun v h1 h2 h3 => ?_⟩
  obtain ⟨r, k1, k2, k3⟩ := J69 (ρ := ρ) h1
  refine hn r ((h.mem r).2 ⟨k1, ?_⟩) (k2.trans h2)
  rcases k3 with rfl | k3
  ·exact h3
  ·exact k3.trans h3
 refine ⟨List.pairwise_append.2 ⟨h.asc, List.pairwise_singleton _ _, fun a ha b hb => ?_⟩, fun v => ⟨fun hv => ?_, fun hv => ?_⟩⟩
 ·rw [List.mem_singleton.1 hb]
  exact ((h.mem a).1 ha).2
 ·rcases List.mem_append.1 hv with hv | hv
  ·obtain ⟨k1, k2⟩ := (h.mem v).1 hv
   exact ⟨k1, k2.trans (SL.J0G (lt_lt ω ω))⟩
  ·rw [List.mem_singleton.1 hv]
   exact ⟨hr, SL.J0G (lt_lt ω ω)⟩
 ·by_cases h2 : SL v (u ++ [lt x])
  ·exact List.mem_append.2 (.inl ((h.mem v).2 ⟨hv.1, h2⟩))
  ·refine List.mem_append.2 (.inr (List.mem_singleton.2 ?_))
   by_cases h0 : u ≠ [] ∨ v ≠ []
   ·exact between hx h0 hv.2 h2
   ·simp only [not_or, ne_eq, Classical.not_not] at h0
    exact absurd (by rw [h0.2]; exact SL.nil (by simp)) h2
theorem CL.congrF {G : Str → Prop} (h : CL k ρ W F) (e : ∀ w, Lst k ρ w → (F w ↔ G w)) : CL k ρ W G :=
 ⟨h.asc, fun w => (h.mem w).trans ⟨fun c => ⟨c.1, (e w c.1).1 c.2⟩, fun c => ⟨c.1, (e w c.1).2 c.2⟩⟩⟩
theorem CL.start : CL k ρ [[]] (fun w => SL w ([] ++ [lt 0])) := by
  refine ⟨List.pairwise_singleton _ _, fun w => ⟨fun h => ?_, fun h => ?_⟩⟩
  · rw [List.mem_singleton.1 h]
    exact ⟨Lst.nil, SL.nil (by simp)⟩
  · rw [List.mem_singleton]
    cases w with
    | nil => rfl
    | cons a w =>
      exfalso
      have ha := h.1.1 a (by simp)
      rcases h.2 with hs | ⟨hl, hs⟩
      · simp at hs
      · have : w = [] := List.eq_nil_of_length_eq_zero (by simpa using hl)
        subst this
        rw [List.nil_append, J0W, J09 ω] at hs
        rcases hs with hs | ⟨_, hs⟩
        · omega
        · simp [slt] at hs
theorem gapC (hk : k < 159) {u p : Str} {b : UInt8} (hb : LW k [b]) (h : ¬ SL (p ++ [b]) (u ++ [lt k])) : SL u p := by
 have hbk := (LW.one.1 hb).2
 have hbl : b.toNat < (lt k).toNat := by rw [J09 hk]; omega
 rcases SL.total u p with e | e | e
 ·exact e
 ·subst e
  exact absurd (SL.J0G hbl) h
 ·refine absurd ?_ h
  rcases e with e | ⟨e, e2⟩
  ·exact .inl (by simp; omega)
  ·exact .inr ⟨by simp [e], J3s e e2⟩
theorem SL.up {u u' : Str} (h : SL u u') {w : Str} {a b : UInt8} (hw : SL w (u ++ [a])) : SL w (u' ++ [b]) := by
 refine hw.trans ?_
 rcases h with h | ⟨h, h2⟩
 ·exact .inl (by simp; omega)
 ·exact .inr ⟨by simp [h], J3s h h2⟩
theorem CL.next (hr : RC k ρ) (hk : k < 159) {d : Nat} (h : CL k ρ W (fun w => SL w (ix W d ++ [lt k]))) (hd : d + 1 < W.length) : CL k ρ W (fun w => SL w (ix W ((d + 1 : Nat) : Int) ++ [lt 0])) := by
 refine h.congrF fun w hw => ⟨fun hF => SL.up (J4C h.asc ω hd) hF, fun hF => ?_⟩
 by_cases h0 : w = []
 ·subst h0; exact SL.nil (by simp)
 ·obtain ⟨p, b, rfl⟩ := snocEx h0
  apply Classical.byContradiction
  intro hn
  have h2 := gapC hk (LW.app.1 hw.1).2 hn
  have h3 : SL p (ix W ((d + 1 : Nat) : Int)) := by
   rcases SL.snoc hF with c | ⟨_, c⟩
   ·exact c
   ·rw [J09 ω] at c
    have := (LW.one.1 (LW.app.1 hw.1).2).1
    omega
  have hu' : ix W ((d + 1 : Nat) : Int) ∈ W := J0g.2 ⟨d + 1, hd, rfl⟩
  have hpW : p ∈ W := (h.mem p).2 ⟨hw.pre hr, h3.trans ((h.mem _).1 hu').2⟩
  obtain ⟨j, hj, rfl⟩ := J0g.1 hpW
  have := J35 h.asc ω hj h2
  have := J35 h.asc hj hd h3
  omega
theorem CL.all (hr : RC k ρ) (hk : k < 159) {d : Nat} (h : CL k ρ W (fun w => SL w (ix W d ++ [lt k]))) (hd : d + 1 = W.length) : CL k ρ W (fun _ => True) := by
  refine ⟨h.asc, fun w => ⟨fun hw => ⟨((h.mem w).1 hw).1, trivial⟩, fun hw => ?_⟩⟩
  have key : ∀ w : Str, Lst k ρ w → w ∈ W := by
    intro w
    induction w using snocRec with
    | nil => exact fun hw => (h.mem _).2 ⟨hw, SL.nil (by simp)⟩
    | snoc p b ih =>
      intro hw
      refine (h.mem _).2 ⟨hw, ?_⟩
      apply Classical.byContradiction
      intro hn
      have h2 := gapC hk (LW.app.1 hw.1).2 hn
      obtain ⟨j, hj, rfl⟩ := J0g.1 (ih (hw.pre hr))
      have := J35 h.asc ω hj h2
      omega
  exact key w hw.1
theorem CL.congrR (hc : ∀ u v, LW k u → LW k v → (ρ u = ρ v ↔ ρ' u = ρ' v)) (h : CL k ρ W F) : CL k ρ' W F :=
 ⟨h.asc, fun w => (h.mem w).trans ⟨fun c => ⟨c.1.congr hc, c.2⟩, fun c => ⟨c.1.congr fun u v hu hv => (hc u v hu hv).symm, c.2⟩⟩⟩
theorem CL.place (h : CL k ρ W (fun _ => True)) {w : Str} (hw : LW k w) : ∃ j : Nat, j < W.length ∧ ρ (ix W j) = ρ w := by
 obtain ⟨r, h1, h2, _⟩ := J69 (ρ := ρ) hw
 obtain ⟨j, hj, e⟩ := J0g.1 ((h.mem r).2 ⟨h1, trivial⟩)
 exact ⟨j, hj, by rw [e]; exact h2⟩
theorem CL.inj (h : CL k ρ W F) {i j : Nat} (hi : i < W.length) (hj : j < W.length) (e : ρ (ix W i) = ρ (ix W j)) : i = j :=
 J3L h.asc hi hj (((h.mem _).1 (J0g.2 ⟨i, hi, rfl⟩)).1.uniq ((h.mem _).1 (J0g.2 ⟨j, hj, rfl⟩)).1 e)
theorem CL.lw (h : CL k ρ W F) {i : Nat} (hi : i < W.length) : LW k (ix W i) := ((h.mem _).1 (J0g.2 ⟨i, hi, rfl⟩)).1.1
theorem CL.zero (h : CL k ρ W (fun _ => True)) : ix W 0 = [] ∧ 0 < W.length := by
 obtain ⟨j, hj, e⟩ := J0g.1 ((h.mem []).2 ⟨Lst.nil, trivial⟩)
 rcases Nat.eq_zero_or_pos j with h0 | h0
 ·subst h0; exact ⟨e, hj⟩
 ·have := J4C h.asc h0 hj
  rw [e] at this
  exact absurd this (J54 _)
end
end Sg
namespace Sg
open Go
theorem J0D (d : DFA) (q : Int) (u v : Str) : rn d q (u ++ v) = rn d (rn d q u) v := by simp [rn]
theorem J8f (d : DFA) (q : Int) : rn d q [] = q := rfl
theorem J2R (d : DFA) (q : Int) (u : Str) {x : Nat} (hx : x < 159) : rn d q (u ++ [lt x]) = ix (ix d.Next (rn d q u)) (x : Int) := by
 rw [J0D]
 show ix (ix d.Next (rn d q u)) (((lt x).toNat : Int) - 97) = _
 rw [J09 hx]
 congr 1
 omega
theorem rn_lw {d : DFA} (D : Da d) {k : Nat} (hk : (k : Int) = d.Letters) {w : Str} : LW k w → ∀ {q : Int}, 0 ≤ q → q < d.Final.length → 0 ≤ rn d q w ∧ rn d q w < d.Final.length := by
  induction w using snocRec with
  | nil => exact fun _ _ h0 h1 => ⟨h0, h1⟩
  | snoc w b ih =>
    intro hw q h0 h1
    obtain ⟨hw1, hw2⟩ := LW.app.1 hw
    have hl := D.l6
    obtain ⟨x, hx, rfl⟩ := LW.letter ω hw2
    obtain ⟨k0, k1⟩ := ih hw1 h0 h1
    rw [J2R d q w ω]
    exact (D.at_ k0 k1 ω ω).2
theorem rn_RC (d : DFA) (k : Nat) (q : Int) : RC k (fun w => rn d q w) := fun u v b _ _ _ h => by
 show rn d q (u ++ [b]) = rn d q (v ++ [b])
 rw [J0D, J0D]
 exact congrArg (rn d · [b]) h
def beh (d : DFA) (k : Nat) (q : Int) : {w : Str // LW k w} → Bool := fun w => ix d.Final (rn d q w.1)
def nero (d : DFA) (k : Nat) (u : Str) : {w : Str // LW k w} → Bool := beh d k (rn d d.Start u)
theorem J5S (d : DFA) (k : Nat) : RC k (nero d k) := fun u v b hu hv hb h => by
 funext w
 have := congrFun h ⟨[b] ++ w.1, LW.app.2 ⟨hb, w.2⟩⟩
 simp only [nero, beh, ← J0D] at this ⊢
 simpa using this
theorem J4u {d : DFA} {k : Nat} {u v : Str} : nero d k u = nero d k v ↔ ∀ w, LW k w → ix d.Final (rn d d.Start (u ++ w)) = ix d.Final (rn d d.Start (v ++ w)) := by
 constructor
 ·intro h w hw
  have := congrFun h ⟨w, hw⟩
  simpa only [nero, beh, ← J0D] using this
 ·intro h
  funext w
  simpa only [nero, beh, ← J0D] using h w.1 w.2
structure Can {α : Type} (k : Nat) (ρ : Str → α) (φ : Str → Bool) (m : DFA) (W : List Str) : Prop where
 cl : CL k ρ W (fun _ => True)
 le : m.Letters = k
 st : m.Start = 0
 fl : m.Final.length = W.length
 nl : m.Next.length = W.length
 fin : ∀ i : Nat, i < W.length → ix m.Final i = φ (ix W i)
 row : ∀ i : Nat, i < W.length → (ix m.Next i).length = k
 nx : ∀ i x : Nat, i < W.length → x < k → ∃ j : Nat, ix (ix m.Next i) x = j ∧ j < W.length ∧ ρ (ix W j) = ρ (ix W i ++ [lt x])
section
variable {α β : Type} {k : Nat} {ρ : Str → α} {ρ' : Str → β} {φ : Str → Bool} {m m' : DFA} {W W' : List Str}
theorem Can.uniq (h : Can k ρ φ m W) (h' : Can k ρ φ m' W') : m = m' ∧ W = W' := by
 have e := h.cl.uniq h'.cl
 subst e
 refine ⟨?_, rfl⟩
 obtain ⟨a1, a2, a3, a4⟩ := m
 obtain ⟨b1, b2, b3, b4⟩ := m'
 have hl : a1 = b1 := h.le.trans h'.le.symm
 have hs : a2 = b2 := h.st.trans h'.st.symm
 have hf : a3 = b3 := J0b (h.fl.trans h'.fl.symm) fun j hj => by
  have hj : j < W.length := by rw [← h.fl]; exact hj
  exact (h.fin j hj).trans (h'.fin j hj).symm
 have hn : a4 = b4 := J0b (h.nl.trans h'.nl.symm) fun j hj => by
  have hj : j < W.length := by rw [← h.nl]; exact hj
  refine J0b ((h.row j hj).trans (h'.row j hj).symm) fun x hx => ?_
  have hx : x < k := by rw [← h.row j hj]; exact hx
  obtain ⟨i1, e1, l1, r1⟩ := h.nx j x hj hx
  obtain ⟨i2, e2, l2, r2⟩ := h'.nx j x hj hx
  have := h.cl.inj l1 l2 (r1.trans r2.symm)
  subst this
  exact e1.trans e2.symm
 rw [hl, hs, hf, hn]
theorem Can.congrR (hc : ∀ u v, LW k u → LW k v → (ρ u = ρ v ↔ ρ' u = ρ' v)) (hk : k < 159) (h : Can k ρ φ m W) : Can k ρ' φ m W := by
 refine ⟨h.cl.congrR hc, h.le, h.st, h.fl, h.nl, h.fin, h.row, fun i x hi hx => ?_⟩
 obtain ⟨j, e, hj, r⟩ := h.nx i x hi hx
 exact ⟨j, e, hj, (hc _ _ (h.cl.lw hj) (LW.app.2 ⟨h.cl.lw hi, LW.lt hx hk⟩)).1 r⟩
theorem Can.congrF {φ' : Str → Bool} (hc : ∀ u, LW k u → φ u = φ' u) (h : Can k ρ φ m W) : Can k ρ φ' m W :=
 ⟨h.cl, h.le, h.st, h.fl, h.nl, fun i hi => (h.fin i hi).trans (hc _ (h.cl.lw hi)), h.row, h.nx⟩
theorem Can.run (h : Can k ρ φ m W) (hr : RC k ρ) (hk : k < 159) {w : Str} : LW k w → ∃ j : Nat, rn m 0 w = j ∧ j < W.length ∧ ρ (ix W j) = ρ w := by
  induction w using snocRec with
  | nil => exact fun _ => ⟨0, rfl, h.cl.zero.2, by rw [show ((0 : Nat) : Int) = 0 from rfl, h.cl.zero.1]⟩
  | snoc w b ih =>
    intro hw
    obtain ⟨hw1, hw2⟩ := LW.app.1 hw
    obtain ⟨x, hx, rfl⟩ := LW.letter hk hw2
    obtain ⟨i, e1, hi, r1⟩ := ih hw1
    obtain ⟨j, e2, hj, r2⟩ := h.nx i x hi hx
    refine ⟨j, ?_, hj, r2.trans (hr _ _ _ (h.cl.lw hi) hw1 hw2 r1)⟩
    rw [J2R _ _ _ ω, e1, e2]
theorem Can.acc (h : Can k ρ φ m W) (hr : RC k ρ) (hk : k < 159) (hφ : ∀ u v, LW k u → LW k v → ρ u = ρ v → φ u = φ v) {w : Str} (hw : LW k w) : ix m.Final (rn m m.Start w) = φ w := by
 rw [h.st]
 obtain ⟨j, e, hj, r⟩ := h.run hr hk hw
 rw [e, h.fin j hj]
 exact hφ _ _ (h.cl.lw hj) hw r
theorem Can.da (h : Can k ρ φ m W) (h1 : 1 ≤ k) (h6 : k ≤ 6) (hW : W.length ≤ 512) : Da m := by
 have hz := h.cl.zero.2
 refine ⟨by rw [h.le]; omega, by rw [h.le]; omega, by rw [h.fl]; omega, by rw [h.fl]; exact hW, by rw [h.nl, h.fl], by rw [h.st]; omega, by rw [h.st, h.fl]; omega, fun j hj => ?_, fun j i hj hi => ?_⟩
 ·rw [h.le, h.row j (by rw [← h.nl]; exact hj)]
 ·have hj : j < W.length := by rw [← h.nl]; exact hj
  have hi : i < k := by rw [← h.row j hj]; exact hi
  obtain ⟨l, e, hl, _⟩ := h.nx j i hj hi
  rw [e, h.fl]
  exact ⟨ω, ω⟩
end
theorem CL.le {k : Nat} {ρ : Str → Int} {W : List Str} {F : Str → Prop} (h : CL k ρ W F) {n : Nat} (hn : ∀ w, LW k w → 0 ≤ ρ w ∧ ρ w < n) : W.length ≤ n := by
 apply Classical.byContradiction
 intro hc
 obtain ⟨a, b, h1, h2, e⟩ := pigeon n (fun m => ρ (ix W (m : Int))) fun m hm => hn _ (h.lw ω)
 have := h.inj (show a < W.length by omega) (show b < W.length by omega) e
 omega
end Sg
namespace Sg
open Go
structure Nmb (p : List Int) (c : Nat) : Prop where
 rg : ∀ q : Nat, q < p.length → ∃ a : Nat, ix p q = a ∧ a < c
 on : ∀ a : Nat, a < c → ∃ q : Nat, q < p.length ∧ ix p q = a
 fst : ∀ q a : Nat, q < p.length → (a : Int) < ix p q → ∃ j : Nat, j < q ∧ ix p j = a
def Fin2 (p r : List Int) : Prop := ∀ q q' : Nat, q < p.length → q' < p.length → ix p q = ix p q' → ix r q = ix r q'
theorem Nmb.nil : Nmb [] 0 := ⟨fun q h => by simp at h, fun a h => by omega, fun q a h => by simp at h⟩
theorem Nmb.uniq {p r : List Int} {c c' : Nat} (h : Nmb p c) (h' : Nmb r c') (hl : p.length = r.length) (k1 : Fin2 p r) (k2 : Fin2 r p) : p = r := by
  refine J0b hl fun q => ?_
  induction q using Nat.strongRecOn with
  | _ q ih =>
    intro hq
    apply Classical.byContradiction
    intro hne
    obtain ⟨a, ea, ha⟩ := h.rg q hq
    obtain ⟨b, eb, hb⟩ := h'.rg q ω
    rcases Nat.lt_trichotomy a b with hab | hab | hab
    · obtain ⟨j, hj, ej⟩ := h'.fst q a ω ω
      have e := ih j hj ω
      exact hne (by have := k1 j q ω hq (by rw [e, ej, ea]); rw [← this, ← e, e, ej, ea])
    · subst hab; exact hne (by rw [ea, eb])
    · obtain ⟨j, hj, ej⟩ := h.fst q b ω ω
      have e := ih j hj ω
      exact hne (by have := k2 j q ω ω (by rw [← e, ej, eb]); rw [← this, ej, eb])
theorem Nmb.finer {p r : List Int} {c c' : Nat} (h : Nmb p c) (h' : Nmb r c') (hl : p.length = r.length) (k : Fin2 r p) : c ≤ c' ∧ (c = c' → Fin2 p r) := by
 have rep : ∀ a : Nat, ∃ q : Nat, a < c → q < p.length ∧ ix p q = a := fun a => by
  by_cases ha : a < c
  ·obtain ⟨q, h1, h2⟩ := h.on a ha; exact ⟨q, fun _ => ⟨h1, h2⟩⟩
  ·exact ⟨0, fun h => absurd h ha⟩
 obtain ⟨f, hf⟩ := Classical.axiomOfChoice rep
 have inr : ∀ q : Nat, q < p.length → 0 ≤ ix r (q : Int) ∧ ix r (q : Int) < c' := fun q hq => by
  obtain ⟨a, e, ha⟩ := h'.rg q ω
  omega
 have key : ∀ a b : Nat, a < c → b < c → ix r (f a : Int) = ix r (f b : Int) → a = b := fun a b ha hb e => by
  have := k (f a) (f b) (by have := (hf a ha).1; omega) (by have := (hf b hb).1; omega) e
  rw [(hf a ha).2, (hf b hb).2] at this
  omega
 refine ⟨?_, ?_⟩
 ·apply Classical.byContradiction
  intro hc
  obtain ⟨a, b, h1, h2, e⟩ := pigeon c' (fun m => ix r (f m : Int)) fun m hm => inr _ (hf m ω).1
  have := key a b ω ω e
  omega
 ·rintro rfl q q' hq hq' e
  apply Classical.byContradiction
  intro hne
  obtain ⟨a0, e0, h0⟩ := h.rg q hq
  have : ∃ z : Nat, z < p.length ∧ ix p z = a0 ∧ ix r z ≠ ix r (f a0 : Int) := by
   by_cases hz : ix r (q : Int) = ix r (f a0 : Int)
   ·exact ⟨q', hq', by rw [← e, e0], fun h => hne (by rw [hz, h])⟩
   ·exact ⟨q, hq, e0, hz⟩
  obtain ⟨z, hz, ez, nz⟩ := this
  obtain ⟨a, b, h1, h2, e⟩ := pigeon c (fun m => if m < c then ix r (f m : Int) else ix r (z : Int)) fun m hm => by
   try simp only
   split
   ·rename_i hm; exact inr _ (hf m hm).1
   ·exact inr _ hz
  try simp only at e
  rw [if_pos ω] at e
  by_cases hb : b < c
  ·rw [if_pos hb] at e
   have := key a b ω hb e
   omega
  ·rw [if_neg hb] at e
   have := k (f a) z (by have := (hf a ω).1; omega) ω e
   rw [(hf a ω).2, ez] at this
   have : a = a0 := ω
   subst this
   exact nz e.symm
theorem Nmb.le {p : List Int} {c : Nat} (h : Nmb p c) : c ≤ p.length := by
 apply Classical.byContradiction
 intro hc
 have rep : ∀ a : Nat, ∃ q : Nat, a < c → q < p.length ∧ ix p q = a := fun a => by
  by_cases ha : a < c
  ·obtain ⟨q, h1, h2⟩ := h.on a ha; exact ⟨q, fun _ => ⟨h1, h2⟩⟩
  ·exact ⟨0, fun h => absurd h ha⟩
 obtain ⟨f, hf⟩ := Classical.axiomOfChoice rep
 obtain ⟨a, b, h1, h2, e⟩ := pigeon p.length (fun m => (f m : Int)) fun m hm => by have := (hf m ω).1; omega
 have ea := (hf a ω).2
 have eb := (hf b ω).2
 have : f a = f b := by have e : (f a : Int) = (f b : Int) := e; omega
 rw [this] at ea
 omega
theorem Nmb.old {p : List Int} {c a : Nat} (h : Nmb p c) (ha : a < c) : Nmb (p ++ [(a : Int)]) c := by
 have e1 : ∀ q : Nat, q < p.length → ix (p ++ [(a : Int)]) q = ix p q := fun q hq => by
  simp [J6d, List.getD_eq_getElem?_getD, List.getElem?_append_left hq]
 have e2 : ix (p ++ [(a : Int)]) (p.length : Nat) = a := by simp [J6d, List.getD_eq_getElem?_getD]
 refine ⟨fun q hq => ?_, fun b hb => ?_, fun q b hq hb => ?_⟩
 ·by_cases hp : q < p.length
  ·rw [e1 q hp]; exact h.rg q hp
  ·have : q = p.length := by simp at hq; omega
   subst this; exact ⟨a, e2, ha⟩
 ·obtain ⟨q, h1, h2⟩ := h.on b hb
  exact ⟨q, by simp; omega, by rw [e1 q h1, h2]⟩
 ·by_cases hp : q < p.length
  ·rw [e1 q hp] at hb
   obtain ⟨j, h1, h2⟩ := h.fst q b hp hb
   exact ⟨j, h1, by rw [e1 j ω, h2]⟩
  ·have : q = p.length := by simp at hq; omega
   subst this
   rw [e2] at hb
   obtain ⟨j, h1, h2⟩ := h.on b ω
   exact ⟨j, h1, by rw [e1 j h1, h2]⟩
theorem Nmb.new {p : List Int} {c : Nat} (h : Nmb p c) : Nmb (p ++ [(c : Int)]) (c + 1) := by
 have e1 : ∀ q : Nat, q < p.length → ix (p ++ [(c : Int)]) q = ix p q := fun q hq => by
  simp [J6d, List.getD_eq_getElem?_getD, List.getElem?_append_left hq]
 have e2 : ix (p ++ [(c : Int)]) (p.length : Nat) = c := by simp [J6d, List.getD_eq_getElem?_getD]
 refine ⟨fun q hq => ?_, fun b hb => ?_, fun q b hq hb => ?_⟩
 ·by_cases hp : q < p.length
  ·rw [e1 q hp]
   obtain ⟨a, e, ha⟩ := h.rg q hp
   exact ⟨a, e, ω⟩
  ·have : q = p.length := by simp at hq; omega
   subst this; exact ⟨c, e2, ω⟩
 ·by_cases hc : b < c
  ·obtain ⟨q, h1, h2⟩ := h.on b hc
   exact ⟨q, by simp; omega, by rw [e1 q h1, h2]⟩
  ·have : b = c := ω
   subst this; exact ⟨p.length, by simp, e2⟩
 ·by_cases hp : q < p.length
  ·rw [e1 q hp] at hb
   obtain ⟨j, h1, h2⟩ := h.fst q b hp hb
   exact ⟨j, h1, by rw [e1 j ω, h2]⟩
  ·have : q = p.length := by simp at hq; omega
   subst this
   rw [e2] at hb
   obtain ⟨j, h1, h2⟩ := h.on b ω
   exact ⟨j, h1, by rw [e1 j h1, h2]⟩
structure Keeps (k : Nat) (d : DFA) (p : List Int) : Prop where
 fin : ∀ q q' : Nat, q < p.length → q' < p.length → ix p q = ix p q' → ix d.Final q = ix d.Final q'
 nx : ∀ q q' x : Nat, q < p.length → q' < p.length → x < k → ix p q = ix p q' → ix p (ix (ix d.Next q) x) = ix p (ix (ix d.Next q') x)
def Holds (k : Nat) (d : DFA) (p : List Int) : Prop := ∀ q q' : Nat, q < p.length → q' < p.length → beh d k q = beh d k q' → ix p q = ix p q'
theorem Keeps.beh {k : Nat} {d : DFA} {p : List Int} (h : Keeps k d p) (D : Da d) (hk : (k : Int) = d.Letters) (hl : p.length = d.Final.length) {w : Str} : LW k w → ∀ q q' : Nat, q < p.length → q' < p.length → ix p q = ix p q' → ix p (rn d q w) = ix p (rn d q' w) := by
  have hk6 := D.l6
  induction w using snocRec with
  | nil => exact fun _ q q' _ _ e => e
  | snoc w b ih =>
    intro hw q q' hq hq' e
    obtain ⟨hw1, hw2⟩ := LW.app.1 hw
    obtain ⟨x, hx, rfl⟩ := LW.letter ω hw2
    have r1 := rn_lw D hk hw1 (q := q) ω ω
    have r2 := rn_lw D hk hw1 (q := q') ω ω
    rw [J2R _ _ _ ω, J2R _ _ _ ω]
    have := ih hw1 q q' hq hq' e
    obtain ⟨a, ea⟩ := Int.eq_ofNat_of_zero_le r1.1
    obtain ⟨b, eb⟩ := Int.eq_ofNat_of_zero_le r2.1
    rw [ea, eb] at this ⊢
    exact h.nx a b x ω ω hx this
theorem Keeps.nero {k : Nat} {d : DFA} {p : List Int} (h : Keeps k d p) (D : Da d) (hk : (k : Int) = d.Letters) (hl : p.length = d.Final.length) {q q' : Nat} (hq : q < p.length) (hq' : q' < p.length) (e : ix p q = ix p q') : Sg.beh d k q = Sg.beh d k q' := by
 funext w
 have r1 := rn_lw D hk w.2 (q := q) ω ω
 have r2 := rn_lw D hk w.2 (q := q') ω ω
 have := h.beh D hk hl w.2 q q' hq hq' e
 show ix d.Final (rn d q w.1) = ix d.Final (rn d q' w.1)
 obtain ⟨a, ea⟩ := Int.eq_ofNat_of_zero_le r1.1
 obtain ⟨b, eb⟩ := Int.eq_ofNat_of_zero_le r2.1
 rw [ea, eb] at this ⊢
 exact h.fin a b ω ω this
theorem J9e {k : Nat} {d : DFA} (hk : k < 159) {q q' : Int} (h : beh d k q = beh d k q') {x : Nat} (hx : x < k) : beh d k (ix (ix d.Next q) x) = beh d k (ix (ix d.Next q') x) := by
 funext w
 have := congrFun h ⟨[lt x] ++ w.1, LW.app.2 ⟨LW.lt hx hk, w.2⟩⟩
 simp only [beh, J0D] at this
 have e : ∀ q, rn d q [lt x] = ix (ix d.Next q) (x : Int) := fun q => J2R d q [] (x := x) ω
 simpa only [beh, e] using this
structure Quo (k : Nat) (d : DFA) (p : List Int) (Q : DFA) : Prop where
 le : Q.Letters = k
 st : Q.Start = ix p d.Start
 nl : Q.Next.length = Q.Final.length
 rg : ∀ q : Nat, q < p.length → ∃ a : Nat, ix p q = a ∧ a < Q.Final.length
 on : ∀ a : Nat, a < Q.Final.length → ∃ q : Nat, q < p.length ∧ ix p q = a ∧ ix Q.Final a = ix d.Final q ∧ (ix Q.Next a).length = k ∧ ∀ x : Nat, x < k → ix (ix Q.Next a) x = ix p (ix (ix d.Next q) x)
section
variable {k : Nat} {d Q : DFA} {p : List Int}
theorem Quo.da (h : Quo k d p Q) (D : Da d) (hk : (k : Int) = d.Letters) (hl : p.length = d.Final.length) (hn : Q.Final.length ≤ 512) : Da Q := by
 have hd := D.f1
 obtain ⟨a, ea, ha⟩ := h.rg 0 ω
 have s0 := D.s0
 have s1 := D.s1
 obtain ⟨s, es⟩ := Int.eq_ofNat_of_zero_le s0
 obtain ⟨b, eb, hb⟩ := h.rg s ω
 have hst := h.st
 rw [es, eb] at hst
 refine ⟨by rw [h.le, hk]; exact D.l1, by rw [h.le, hk]; exact D.l6, ω, hn, h.nl, ω, ω, fun j hj => ?_, fun j i hj hi => ?_⟩
 ·obtain ⟨q, hq, _, _, hr, _⟩ := h.on j (by rw [← h.nl]; exact hj)
  rw [hr, h.le]
 ·obtain ⟨q, hq, _, _, hr, hx⟩ := h.on j (by rw [← h.nl]; exact hj)
  rw [hx i ω]
  have := D.at_ (q := q) (x := i) ω ω ω ω
  obtain ⟨c, ec⟩ := Int.eq_ofNat_of_zero_le this.2.1
  rw [ec] at this ⊢
  obtain ⟨a, ea, ha⟩ := h.rg c ω
  rw [ea]
  omega
theorem Quo.rn (h : Quo k d p Q) (K : Keeps k d p) (D : Da d) (hk : (k : Int) = d.Letters) (hl : p.length = d.Final.length) {w : Str} : LW k w → ∀ q : Nat, q < p.length → rn Q (ix p q) w = ix p (rn d q w) := by
  have hk6 := D.l6
  induction w using snocRec with
  | nil => exact fun _ q _ => rfl
  | snoc w b ih =>
    intro hw q hq
    obtain ⟨hw1, hw2⟩ := LW.app.1 hw
    obtain ⟨x, hx, rfl⟩ := LW.letter ω hw2
    have r1 := rn_lw D hk hw1 (q := q) ω ω
    rw [J2R _ _ _ ω, J2R _ _ _ ω, ih hw1 q hq]
    obtain ⟨a, ea⟩ := Int.eq_ofNat_of_zero_le r1.1
    rw [ea] at r1 ⊢
    obtain ⟨c, ec, hc⟩ := h.rg a ω
    obtain ⟨q', hq', e', _, _, hx'⟩ := h.on c hc
    rw [ec, hx' x hx]
    exact K.nx q' a x hq' ω hx (by rw [e', ec])
theorem Quo.fin (h : Quo k d p Q) (K : Keeps k d p) {q : Nat} (hq : q < p.length) : ix Q.Final (ix p q) = ix d.Final q := by
 obtain ⟨c, ec, hc⟩ := h.rg q hq
 obtain ⟨q', hq', e', hf, _⟩ := h.on c hc
 rw [ec, hf]
 exact K.fin q' q hq' hq (by rw [e', ec])
theorem Quo.can {m : DFA} {W : List Str} (h : Quo k d p Q) (K : Keeps k d p) (H : Holds k d p) (D : Da d) (hk : (k : Int) = d.Letters) (hl : p.length = d.Final.length)
  (c : Can k (fun w => Sg.rn Q Q.Start w) (fun w => ix Q.Final (Sg.rn Q Q.Start w)) m W) : Can k (nero d k) (fun w => ix d.Final (Sg.rn d d.Start w)) m W := by
 have hk6 := D.l6
 obtain ⟨s, es⟩ := Int.eq_ofNat_of_zero_le D.s0
 have hs : s < p.length := by have := D.s1; omega
 have e : ∀ w, LW k w → Sg.rn Q Q.Start w = ix p (Sg.rn d d.Start w) := fun w hw => by
  rw [h.st, es]
  exact h.rn K D hk hl hw s hs
 have r : ∀ w, LW k w → ∃ a : Nat, Sg.rn d d.Start w = a ∧ a < p.length := fun w hw => by
  have := rn_lw D hk hw D.s0 D.s1
  obtain ⟨a, ea⟩ := Int.eq_ofNat_of_zero_le this.1
  exact ⟨a, ea, ω⟩
 refine Can.congrF (φ := fun w => ix Q.Final (Sg.rn Q Q.Start w)) (fun u hu => ?_) (c.congrR (ρ' := Sg.nero d k) (fun u v hu hv => ?_) ω)
 ·obtain ⟨a, ea, ha⟩ := r u hu
  show ix Q.Final (Sg.rn Q Q.Start u) = _
  rw [e u hu, ea]
  exact h.fin K ha
 ·obtain ⟨a, ea, ha⟩ := r u hu
  obtain ⟨b, eb, hb⟩ := r v hv
  show Sg.rn Q Q.Start u = Sg.rn Q Q.Start v ↔ Sg.beh d k (Sg.rn d d.Start u) = Sg.beh d k (Sg.rn d d.Start v)
  rw [e u hu, e v hv, ea, eb]
  exact ⟨fun h => K.nero D hk hl ha hb h, fun h => H a b ha hb h⟩
theorem Can.trim {t m : DFA} {V W : List Str} (D : Da d) (hk : (k : Int) = d.Letters) (hk9 : k < 159) (c : Can k (fun w => Sg.rn d d.Start w) (fun w => ix d.Final (Sg.rn d d.Start w)) t V)
  (h : Can k (nero t k) (fun w => ix t.Final (Sg.rn t t.Start w)) m W) : Can k (nero d k) (fun w => ix d.Final (Sg.rn d d.Start w)) m W := by
 have e : ∀ w, LW k w → ix t.Final (Sg.rn t t.Start w) = ix d.Final (Sg.rn d d.Start w) := fun w hw => c.acc (rn_RC d k d.Start) hk9 (fun u v _ _ h => by have h : Sg.rn d d.Start u = Sg.rn d d.Start v := h; rw [h]) hw
 refine Can.congrF e (h.congrR (fun u v hu hv => ?_) hk9)
 rw [J4u, J4u]
 exact forall_congr' fun w => forall_congr' fun hw => by rw [e _ (LW.app.2 ⟨hu, hw⟩), e _ (LW.app.2 ⟨hv, hw⟩)]
end
end Sg
namespace Sg
open Go
section
variable {κ : Type} [DecidableEq κ]
structure NumI (f : Nat → κ) (q : Nat) (p : List Int) (m : List (κ × Int)) : Prop where
 len : p.length = q
 nmb : Nmb p m.length
 has : ∀ a, mhas m a = true ↔ ∃ j, j < q ∧ f j = a
 val : ∀ j : Nat, j < q → ix p (j : Int) = mgt m (f j)
 rg : ∀ a, mhas m a = true → 0 ≤ mgt m a ∧ mgt m a < m.length
 inj : ∀ a b, mhas m a = true → mhas m b = true → mgt m a = mgt m b → a = b
variable {f : Nat → κ} {q : Nat} {p : List Int} {m : List (κ × Int)}
theorem NumI.start : NumI f 0 [] [] := ⟨rfl, Nmb.nil, fun a => by simp [mhas], fun j h => by omega, fun a h => by simp [mhas] at h, fun a b h => by simp [mhas] at h⟩
theorem ixS {l : List Int} {j : Nat} {a : Int} (h : j < l.length) : ix (l ++ [a]) (j : Int) = ix l (j : Int) := by
 simp [J6d, List.getD_eq_getElem?_getD, List.getElem?_append_left h]
theorem ixE {l : List Int} {a : Int} : ix (l ++ [a]) (l.length : Int) = a := by simp [J6d, List.getD_eq_getElem?_getD]
theorem NumI.old (h : NumI f q p m) (hm : mhas m (f q) = true) : NumI f (q + 1) (p ++ [mgt m (f q)]) m := by
 obtain ⟨g0, g1⟩ := h.rg _ hm
 obtain ⟨a, ea⟩ := Int.eq_ofNat_of_zero_le g0
 refine ⟨by simp [h.len], ?_, fun b => ?_, fun j hj => ?_, h.rg, h.inj⟩
 ·rw [ea]; exact h.nmb.old ω
 ·rw [h.has]
  constructor
  ·rintro ⟨j, h1, h2⟩; exact ⟨j, ω, h2⟩
  ·rintro ⟨j, h1, h2⟩
   by_cases hj : j < q
   ·exact ⟨j, hj, h2⟩
   ·obtain rfl : j = q := ω
    rw [h2] at hm
    exact (h.has _).1 hm
 ·by_cases hq : j < q
  ·rw [ixS (by rw [h.len]; exact hq)]; exact h.val j hq
  ·obtain rfl : j = q := ω
   have := h.len
   subst this
   exact ixE
theorem NumI.new (h : NumI f q p m) (hm : ¬ mhas m (f q) = true) : NumI f (q + 1) (p ++ [(m.length : Int)]) (mput m (f q) (m.length : Int)) := by
 have hl : (mput m (f q) (m.length : Int)).length = m.length + 1 := by rw [J7J, if_neg hm]
 refine ⟨by simp [h.len], ?_, fun b => ?_, fun j hj => ?_, fun a ha => ?_, fun a b ha hb e => ?_⟩
 ·rw [hl]; exact h.nmb.new
 ·rw [J3c]
  simp only [Bool.or_eq_true, decide_eq_true_eq, h.has]
  constructor
  ·rintro (rfl | ⟨j, h1, h2⟩)
   ·exact ⟨q, ω, rfl⟩
   ·exact ⟨j, ω, h2⟩
  ·rintro ⟨j, h1, h2⟩
   by_cases hj : j < q
   ·exact .inr ⟨j, hj, h2⟩
   ·obtain rfl : j = q := ω
    exact .inl h2.symm
 ·rw [J42]
  by_cases hq : j < q
  ·rw [ixS (by rw [h.len]; exact hq), if_neg (fun e => hm (by rw [← e]; exact (h.has _).2 ⟨j, hq, rfl⟩))]
   exact h.val j hq
  ·obtain rfl : j = q := ω
   have := h.len
   subst this
   rw [if_pos rfl]
   exact ixE
 ·rw [J3c] at ha
  simp only [Bool.or_eq_true, decide_eq_true_eq] at ha
  rw [J42, hl]
  by_cases h1 : a = f q
  ·rw [if_pos h1]; omega
  ·rw [if_neg h1]
   have := h.rg a (ha.resolve_left h1)
   omega
 ·rw [J3c] at ha hb
  simp only [Bool.or_eq_true, decide_eq_true_eq] at ha hb
  rw [J42, J42] at e
  by_cases h1 : a = f q
  ·by_cases h2 : b = f q
   ·rw [h1, h2]
   ·rw [if_pos h1, if_neg h2] at e
    have := h.rg b (hb.resolve_left h2)
    omega
  ·by_cases h2 : b = f q
   ·rw [if_neg h1, if_pos h2] at e
    have := h.rg a (ha.resolve_left h1)
    omega
   ·rw [if_neg h1, if_neg h2] at e
    exact h.inj a b (ha.resolve_left h1) (hb.resolve_left h2) e
theorem NumI.eq (h : NumI f q p m) {i j : Nat} (hi : i < q) (hj : j < q) : ix p (i : Int) = ix p (j : Int) ↔ f i = f j := by
 rw [h.val i hi, h.val j hj]
 constructor
 ·intro e
  exact h.inj _ _ ((h.has _).2 ⟨i, hi, rfl⟩) ((h.has _).2 ⟨j, hj, rfl⟩) e
 ·intro e
  rw [e]
end
section
variable {k : Nat} {d : DFA} {p r : List Int} {c c' : Nat}
def FinK (d : DFA) (p : List Int) : Prop := ∀ q q' : Nat, q < p.length → q' < p.length → ix p q = ix p q' → ix d.Final q = ix d.Final q'
def SplitBy (k : Nat) (d : DFA) (p r : List Int) : Prop := ∀ q q' : Nat, q < p.length → q' < p.length → (ix r q = ix r q' ↔ ix p q = ix p q' ∧ ∀ x : Nat, x < k → ix p (ix (ix d.Next q) x) = ix p (ix (ix d.Next q') x))
theorem SplitBy.fin2 (h : SplitBy k d p r) (hl : p.length = r.length) : Fin2 r p := fun q q' hq hq' e => ((h q q' ω ω).1 e).1
theorem SplitBy.fin (h : SplitBy k d p r) (hl : p.length = r.length) (hf : FinK d p) : FinK d r := fun q q' hq hq' e => hf q q' ω ω ((h q q' ω ω).1 e).1
theorem SplitBy.holds (h : SplitBy k d p r) (hl : p.length = r.length) (D : Da d) (hk : (k : Int) = d.Letters) (hn : p.length = d.Final.length) (H : Holds k d p) : Holds k d r := fun q q' hq hq' e => by
 have h6 := D.l6
 refine (h q q' ω ω).2 ⟨H q q' ω ω e, fun x hx => ?_⟩
 have a1 := D.at_ (q := q) (x := x) ω ω ω ω
 have a2 := D.at_ (q := q') (x := x) ω ω ω ω
 have hb := J9e ω e hx
 obtain ⟨a, ea⟩ := Int.eq_ofNat_of_zero_le a1.2.1
 obtain ⟨b, eb⟩ := Int.eq_ofNat_of_zero_le a2.2.1
 rw [ea, eb] at hb ⊢
 exact H a b ω ω hb
theorem SplitBy.keeps (h : SplitBy k d p r) (hl : p.length = r.length) (D : Da d) (hk : (k : Int) = d.Letters) (hn : p.length = d.Final.length) (hf : FinK d p) (h1 : Nmb p c) (h2 : Nmb r c) : Keeps k d r := by
 have h6 := D.l6
 have hpr := (h1.finer h2 hl (h.fin2 hl)).2 rfl
 refine ⟨h.fin hl hf, fun q q' x hq hq' hx e => ?_⟩
 have e2 := ((h q q' ω ω).1 e).2 x hx
 have a1 := D.at_ (q := q) (x := x) ω ω ω ω
 have a2 := D.at_ (q := q') (x := x) ω ω ω ω
 obtain ⟨a, ea⟩ := Int.eq_ofNat_of_zero_le a1.2.1
 obtain ⟨b, eb⟩ := Int.eq_ofNat_of_zero_le a2.2.1
 rw [ea, eb] at e2 ⊢
 exact hpr a b ω ω e2
theorem SplitBy.keeps' (h : SplitBy k d p p) (hf : FinK d p) : Keeps k d p := ⟨hf, fun q q' x hq hq' hx e => ((h q q' hq hq').1 e).2 x hx⟩
theorem SplitBy.more (h : SplitBy k d p r) (hl : p.length = r.length) (h1 : Nmb p c) (h2 : Nmb r c') (hne : r ≠ p) : c < c' := by
 have := h1.finer h2 hl (h.fin2 hl)
 apply Classical.byContradiction
 intro hc
 have e : c = c' := ω
 subst e
 exact hne (h1.uniq h2 hl (this.2 rfl) (h.fin2 hl)).symm
end
end Sg
namespace Sg
open Go
section
variable {α β : Type} {k : Nat} {ρ : Str → α} {ρ' : Str → β} {φ φ' : Str → Bool} {s s' : Syntactic}
def LCm (k : Nat) (ρ : Str → α) : Prop := ∀ u v w, LW k u → LW k v → LW k w → ρ u = ρ v → ρ (w ++ u) = ρ (w ++ v)
def Eqv (k : Nat) (ρ : Str → α) (ρ' : Str → β) : Prop := ∀ u v, LW k u → LW k v → (ρ u = ρ v ↔ ρ' u = ρ' v)
theorem Eqv.symm (h : Eqv k ρ ρ') : Eqv k ρ' ρ := fun u v hu hv => (h u v hu hv).symm
structure Mon (k : Nat) (ρ : Str → α) (s : Syntactic) : Prop where
 cl : CL k ρ s.Words (fun _ => True)
 le : s.Letters = k
 tl : s.Table.length = s.Words.length
 rl : ∀ i : Nat, i < s.Words.length → (ix s.Table i).length = s.Words.length
 tb : ∀ i j : Nat, i < s.Words.length → j < s.Words.length → ∃ m : Nat, ix (ix s.Table i) j = m ∧ m < s.Words.length ∧ ρ (ix s.Words m) = ρ (ix s.Words i ++ ix s.Words j)
 il : s.Images.length = k
 im : ∀ x : Nat, x < k → ∃ m : Nat, ix s.Images x = m ∧ m < s.Words.length ∧ ρ (ix s.Words m) = ρ [lt x]
 pl : s.Plus.length = s.Words.length
 ps : ∀ i : Nat, i < s.Words.length → (ix s.Plus i = true ↔ ∃ w, LW k w ∧ w ≠ [] ∧ ρ w = ρ (ix s.Words i))
structure Acc (φ : Str → Bool) (s : Syntactic) : Prop where
 al : s.Accept.length = s.Words.length
 ac : ∀ i : Nat, i < s.Words.length → ix s.Accept i = φ (ix s.Words i)
theorem Mon.congr (hk : k < 159) (e : Eqv k ρ ρ') (h : Mon k ρ s) : Mon k ρ' s := by
 have lw : ∀ i : Nat, i < s.Words.length → LW k (ix s.Words i) := fun i hi => h.cl.lw hi
 refine ⟨h.cl.congrR e, h.le, h.tl, h.rl, fun i j hi hj => ?_, h.il, fun x hx => ?_, h.pl, fun i hi => ?_⟩
 ·obtain ⟨m, e1, hm, r⟩ := h.tb i j hi hj
  exact ⟨m, e1, hm, (e _ _ (lw m hm) (LW.app.2 ⟨lw i hi, lw j hj⟩)).1 r⟩
 ·obtain ⟨m, e1, hm, r⟩ := h.im x hx
  exact ⟨m, e1, hm, (e _ _ (lw m hm) (LW.lt hx hk)).1 r⟩
 ·rw [h.ps i hi]
  exact ⟨fun ⟨w, w1, w2, w3⟩ => ⟨w, w1, w2, (e _ _ w1 (lw i hi)).1 w3⟩, fun ⟨w, w1, w2, w3⟩ => ⟨w, w1, w2, (e _ _ w1 (lw i hi)).2 w3⟩⟩
theorem Mon.words (h : Mon k ρ s) (h' : Mon k ρ s') : s.Words = s'.Words := h.cl.uniq h'.cl
theorem Mon.pos (h : Mon k ρ s) : 0 < s.Words.length := h.cl.zero.2
theorem Mon.one (h : Mon k ρ s) : ix s.Words 0 = [] := h.cl.zero.1
theorem Mon.uniq (h : Mon k ρ s) (h' : Mon k ρ s') (ha : Acc φ s) (ha' : Acc φ s') : s = s' := by
 have ew := h.words h'
 obtain ⟨a1, a2, a3, a4, a5, a6⟩ := s
 obtain ⟨b1, b2, b3, b4, b5, b6⟩ := s'
 have ew : a3 = b3 := ew
 subst ew
 have el : a1 = b1 := h.le.trans h'.le.symm
 have et : a2 = b2 := J0b (h.tl.trans h'.tl.symm) fun i hi => by
  have hi : i < a3.length := by rw [← h.tl]; exact hi
  refine J0b ((h.rl i hi).trans (h'.rl i hi).symm) fun j hj => ?_
  have hj : j < a3.length := by rw [← h.rl i hi]; exact hj
  obtain ⟨m1, e1, l1, r1⟩ := h.tb i j hi hj
  obtain ⟨m2, e2, l2, r2⟩ := h'.tb i j hi hj
  have := h.cl.inj l1 l2 (r1.trans r2.symm)
  subst this
  exact e1.trans e2.symm
 have ei : a4 = b4 := J0b (h.il.trans h'.il.symm) fun x hx => by
  have hx : x < k := by rw [← h.il]; exact hx
  obtain ⟨m1, e1, l1, r1⟩ := h.im x hx
  obtain ⟨m2, e2, l2, r2⟩ := h'.im x hx
  have := h.cl.inj l1 l2 (r1.trans r2.symm)
  subst this
  exact e1.trans e2.symm
 have ea : a5 = b5 := J0b (ha.al.trans ha'.al.symm) fun i hi => by
  have hi : i < a3.length := by rw [← ha.al]; exact hi
  exact (ha.ac i hi).trans (ha'.ac i hi).symm
 have ep : a6 = b6 := J0b (h.pl.trans h'.pl.symm) fun i hi => by
  have hi : i < a3.length := by rw [← h.pl]; exact hi
  rw [Bool.eq_iff_iff]
  exact (h.ps i hi).trans (h'.ps i hi).symm
 rw [el, et, ei, ea, ep]
theorem Mon.mul (h : Mon k ρ s) (hr : RC k ρ) (hl : LCm k ρ) {i j : Nat} (hi : i < s.Words.length) (hj : j < s.Words.length) {u v : Str} (hu : LW k u) (hv : LW k v) (eu : ρ (ix s.Words i) = ρ u) (ev : ρ (ix s.Words j) = ρ v) :
  ∃ m : Nat, ix (ix s.Table i) j = m ∧ m < s.Words.length ∧ ρ (ix s.Words m) = ρ (u ++ v) := by
 obtain ⟨m, e, hm, r⟩ := h.tb i j hi hj
 exact ⟨m, e, hm, r.trans ((hr.app (h.cl.lw hi) hu eu (h.cl.lw hj)).trans (hl _ _ _ (h.cl.lw hj) hv hu ev))⟩
def vlS (s : Syntactic) (w : Str) : Int := w.foldl (fun x b => ix (ix s.Table x) (ix s.Images ((b.toNat : Int) - 97))) 0
theorem J8g (s : Syntactic) : vlS s [] = 0 := rfl
theorem J6N (s : Syntactic) (w : Str) {x : Nat} (hx : x < 159) : vlS s (w ++ [lt x]) = ix (ix s.Table (vlS s w)) (ix s.Images (x : Int)) := by
 have : ((lt x).toNat : Int) - 97 = x := by rw [J09 hx]; omega
 simp [vlS, this]
theorem Mon.val (h : Mon k ρ s) (hk : k < 159) (hr : RC k ρ) (hl : LCm k ρ) {w : Str} : LW k w → ∃ m : Nat, vlS s w = m ∧ m < s.Words.length ∧ ρ (ix s.Words m) = ρ w := by
  induction w using snocRec with
  | nil => exact fun _ => ⟨0, rfl, h.pos, by rw [show ((0 : Nat) : Int) = 0 from rfl, h.one]⟩
  | snoc w b ih =>
    intro hw
    obtain ⟨hw1, hw2⟩ := LW.app.1 hw
    obtain ⟨x, hx, rfl⟩ := LW.letter hk hw2
    obtain ⟨i, e1, hi, r1⟩ := ih hw1
    obtain ⟨j, e2, hj, r2⟩ := h.im x hx
    rw [J6N _ _ ω, e1, e2]
    exact h.mul hr hl hi hj hw1 (LW.lt hx hk) r1 r2
theorem Mon.J1H (h : Mon k ρ s) (hk : k < 159) (hr : RC k ρ) (hl : LCm k ρ) {i : Nat} (hi : i < s.Words.length) : vlS s (ix s.Words i) = i := by
 obtain ⟨m, e, hm, r⟩ := h.val hk hr hl (h.cl.lw hi)
 rw [e, h.cl.inj hm hi r]
theorem Mon.J4L (h : Mon k ρ s) (hk : k < 159) (hr : RC k ρ) (hl : LCm k ρ) {u v : Str} (hu : LW k u) (hv : LW k v) : vlS s (u ++ v) = ix (ix s.Table (vlS s u)) (vlS s v) := by
 obtain ⟨i, e1, hi, r1⟩ := h.val hk hr hl hu
 obtain ⟨j, e2, hj, r2⟩ := h.val hk hr hl hv
 obtain ⟨m, e3, hm, r3⟩ := h.val hk hr hl (LW.app.2 ⟨hu, hv⟩)
 obtain ⟨m', e4, hm', r4⟩ := h.mul hr hl hi hj hu hv r1 r2
 rw [e1, e2, e3, e4, h.cl.inj hm hm' (r3.trans r4.symm)]
theorem Mon.tab (h : Mon k ρ s) (hk : k < 159) (hr : RC k ρ) (hl : LCm k ρ) {i j : Nat} (hi : i < s.Words.length) (hj : j < s.Words.length) : ix (ix s.Table i) j = vlS s (ix s.Words i ++ ix s.Words j) := by
 rw [h.J4L hk hr hl (h.cl.lw hi) (h.cl.lw hj), h.J1H hk hr hl hi, h.J1H hk hr hl hj]
theorem Mon.assoc (h : Mon k ρ s) (hk : k < 159) (hr : RC k ρ) (hl : LCm k ρ) {x y z : Nat} (hx : x < s.Words.length) (hy : y < s.Words.length) (hz : z < s.Words.length) :
  ix (ix s.Table (ix (ix s.Table x) y)) z = ix (ix s.Table x) (ix (ix s.Table y) z) := by
 have l1 := h.cl.lw hx
 have l2 := h.cl.lw hy
 have l3 := h.cl.lw hz
 rw [h.tab hk hr hl hx hy, h.tab hk hr hl hy hz]
 conv => lhs; rw [← h.J1H hk hr hl hz]
 conv => rhs; rw [← h.J1H hk hr hl hx]
 rw [h.J1H hk hr hl hx, h.J1H hk hr hl hz]
 have e1 := h.J4L hk hr hl (LW.app.2 ⟨l1, l2⟩) l3
 have e2 := h.J4L hk hr hl l1 (LW.app.2 ⟨l2, l3⟩)
 rw [h.J1H hk hr hl hz] at e1
 rw [h.J1H hk hr hl hx] at e2
 rw [← e1, ← e2, List.append_assoc]
theorem Mon.one_l (h : Mon k ρ s) (hk : k < 159) (hr : RC k ρ) (hl : LCm k ρ) {x : Nat} (hx : x < s.Words.length) : ix (ix s.Table 0) x = x ∧ ix (ix s.Table x) 0 = x := by
 have e1 := h.tab hk hr hl h.pos hx
 have e2 := h.tab hk hr hl hx h.pos
 rw [show ((0 : Nat) : Int) = 0 from rfl, h.one] at e1 e2
 rw [List.nil_append, h.J1H hk hr hl hx] at e1
 rw [List.append_nil, h.J1H hk hr hl hx] at e2
 exact ⟨e1, e2⟩
def acc (d : DFA) (w : Str) : Bool := ix d.Final (rn d d.Start w)
def Sat (k : Nat) (ρ : Str → α) (φ : Str → Bool) : Prop := ∀ u v, LW k u → LW k v → ρ u = ρ v → φ u = φ v
end
section
variable {k : Nat} {φ φ' : Str → Bool} {s s' : Syntactic} {d : DFA}
def syn (φ : Str → Bool) (k : Nat) (w : Str) : {u : Str // LW k u} × {u : Str // LW k u} → Bool := fun p => φ (p.1.1 ++ w ++ p.2.1)
theorem J45 {u v : Str} : syn φ k u = syn φ k v ↔ ∀ x y, LW k x → LW k y → φ (x ++ u ++ y) = φ (x ++ v ++ y) := by
 constructor
 ·intro h x y hx hy
  exact congrFun h (⟨x, hx⟩, ⟨y, hy⟩)
 ·intro h
  funext p
  exact h p.1.1 p.2.1 p.1.2 p.2.2
theorem J9r (φ : Str → Bool) (k : Nat) : RC k (syn φ k) := fun u v b hu hv hb h => J45.2 fun x y hx hy => by
 have := J45.1 h x ([b] ++ y) hx (LW.app.2 ⟨hb, hy⟩)
 simpa [List.append_assoc] using this
structure SynOf (k : Nat) (φ : Str → Bool) (s : Syntactic) : Prop where
 mon : Mon k (syn φ k) s
 acc : Acc φ s
theorem SynOf.uniq (h : SynOf k φ s) (h' : SynOf k φ s') : s = s' := h.mon.uniq h'.mon h.acc h'.acc
structure SynD (d : DFA) (s : Syntactic) : Prop where
 k : ∃ k : Nat, d.Letters = k ∧ SynOf k (Sg.acc d) s ∧ ∃ m W, Can k (nero d k) (Sg.acc d) m W ∧ W.length ≤ 32
 n : s.Words.length ≤ 400
theorem SynD.uniq (h : SynD d s) (h' : SynD d s') : s = s' := by
 obtain ⟨k, e, h1, _⟩ := h.k
 obtain ⟨k', e', h2, _⟩ := h'.k
 have : k = k' := ω
 subst this
 exact h1.uniq h2
end
end Sg
