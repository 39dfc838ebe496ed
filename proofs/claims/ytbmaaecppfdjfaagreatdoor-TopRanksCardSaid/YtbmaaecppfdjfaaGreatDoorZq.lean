/- -/
import Derived.Test.YtbmaaecppfdjfaaGreatDoorZp
import Derived.Test.YtbmaaecppfdjfaaGreatDoorEv
set_option linter.unusedVariables false
set_option linter.unusedSimpArgs false
namespace Sg
open Go
end Sg
namespace Sg
open Go
section
variable {gens : List (List Int)} {mon : Bool} {r : run}
theorem Fin.wd (h : Fin gens mon r) {i : Nat} (hi : i < r.words.length) : Wd gens mon (ix r.words (i : Int)) := (h.1.si.red (i := (i : Int)) ω ω).1
theorem Fin.eix (h : Fin gens mon r) {i : Nat} (hi : i < r.words.length) : ix r.Enum.Elems (i : Int) = vl gens (ix r.words (i : Int)) := h.1.si.eix ω ω
theorem Fin.el' (h : Fin gens mon r) : r.Enum.Elems.length = r.words.length := h.1.si.elen
theorem Fin.Jin (hg : GV gens = true) (h : Fin gens mon r) {i j : Nat} (hi : i < r.words.length) (hj : j < r.words.length) : compF (ix r.Enum.Elems (i : Int)) (ix r.Enum.Elems (j : Int)) ∈ r.Enum.Elems := by
 rw [h.eix hi, h.eix hj]
 exact h.Jhj hg (h.wd hi) (h.wd hj).1
theorem Fin.mul (hg : GV gens = true) (h : Fin gens mon r) {i j : Nat} (hi : i < r.words.length) (hj : j < r.words.length) :
  ∃ m : Nat, mu (tabT r.Enum.Elems) i j = m ∧ m < r.words.length ∧ ix r.Enum.Elems (m : Int) = compF (ix r.Enum.Elems (i : Int)) (ix r.Enum.Elems (j : Int)) := by
 have el := h.el'
 obtain ⟨m0, m1, m2⟩ := Jik (h.Jin hg hi hj)
 obtain ⟨m, em⟩ := Int.eq_ofNat_of_zero_le m0
 rw [em] at m1 m2
 refine ⟨m, ?_, ω, m2⟩
 unfold mu
 rw [JdO ω ω, em]
theorem J2j (E : List (List Int)) : (tabT E).length = E.length := by simp [tabT]
theorem Fin.pos (hg : GV gens = true) (h : Fin gens mon r) : 1 ≤ r.words.length := h.1.ne
theorem Fin.inj (h : Fin gens mon r) {i j : Nat} (hi : i < r.words.length) (hj : j < r.words.length) (e : ix r.Enum.Elems (i : Int) = ix r.Enum.Elems (j : Int)) : i = j := by
 have el := h.el'
 have hn := h.1.si.nodup
 have h1 := Jeq hn (i := i) ω
 have h2 := Jeq hn (i := j) ω
 rw [e] at h1
 omega
theorem Fin.tab (hg : GV gens = true) (h : Fin gens mon r) (h4 : r.Enum.Elems.length ≤ 400) : VT (tabT r.Enum.Elems) = true := by
 have el := h.el'
 have tl := J2j r.Enum.Elems
 have p1 := h.pos hg
 have as : AS (tabT r.Enum.Elems) := fun x y z hx hy hz => by
  rw [tl, el] at hx hy hz
  obtain ⟨a, a1, a2, a3⟩ := h.mul hg hx hy
  obtain ⟨b, b1, b2, b3⟩ := h.mul hg hy hz
  rw [a1, b1]
  obtain ⟨c, c1, c2, c3⟩ := h.mul hg a2 hz
  obtain ⟨d, d1, d2, d3⟩ := h.mul hg hx b2
  rw [c1, d1]
  rw [a3] at c3
  rw [b3] at d3
  have vx := h.vfE hg (i := (x : Int)) ω ω
  have vy := h.vfE hg (i := (y : Int)) ω ω
  have := h.inj c2 d2 (by
   rw [c3, d3]
   exact JcH fun j hj => by
    have := (J1T.1 vx.1).2.2 j hj
    omega)
  omega
 have sh : SH (tabT r.Enum.Elems) = true := J8X.2 ⟨ω, ω, fun i hi => J3G.2 ⟨by
  unfold tabT
  rw [J3e _ ω ω]; simp, fun j hj => by
  have hl : (ix (tabT r.Enum.Elems) (i : Int)).length = r.Enum.Elems.length := by
   unfold tabT
   rw [J3e _ ω ω]; simp
  obtain ⟨m, m1, m2, _⟩ := h.mul hg (i := i) (j := j) ω ω
  unfold mu at m1
  omega⟩⟩
 unfold VT
 rw [sh, decide_eq_true as]; rfl
theorem Fin.n256 (hg : GV gens = true) (h4 : (ix gens 0).length ≤ 4) (h : Fin gens mon r) : r.words.length ≤ 256 := by
 apply Classical.byContradiction
 intro hc
 have ok : ∀ i : Nat, i < r.words.length → VF (ix r.Enum.Elems (i : Int)) = true ∧ (ix r.Enum.Elems (i : Int)).length = (ix gens 0).length := fun i hi => h.vfE hg ω ω
 obtain ⟨a, b, hab, hb, he⟩ := pigeon 256 (fun m => code4 (ix r.Enum.Elems (m : Int))) (fun m hm => by
  obtain ⟨h1, h2⟩ := ok m ω
  have e0 := entry4 h1 ω 0
  have e1 := entry4 h1 ω 1
  have e2 := entry4 h1 ω 2
  have e3 := entry4 h1 ω 3
  simp only [code4]; omega)
 obtain ⟨a1, a2⟩ := ok a ω
 obtain ⟨b1, b2⟩ := ok b ω
 have p0 := entry4 a1 ω 0
 have p1 := entry4 a1 ω 1
 have p2 := entry4 a1 ω 2
 have p3 := entry4 a1 ω 3
 have q0 := entry4 b1 ω 0
 have q1 := entry4 b1 ω 1
 have q2 := entry4 b1 ω 2
 have q3 := entry4 b1 ω 3
 simp only [code4] at he
 have := h.inj (i := a) (j := b) ω ω (J0e ω fun j hj => by
  have hj4 : j < 4 := ω
  rcases (by omega : j = 0 ∨ j = 1 ∨ j = 2 ∨ j = 3) with rfl | rfl | rfl | rfl <;> omega)
 omega
end
end Sg
namespace Sg
open Go
section
variable {d m : DFA} {k : Nat}
end
end Sg
namespace Sg
open Go
section
variable {d m : DFA} {k : Nat} {W : List Str} {s : Syntactic}
end
end Sg
namespace Sg
section
variable {α : Type} {m : α → α → α} {e a b : α}
end
end Sg
namespace Sg
open Go
section
variable {k : Nat} {φ : Str → Bool} {s : Syntactic}
end
end Sg
namespace Sg
open Go
end Sg
namespace Sg
open Go
section
variable {d : DFA} {k : Nat}
end
end Sg
namespace Sg
open Go
section
variable {f : List Int}
variable {a p : Nat}
section
variable {r : run} (hf : VF f = true) (h : IP f a p) (hF : Fin [f] false r)
include hf h hF
end
end
end Sg
namespace Sg
open Go
theorem Jeo {gens : List (List Int)} {p : Int} {K : Bool → Prop} (h1 : GV gens = true → ((ix gens 0).length : Int) ≤ p → K true) (h0 : K false) : J9m gens p K := by
 unfold J9m
 refine Jc7 ?_
 split
 ·rename_i hg
  have := J0E.1 hg
  refine fun _ => ?_
  split
  ·refine ⟨ω, ω, fun _ => ?_⟩
   split
   ·rename_i h; exact h1 hg h
   ·exact h0
  ·exact h0
 ·exact h0
section
variable {f g : List Int}
theorem JfP {s : List Int} (hs : VF s = true) (hl : s.length = g.length) {x : Int} (h : x ∈ compF s g) : x ∈ g := by
 obtain ⟨j, hj, e⟩ := J0h.1 h
 rw [J2L] at hj
 rw [J1L ω ω] at e
 have := (J1T.1 hs).2.2 j hj
 rw [← e]
 exact J0P ω ω
theorem Jis (hf : VF f = true) (hg : VF g = true) (h1 : ∀ x, x ∈ f → x ∈ g) (h2 : ∀ x, x ∈ g → x ∈ f) : imL f = imL g := by
 have e : (fun x : Int => x ∈ f) = fun x => x ∈ g := funext fun x => propext ⟨h1 x, h2 x⟩
 have a := J8T hf
 rw [e] at a
 exact a.uniq (J8T hg)
theorem Jgg {a b : List Int} (h : a = b) {K : Bool → Prop} (hK : K true) : J7z a b K := by
 unfold J7z
 refine J8U ?_
 rw [decide_eq_true h]
 exact hK
end
section
variable {gens : List (List Int)} {mon : Bool} {r : run} (hg : GV gens = true) (h : Fin gens mon r)
include hg h
theorem tR {x y : Nat} (hx : x < r.words.length) (hy : y < r.words.length) (e : leR (tabT r.Enum.Elems) x y) : x = y ∨ ∃ s : Nat, s < r.words.length ∧ ix r.Enum.Elems (x : Int) = compF (ix r.Enum.Elems (y : Int)) (ix r.Enum.Elems (s : Int)) := by
 have el := h.el'
 have tl := J2j r.Enum.Elems
 rcases e with e | ⟨s, hs, e⟩
 ·exact .inl e
 ·obtain ⟨m, e1, _, e2⟩ := h.mul hg hy (j := s) ω
  have : m = x := ω
  subst this
  exact .inr ⟨s, ω, e2⟩
theorem tL {x y : Nat} (hx : x < r.words.length) (hy : y < r.words.length) (e : leL (tabT r.Enum.Elems) x y) : x = y ∨ ∃ s : Nat, s < r.words.length ∧ ix r.Enum.Elems (x : Int) = compF (ix r.Enum.Elems (s : Int)) (ix r.Enum.Elems (y : Int)) := by
 have el := h.el'
 have tl := J2j r.Enum.Elems
 rcases e with e | ⟨s, hs, e⟩
 ·exact .inl e
 ·obtain ⟨m, e1, _, e2⟩ := h.mul hg (i := s) ω hy
  have : m = x := ω
  subst this
  exact .inr ⟨s, ω, e2⟩
theorem imsub {x y : Nat} (hx : x < r.words.length) (hy : y < r.words.length) (e : leL (tabT r.Enum.Elems) x y) : ∀ z, z ∈ ix r.Enum.Elems (x : Int) → z ∈ ix r.Enum.Elems (y : Int) := fun z hz => by
 rcases tL hg h hx hy e with e | ⟨s, hs, e⟩
 ·subst e; exact hz
 ·have vs := h.vfE hg (i := (s : Int)) ω ω
  have vy := h.vfE hg (i := (y : Int)) ω ω
  rw [e] at hz
  exact JfP vs.1 ω hz
theorem kersub {x y : Nat} (hx : x < r.words.length) (hy : y < r.words.length) (e : leR (tabT r.Enum.Elems) x y) {i j : Nat} (hi : i < (ix gens 0).length) (hj : j < (ix gens 0).length) (k : ix (ix r.Enum.Elems (y : Int)) (i : Int) = ix (ix r.Enum.Elems (y : Int)) (j : Int)) : ix (ix r.Enum.Elems (x : Int)) (i : Int) = ix (ix r.Enum.Elems (x : Int)) (j : Int) := by
 rcases tR hg h hx hy e with e | ⟨s, hs, e⟩
 ·subst e; exact k
 ·have vy := h.vfE hg (i := (y : Int)) ω ω
  rw [e, J1L ω ω, J1L ω ω, k]
theorem JhN {x y : Nat} (hx : x < r.words.length) (hy : y < r.words.length) (e : leJ (tabT r.Enum.Elems) x y) : (imL (ix r.Enum.Elems (x : Int))).length ≤ (imL (ix r.Enum.Elems (y : Int))).length := by
 have el := h.el'
 have tl := J2j r.Enum.Elems
 obtain ⟨z, hz, e1, e2⟩ := e
 have hz : z < r.words.length := ω
 have vz := h.vfE hg (i := (z : Int)) ω ω
 have vy := h.vfE hg (i := (y : Int)) ω ω
 have a : (imL (ix r.Enum.Elems (x : Int))).length ≤ (imL (ix r.Enum.Elems (z : Int))).length := by
  rcases tR hg h hx hz e2 with e | ⟨s, hs, e⟩
  ·subst e; exact Nat.le_refl _
  ·have vs := h.vfE hg (i := (s : Int)) ω ω
   rw [e]; exact JfO vz.1 vs.1 ω
 have b : (imL (ix r.Enum.Elems (z : Int))).length ≤ (imL (ix r.Enum.Elems (y : Int))).length := by
  rcases tL hg h hz hy e1 with e | ⟨s, hs, e⟩
  ·subst e; exact Nat.le_refl _
  ·have vs := h.vfE hg (i := (s : Int)) ω ω
   rw [e]; exact Jew vs.1 vy.1 ω
 omega
end
theorem JcQ (gens : List (List Int)) (mon : Bool) : J7q gens mon (fun b => b = true) := by
 unfold J7q
 refine Jeo (fun hg h3 => ?_) ?_
 case refine_2 => exact J0a rfl
 rw [if_pos rfl]
 refine J1H hg (fun d hd => absurd (JgI ω) hd.1) fun r hr hr2 => ?_
 have h : Fin gens mon r := ⟨hr, hr2⟩
 have n256 := h.n256 hg ω
 have el := h.el'
 have npos := h.pos hg
 have hT := h.tab hg ω
 have tl := J2j r.Enum.Elems
 refine J2D (fun hn => absurd (h.VE hg) hn) (fun _ hn => absurd (h.FE hg) hn) (fun _ hn => by omega) fun _ _ => ?_
 refine J8V (fun _ g G => ?_) fun hn => absurd hT hn
 have lR := G.R.len
 have lL := G.L.len
 have lJ := G.J.len
 rw [if_pos rfl, if_pos rfl]
 refine fun _ => ?_
 rw [if_neg ω]
 refine fun _ => ?_
 rw [if_pos ω]
 refine fun _ => ?_
 rw [if_pos ω]
 refine fun _ => ?_
 rw [if_pos ω]
 refine fun _ => ?_
 rw [if_pos ω]
 have vf : ∀ x : Nat, x < r.words.length → VF (ix r.Enum.Elems (x : Int)) = true ∧ (ix r.Enum.Elems (x : Int)).length = (ix gens 0).length := fun x hx => h.vfE hg ω ω
 refine LoopWP.scan r.words.length (fun _ => True) ?_
 intro x X hx _ hX
 show J7j r.Enum (tabT r.Enum.Elems) g _ X x
 unfold J7j
 split
 case isFalse => exact J0a rfl
 have hxl : x < r.words.length := ω
 have vx := vf x hxl
 refine ⟨ω, ω, LoopWP.scan r.words.length (fun _ => True) ?_⟩
 intro y Y hy _ hY
 show J6A r.Enum (tabT r.Enum.Elems) g x X _ Y y
 unfold J6A
 split
 ·have hyl : y < r.words.length := ω
  have vy := vf y hyl
  have im : ix g.L (x : Int) = ix g.L (y : Int) → imL (ix r.Enum.Elems (x : Int)) = imL (ix r.Enum.Elems (y : Int)) := fun e => by
   have k := (G.L.ker x y ω ω).1 e
   exact Jis vx.1 vy.1 (imsub hg h hxl hyl k.1) (imsub hg h hyl hxl k.2)
  have ke : ix g.R (x : Int) = ix g.R (y : Int) → ∀ p q, IsCan p (ix r.Enum.Elems (x : Int)) → IsCan q (ix r.Enum.Elems (y : Int)) → p = q := fun e p q hp hq => by
   have k := (G.R.ker x y ω ω).1 e
   exact hp.uniq hq ω fun i j hi hj => ⟨kersub hg h hyl hxl k.2 ω ω, kersub hg h hxl hyl k.1 ω ω⟩
  have rk : ix g.J (x : Int) = ix g.J (y : Int) → ((imL (ix r.Enum.Elems (x : Int))).length : Int) = ((imL (ix r.Enum.Elems (y : Int))).length : Int) := fun e => by
   have k := (G.J.ker x y ω ω).1 e
   have a := JhN hg h hxl hyl k.1
   have b := JhN hg h hyl hxl k.2
   omega
  have goY : Y (y + 1) := hY hyl trivial
  have s3 : 0 ≤ (x : Int) ∧ (x : Int) < (g.J.length : Int) ∧ (0 ≤ (y : Int) ∧ (y : Int) < (g.J.length : Int) ∧ (if (ix g.J (x : Int)) = (ix g.J (y : Int)) then (J0w (ix r.Enum.Elems (x : Int)) fun r72 => (J0w (ix r.Enum.Elems (y : Int)) fun r74 => (if r72 = r74 then (Y (y + 1)) else (false = true)))) else (Y (y + 1)))) := by
   refine ⟨ω, ω, ω, ω, ?_⟩
   split
   ·rename_i e
    refine J8w (J8w ?_)
    rw [if_pos vx.1, if_pos vy.1, if_pos (rk e)]
    exact goY
   ·exact goY
  have s2 : 0 ≤ (x : Int) ∧ (x : Int) < (g.R.length : Int) ∧ (0 ≤ (y : Int) ∧ (y : Int) < (g.R.length : Int) ∧ (if (ix g.R (x : Int)) = (ix g.R (y : Int)) then (J1l (ix r.Enum.Elems (x : Int)) fun r61 => (J1l (ix r.Enum.Elems (y : Int)) fun r63 => (J7z r61 r63 fun r65 => (if r65 = true then (0 ≤ (x : Int) ∧ (x : Int) < (g.J.length : Int) ∧ (0 ≤ (y : Int) ∧ (y : Int) < (g.J.length : Int) ∧ (if (ix g.J (x : Int)) = (ix g.J (y : Int)) then (J0w (ix r.Enum.Elems (x : Int)) fun r72 => (J0w (ix r.Enum.Elems (y : Int)) fun r74 => (if r72 = r74 then (Y (y + 1)) else (false = true)))) else (Y (y + 1))))) else (false = true))))) else (0 ≤ (x : Int) ∧ (x : Int) < (g.J.length : Int) ∧ (0 ≤ (y : Int) ∧ (y : Int) < (g.J.length : Int) ∧ (if (ix g.J (x : Int)) = (ix g.J (y : Int)) then (J0w (ix r.Enum.Elems (x : Int)) fun r72 => (J0w (ix r.Enum.Elems (y : Int)) fun r74 => (if r72 = r74 then (Y (y + 1)) else (false = true)))) else (Y (y + 1))))))) := by
   refine ⟨ω, ω, ω, ω, ?_⟩
   split
   ·rename_i e
    refine J9p (fun _ p hp => J9p (fun _ q hq => Jgg (ke e p q hp hq) ?_) fun hn => absurd vy.1 hn) fun hn => absurd vx.1 hn
    rw [if_pos rfl]; exact s3
   ·exact s3
  refine ⟨ω, ω, ω, ω, ω, ω, ?_⟩
  split
  ·rename_i e
   refine J5o (J5o ?_)
   rw [if_pos vx.1, if_pos vy.1]
   refine Jgg (im e) ?_
   rw [if_pos rfl]; exact s2
  ·exact s2
 ·obtain ⟨m, e1, hm, e2⟩ := h.mul hg hxl hxl
  have row : ((ix (tabT r.Enum.Elems) (x : Int)).length : Int) = (tabT r.Enum.Elems).length := by
   have := (SH.tb (VT.sh hT)).row x ω ω
   omega
  refine ⟨ω, ω, ω, ω, ?_⟩
  split
  ·rename_i e
   have e1 : ix (ix (tabT r.Enum.Elems) (x : Int)) (x : Int) = (m : Int) := e1
   have : m = x := ω
   subst this
   refine J5o ?_
   rw [if_pos vx.1]
   refine fun _ => LoopWP.scan (imL (ix r.Enum.Elems (m : Int))).length (fun _ => True) ?_
   intro k Z hk _ hZ
   show J6V r.Enum m X _ _ Z k
   unfold J6V
   split
   ·have hmem : ix (imL (ix r.Enum.Elems (m : Int))) (k : Int) ∈ ix r.Enum.Elems (m : Int) := ((J8T vx.1).2 _).1 (J0P ω ω)
    obtain ⟨j, hj, ej⟩ := J0h.1 hmem
    have b1 := (J1T.1 vx.1).2.2 j hj
    have fix : ix (ix r.Enum.Elems (m : Int)) (ix (imL (ix r.Enum.Elems (m : Int))) (k : Int)) = ix (imL (ix r.Enum.Elems (m : Int))) (k : Int) := by
     rw [← ej, ← J1L ω ω, ← e2]
    refine ⟨ω, ω, ?_⟩
    rw [if_neg ω]
    refine fun _ => ?_
    rw [if_neg ω]
    refine ⟨ω, ω, ?_⟩
    rw [if_pos fix]
    exact hZ ω trivial
   ·exact hX hxl trivial
  ·exact hX hxl trivial
end Sg
namespace Sg
open Go
section
variable {t : List (List Int)} (hv : VT t = true) (h1 : ∀ x : Nat, x < t.length → mu t 0 x = x ∧ mu t x 0 = x)
end
section
variable {k : Nat} {d m : DFA} {W : List Str} {s : Syntactic}
end
end Sg
namespace Sg
open Go
end Sg
namespace Sg
open Go
section
variable {t u : List (List Int)} {f F D : List Int}
end
end Sg
namespace Sg
open Go
section
variable {k : Nat} {φ φ' : Str → Bool} {s a : Syntactic}
def hq (s a : Syntactic) (i : Int) : Int := vlS a (ix s.Words i)
end
end Sg
namespace Sg
open Go
section
variable {k : Nat} {φ φ' : Str → Bool} {s a : Syntactic}
end
section
variable {k : Nat} {d : DFA}
end
end Sg
namespace Sg
open Go
section
variable {d : DFA} {r : run} {s : Syntactic} {gens G : List (List Int)} {φ : Str → Bool} {c : List Int} {set : List Bool} {L : List Int} {q : List (List Int)} {cnt : Nat}
end
end Sg
namespace Sg
open Go
section
variable {t : List (List Int)} {c : List Int} {cnt : Nat}
end
end Sg
namespace Sg
open Go
section
variable {k : Nat} {d t : DFA}
end
end Sg
