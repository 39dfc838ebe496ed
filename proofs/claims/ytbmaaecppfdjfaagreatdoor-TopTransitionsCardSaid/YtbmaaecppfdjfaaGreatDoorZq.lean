/- -/
import Derived.Test.YtbmaaecppfdjfaaGreatDoorZp
import Derived.Test.YtbmaaecppfdjfaaGreatDoorEv
set_option linter.unusedVariables false
set_option linter.unusedSimpArgs false
namespace Sg
open Go
theorem J5t {d : DFA} {m : Int} {K : Bool → Prop} (h1 : Da d → (d.Final.length : Int) ≤ m → K true) (h0 : K false) : J4u d m K := by
 unfold J4u
 refine fun _ => ?_
 split
 ·rename_i hm
  split
  ·refine JbT ?_
   split
   ·rename_i h; exact h1 (J2X.1 (daC0.1 h)) hm
   ·exact h0
  ·exact h0
 ·exact h0
end Sg
namespace Sg
open Go
section
variable {gens : List (List Int)} {mon : Bool} {r : run}
theorem Fin.wd (h : Fin gens mon r) {i : Nat} (hi : i < r.words.length) : Wd gens mon (ix r.words (i : Int)) := (h.1.si.red (i := (i : Int)) ω ω).1
theorem Fin.eix (h : Fin gens mon r) {i : Nat} (hi : i < r.words.length) : ix r.Enum.Elems (i : Int) = vl gens (ix r.words (i : Int)) := h.1.si.eix ω ω
theorem Fin.el' (h : Fin gens mon r) : r.Enum.Elems.length = r.words.length := h.1.si.elen
theorem Fin.Jin (hg : GV gens = true) (h : Fin gens mon r) {i j : Nat} (hi : i < r.words.length) (hj : j < r.words.length) : compF (ix r.Enum.Elems (i : Int)) (ix r.Enum.Elems (j : Int)) ∈ r.Enum.Elems := by
 rw [h.eix hi, h.eix hj]
 exact h.Jhj hg (h.wd hi) (h.wd hj).1
theorem Fin.mul (hg : GV gens = true) (h : Fin gens mon r) {i j : Nat} (hi : i < r.words.length) (hj : j < r.words.length) :
  ∃ m : Nat, mu (tabT r.Enum.Elems) i j = m ∧ m < r.words.length ∧ ix r.Enum.Elems (m : Int) = compF (ix r.Enum.Elems (i : Int)) (ix r.Enum.Elems (j : Int)) := by
 have el := h.el'
 obtain ⟨m0, m1, m2⟩ := Jik (h.Jin hg hi hj)
 obtain ⟨m, em⟩ := Int.eq_ofNat_of_zero_le m0
 rw [em] at m1 m2
 refine ⟨m, ?_, ω, m2⟩
 unfold mu
 rw [JdO ω ω, em]
theorem J2j (E : List (List Int)) : (tabT E).length = E.length := by simp [tabT]
theorem Fin.pos (hg : GV gens = true) (h : Fin gens mon r) : 1 ≤ r.words.length := h.1.ne
theorem Fin.inj (h : Fin gens mon r) {i j : Nat} (hi : i < r.words.length) (hj : j < r.words.length) (e : ix r.Enum.Elems (i : Int) = ix r.Enum.Elems (j : Int)) : i = j := by
 have el := h.el'
 have hn := h.1.si.nodup
 have h1 := Jeq hn (i := i) ω
 have h2 := Jeq hn (i := j) ω
 rw [e] at h1
 omega
theorem Fin.tab (hg : GV gens = true) (h : Fin gens mon r) (h4 : r.Enum.Elems.length ≤ 400) : VT (tabT r.Enum.Elems) = true := by
 have el := h.el'
 have tl := J2j r.Enum.Elems
 have p1 := h.pos hg
 have as : AS (tabT r.Enum.Elems) := fun x y z hx hy hz => by
  rw [tl, el] at hx hy hz
  obtain ⟨a, a1, a2, a3⟩ := h.mul hg hx hy
  obtain ⟨b, b1, b2, b3⟩ := h.mul hg hy hz
  rw [a1, b1]
  obtain ⟨c, c1, c2, c3⟩ := h.mul hg a2 hz
  obtain ⟨d, d1, d2, d3⟩ := h.mul hg hx b2
  rw [c1, d1]
  rw [a3] at c3
  rw [b3] at d3
  have vx := h.vfE hg (i := (x : Int)) ω ω
  have vy := h.vfE hg (i := (y : Int)) ω ω
  have := h.inj c2 d2 (by
   rw [c3, d3]
   exact JcH fun j hj => by
    have := (J1T.1 vx.1).2.2 j hj
    omega)
  omega
 have sh : SH (tabT r.Enum.Elems) = true := J8X.2 ⟨ω, ω, fun i hi => J3G.2 ⟨by
  unfold tabT
  rw [J3e _ ω ω]; simp, fun j hj => by
  have hl : (ix (tabT r.Enum.Elems) (i : Int)).length = r.Enum.Elems.length := by
   unfold tabT
   rw [J3e _ ω ω]; simp
  obtain ⟨m, m1, m2, _⟩ := h.mul hg (i := i) (j := j) ω ω
  unfold mu at m1
  omega⟩⟩
 unfold VT
 rw [sh, decide_eq_true as]; rfl
theorem Fin.num (hg : GV gens = true) (h : Fin gens mon r) {w : Str} (hw : Wd gens mon w) : ∃ m : Nat, fnd r.Enum.Elems (vl gens w) = m ∧ m < r.words.length ∧ ix r.Enum.Elems (m : Int) = vl gens w := by
 obtain ⟨a, b, _, c⟩ := h.1.Jfi hg hw
 obtain ⟨m, em⟩ := Int.eq_ofNat_of_zero_le a
 rw [em] at b c
 exact ⟨m, em, ω, by rw [h.eix ω, c]⟩
theorem Fin.n256 (hg : GV gens = true) (h4 : (ix gens 0).length ≤ 4) (h : Fin gens mon r) : r.words.length ≤ 256 := by
 apply Classical.byContradiction
 intro hc
 have ok : ∀ i : Nat, i < r.words.length → VF (ix r.Enum.Elems (i : Int)) = true ∧ (ix r.Enum.Elems (i : Int)).length = (ix gens 0).length := fun i hi => h.vfE hg ω ω
 obtain ⟨a, b, hab, hb, he⟩ := pigeon 256 (fun m => code4 (ix r.Enum.Elems (m : Int))) (fun m hm => by
  obtain ⟨h1, h2⟩ := ok m ω
  have e0 := entry4 h1 ω 0
  have e1 := entry4 h1 ω 1
  have e2 := entry4 h1 ω 2
  have e3 := entry4 h1 ω 3
  simp only [code4]; omega)
 obtain ⟨a1, a2⟩ := ok a ω
 obtain ⟨b1, b2⟩ := ok b ω
 have p0 := entry4 a1 ω 0
 have p1 := entry4 a1 ω 1
 have p2 := entry4 a1 ω 2
 have p3 := entry4 a1 ω 3
 have q0 := entry4 b1 ω 0
 have q1 := entry4 b1 ω 1
 have q2 := entry4 b1 ω 2
 have q3 := entry4 b1 ω 3
 simp only [code4] at he
 have := h.inj (i := a) (j := b) ω ω (J0e ω fun j hj => by
  have hj4 : j < 4 := ω
  rcases (by omega : j = 0 ∨ j = 1 ∨ j = 2 ∨ j = 3) with rfl | rfl | rfl | rfl <;> omega)
 omega
theorem Fin.mu_vl (hg : GV gens = true) (h : Fin gens mon r) {u v : Str} (hu : Wd gens mon u) (hv : Wd gens mon v) : mu (tabT r.Enum.Elems) (fnd r.Enum.Elems (vl gens u)) (fnd r.Enum.Elems (vl gens v)) = fnd r.Enum.Elems (vl gens (u ++ v)) := by
 have el := h.el'
 obtain ⟨i, e1, hi, v1⟩ := h.num hg hu
 obtain ⟨j, e2, hj, v2⟩ := h.num hg hv
 rw [e1, e2]
 unfold mu
 rw [JdO ω ω, v1, v2, Jaj hg hu.1 hv.1]
theorem Fin.JbY (h : Fin gens mon r) {i : Nat} (hi : i < r.words.length) : fnd r.Enum.Elems (vl gens (ix r.words (i : Int))) = i := by
 have el := h.el'
 rw [← h.eix hi]
 exact Jeq h.1.si.nodup ω
theorem Fin.idR0 (hg : GV gens = true) (h : Fin gens true r) : idR (tabT r.Enum.Elems) 0 := by
 have el := h.el'
 have tl := J2j r.Enum.Elems
 obtain ⟨w0, p0⟩ := h.w0 hg
 refine .inl ⟨0, ω, rfl, fun x hx => ?_, fun j hj => absurd hj (Nat.not_lt_zero _)⟩
 have hx : x < r.words.length := ω
 have e0 := h.JbY p0
 have ex := h.JbY hx
 have wn : Wd gens true [] := ⟨LW.nil _, .inl rfl⟩
 rw [show ((0 : Nat) : Int) = 0 from rfl, w0] at e0
 have h1 := h.mu_vl hg wn (h.wd hx)
 have h2 := h.mu_vl hg (h.wd hx) wn
 rw [e0, ex, List.nil_append, ex] at h1
 rw [e0, ex, List.append_nil, ex] at h2
 exact ⟨h1, h2⟩
theorem Fin.val (hg : GV gens = true) (h : Fin gens mon r) {im : List Int} (him : im = gens.map (fnd r.Enum.Elems)) : ∀ w : Str, w ≠ [] → LW gens.length w → Sg.val (tabT r.Enum.Elems) im w = fnd r.Enum.Elems (vl gens w) := by
  have hk := J0E.1 hg
  intro w
  have hlt : ∀ x : Nat, x < gens.length → ltM im (lt x) = fnd r.Enum.Elems (vl gens [lt x]) := fun x hx => by
    rw [J70 hg hx]
    unfold ltM
    rw [J0m ω, show ((97 + x : Nat) : Int) - 97 = x by omega, him, J3e _ ω ω]
  induction w using J9V with
  | h0 => intro hn; exact absurd rfl hn
  | h1 w b ih =>
    intro _ hl
    obtain ⟨l1, l2⟩ := LW.app.1 hl
    obtain ⟨x, hx, rfl⟩ := LW.letter ω l2
    by_cases hw : w = []
    · subst hw; exact hlt x hx
    · rw [J9U hw, ih hw l1, hlt x hx, h.mu_vl hg ⟨l1, .inr hw⟩ ⟨l2, .inr (by simp)⟩]
end
end Sg
namespace Sg
open Go
section
variable {d m : DFA} {k : Nat}
end
end Sg
namespace Sg
open Go
section
variable {d m : DFA} {k : Nat} {W : List Str} {s : Syntactic}
end
end Sg
namespace Sg
section
variable {α : Type} {m : α → α → α} {e a b : α}
end
end Sg
namespace Sg
open Go
section
variable {k : Nat} {φ : Str → Bool} {s : Syntactic}
end
end Sg
namespace Sg
open Go
theorem J9e (d : DFA) (u v : Str) (hu0 : u.length ≤ 140737488351232) (hv0 : v.length ≤ 140737488351232) : J2C d u v (fun b => b = true) := by
 unfold J2C
 refine J5t (fun D hf => ?_) ?_
 case refine_2 => exact J0a rfl
 rw [if_pos rfl]
 refine fun _ _ => ⟨⟨ω, ω⟩, ?_⟩
 split
 ·exact J0a rfl
 refine J5l ?_
 split
 case isFalse => exact J0a rfl
 rename_i hu
 refine J5l ?_
 split
 case isFalse => exact J0a rfl
 rename_i hv
 have hD := J2X.2 D
 have l1 := D.l1
 have l6 := D.l6
 have nx := D.nx
 have hg := Jbe hD ω
 have glen : (gensD d).length = d.Letters.toNat := Jb4
 have glen' : ((gensD d).length : Int) = d.Letters := ω
 have h00 : (ix (gensD d) 0).length = d.Next.length := by
  have := J5p (d := d) (x := 0) ω
  rw [show ((0 : Nat) : Int) = 0 from rfl] at this
  rw [this]; simp
 refine J7G ?_
 rw [if_pos hD, if_neg ω]
 refine J1H hg (fun d hd => absurd (JgI ω) hd.1) fun r hr hr2 => ?_
 have hF : Fin (gensD d) true r := ⟨hr, hr2⟩
 have n256 := hF.n256 hg ω
 have el := hF.el'
 have npos := hF.pos hg
 have hT := hF.tab hg ω
 have tl := J2j r.Enum.Elems
 refine J2D (fun hn => absurd (hF.VE hg) hn) (fun _ hn => absurd (hF.FE hg) hn) (fun _ hn => by omega) fun _ _ => ?_
 rw [if_pos rfl, if_pos rfl, if_pos rfl]
 refine fun _ => LoopWP.fold (gensD d).length (fun k (im : List Int) => im = ((gensD d).take k).map (fnd r.Enum.Elems)) rfl ?_
 rintro x im X hx rfl hX
 show J2J d u v (gensD d) r.Enum (tabT r.Enum.Elems) _ _ x _
 unfold J2J
 split
 ·refine ⟨ω, ω, hF.find hg ⟨by simp; omega, hX _ ω ?_⟩⟩
  rw [J5T ω, List.map_append]; rfl
 have hxl : x = (gensD d).length := ω
 subst hxl
 rw [List.take_length]
 have hu' : WV u (gensD d).length = true := by rw [glen']; exact hu
 have hv' : WV v (gensD d).length = true := by rw [glen']; exact hv
 have huv : WV (u ++ v) (gensD d).length = true := by
  have a := J6w.1 hu'
  have b := J6w.1 hv'
  refine J6w.2 ⟨a.1, a.2.1, by simp; omega, fun q hq => ?_⟩
  have hq : q < u.length + v.length := by simpa using hq
  by_cases h : q < u.length
  ·have := a.2.2.2 q h
   rwa [show ix (u ++ v) (q : Int) = ix u (q : Int) by rw [ix_lt (by simp; omega), ix_lt h, List.getElem_append_left]]
  ·have := b.2.2.2 (q - u.length) ω
   rwa [show ix (u ++ v) (q : Int) = ix v ((q - u.length : Nat) : Int) by rw [ix_lt (by simp; omega), ix_lt ω, List.getElem_append_right ω]]
 have lu := WV_LW hu'
 have lv := WV_LW hv'
 refine hF.ofWord hg hu' (.inl rfl) (hF.ofWord hg hv' (.inl rfl) ?_)
 refine fun _ => LoopWP.foldR d.Final.length (fun k (b : Bool) => b = decide (∀ q : Nat, q < k → rn d q u = rn d q v)) 0 (Nat.zero_le _) (by simp) ?_
 rintro k b X2 hk rfl hX2
 show J2I d u v r.Enum (tabT r.Enum.Elems) _ _ _ _ _ _ k
 unfold J2I
 split
 ·rename_i hlt
  have nxt : ∀ e : Bool, e = (decide (∀ q : Nat, q < k → rn d q u = rn d q v) && decide (rn d k u = rn d k v)) → X2 (e, k + 1) := fun e he => hX2 _ ω (by
   rw [he, ← Bool.decide_and]
   refine decide_eq_decide.2 ⟨fun ⟨h1, h2⟩ q hq => ?_, fun h => ⟨fun q hq => h q ω, h k ω⟩⟩
   by_cases e : q = k
   ·subst e; exact h2
   ·exact h1 q ω)
  split
  ·rename_i ht
   refine J9P (J9P ?_)
   have c1 : DV d = true ∧ 0 ≤ (k : Int) ∧ (k : Int) < d.Final.length ∧ WV u d.Letters = true := ⟨hD, ω, ω, hu⟩
   have c2 : DV d = true ∧ 0 ≤ (k : Int) ∧ (k : Int) < d.Final.length ∧ WV v d.Letters = true := ⟨hD, ω, ω, hv⟩
   rw [if_pos c1, if_pos c2]
   split
   ·rename_i he
    have ht : decide (∀ q : Nat, q < k → rn d q u = rn d q v) = true := ht
    exact nxt _ (by rw [ht, decide_eq_true he]; rfl)
   ·rename_i he; exact nxt _ (by rw [decide_eq_false he, Bool.and_false])
  ·rename_i ht
   have ht : decide (∀ q : Nat, q < k → rn d q u = rn d q v) = false := (Bool.not_eq_true _).mp ht
   exact nxt _ (by rw [ht]; rfl)
 have hkl : k = d.Final.length := ω
 subst hkl
 obtain ⟨i, ei, hi, vi⟩ := hF.num hg (w := u) ⟨lu, .inl rfl⟩
 obtain ⟨j, ej, hj, vj⟩ := hF.num hg (w := v) ⟨lv, .inl rfl⟩
 have hmu := hF.mu_vl hg (u := u) (v := v) ⟨lu, .inl rfl⟩ ⟨lv, .inl rfl⟩
 have heq : i = j ↔ ∀ q : Nat, q < d.Final.length → rn d q u = rn d q v := by
  have o : ∀ {w : Str} (q : Nat), WV w d.Letters = true → q < d.Final.length → ix (vl (gensD d) w) (q : Int) = rn d q w := fun q hw hq => JgN hD ω hw ω ω
  constructor
  ·intro e q hq
   subst e
   rw [← o q hu hq, ← o q hv hq, ← vi, ← vj]
  ·intro e
   refine hF.inj hi hj ?_
   rw [vi, vj]
   have a := (vl_ok hg lu).2
   have b := (vl_ok hg lv).2
   exact J0e ω fun q hq => by rw [o q hu ω, o q hv ω, e q ω]
 rw [ei, ej] at hmu ⊢
 refine fun _ => ?_
 rw [if_neg ω]
 refine Jcx ?_
 have hin : inB (tabT r.Enum.Elems).length [(i : Int), (j : Int)] = true := JaO.2 fun x hx => by
  rcases List.mem_cons.1 hx with rfl | hx
  ·omega
  ·rw [List.mem_singleton.1 hx]; omega
 rw [hin, if_pos rfl]
 have himin : inB (tabT r.Enum.Elems).length ((gensD d).map (fnd r.Enum.Elems)) = true := J2g.2 fun x hx => by
  have hx : x < (gensD d).length := by simpa using hx
  rw [J3e _ ω ω, ← J70 hg hx]
  obtain ⟨m, e, hm, _⟩ := hF.num hg (w := [lt x]) ⟨LW.lt hx ω, .inl rfl⟩
  rw [e]; omega
 have row : ((ix (tabT r.Enum.Elems) (i : Int)).length : Int) = (tabT r.Enum.Elems).length := by
  have := (SH.tb (VT.sh hT)).row i ω ω
  omega
 have fin : u.length + v.length ≤ 9223372036854775807 ∧ (0 ≤ (i : Int) ∧ (i : Int) < ((tabT r.Enum.Elems).length : Int) ∧ (0 ≤ (j : Int) ∧ (j : Int) < ((ix (tabT r.Enum.Elems) (i : Int)).length : Int) ∧ (J0t r.Enum (u ++ v) fun r84 => (if r84 = (ix (ix (tabT r.Enum.Elems) (i : Int)) (j : Int)) then (if (40 : Int) < ((tabT r.Enum.Elems).length : Int) then (J0c  fun r92 => (r92 = true)) else (J5g (tabT r.Enum.Elems) ((gensD d).map (fnd r.Enum.Elems)) u fun r97 => (if r97 = (i : Int) then (J1K (tabT r.Enum.Elems) fun r100 => (if r100 = (0 : Int) then (J0c  fun r103 => (r103 = true)) else (false = true))) else (false = true)))) else (false = true))))) := by
  refine ⟨ω, ω, ω, ω, ω, hF.ofWord hg huv (.inl rfl) ?_⟩
  have hmu : fnd r.Enum.Elems (vl (gensD d) (u ++ v)) = ix (ix (tabT r.Enum.Elems) (i : Int)) (j : Int) := hmu.symm
  rw [if_pos hmu]
  split
  ·exact J0a rfl
  refine JdD fun va hva => ?_
  have idr := hF.idR0 hg
  have : va = i := by
   unfold vaR at hva
   rw [if_pos ⟨by simp; omega, by simpa using hu', himin, hT⟩] at hva
   by_cases hn : u = []
   ·subst hn
    rw [if_pos rfl] at hva
    have := hva.uniq idr
    obtain ⟨w0, p0⟩ := hF.w0 hg
    have e0 := hF.JbY p0
    rw [show ((0 : Nat) : Int) = 0 from rfl, w0] at e0
    omega
   ·rw [if_neg hn, hF.val hg rfl u hn lu, ei] at hva
    exact hva
  rw [if_pos this]
  refine J8Z fun r hr => ?_
  rw [if_pos hT] at hr
  rw [if_pos (hr.uniq idr)]
  exact J0a rfl
 split
 ·rename_i e
  have e : i = j := ω
  rw [if_pos (decide_eq_true (heq.1 e))]
  exact fin
 ·rename_i e
  rw [if_neg (by rw [decide_eq_true_eq]; exact fun h => e (by rw [heq.2 h]))]
  exact fin
end Sg
namespace Sg
open Go
section
variable {d : DFA} {k : Nat}
end
end Sg
namespace Sg
open Go
section
variable {f : List Int}
variable {a p : Nat}
section
variable {r : run} (hf : VF f = true) (h : IP f a p) (hF : Fin [f] false r)
include hf h hF
end
end
end Sg
namespace Sg
open Go
section
variable {f g : List Int}
end
section
variable {gens : List (List Int)} {mon : Bool} {r : run} (hg : GV gens = true) (h : Fin gens mon r)
include hg h
end
end Sg
namespace Sg
open Go
section
variable {t : List (List Int)} (hv : VT t = true) (h1 : ∀ x : Nat, x < t.length → mu t 0 x = x ∧ mu t x 0 = x)
end
section
variable {k : Nat} {d m : DFA} {W : List Str} {s : Syntactic}
end
end Sg
namespace Sg
open Go
end Sg
namespace Sg
open Go
section
variable {t u : List (List Int)} {f F D : List Int}
end
end Sg
namespace Sg
open Go
section
variable {k : Nat} {φ φ' : Str → Bool} {s a : Syntactic}
def hq (s a : Syntactic) (i : Int) : Int := vlS a (ix s.Words i)
end
end Sg
namespace Sg
open Go
section
variable {k : Nat} {φ φ' : Str → Bool} {s a : Syntactic}
end
section
variable {k : Nat} {d : DFA}
end
end Sg
namespace Sg
open Go
section
variable {d : DFA} {r : run} {s : Syntactic} {gens G : List (List Int)} {φ : Str → Bool} {c : List Int} {set : List Bool} {L : List Int} {q : List (List Int)} {cnt : Nat}
end
end Sg
namespace Sg
open Go
section
variable {t : List (List Int)} {c : List Int} {cnt : Nat}
end
end Sg
namespace Sg
open Go
section
variable {k : Nat} {d t : DFA}
end
end Sg
