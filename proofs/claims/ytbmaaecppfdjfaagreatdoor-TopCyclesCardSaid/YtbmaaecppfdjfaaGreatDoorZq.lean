/- -/
import Derived.Test.YtbmaaecppfdjfaaGreatDoorZp
import Derived.Test.YtbmaaecppfdjfaaGreatDoorEv
set_option linter.unusedVariables false
set_option linter.unusedSimpArgs false
namespace Sg
open Go
end Sg
namespace Sg
open Go
section
variable {gens : List (List Int)} {mon : Bool} {r : run}
theorem Fin.wd (h : Fin gens mon r) {i : Nat} (hi : i < r.words.length) : Wd gens mon (ix r.words (i : Int)) := (h.1.si.red (i := (i : Int)) ω ω).1
theorem Fin.eix (h : Fin gens mon r) {i : Nat} (hi : i < r.words.length) : ix r.Enum.Elems (i : Int) = vl gens (ix r.words (i : Int)) := h.1.si.eix ω ω
theorem Fin.el' (h : Fin gens mon r) : r.Enum.Elems.length = r.words.length := h.1.si.elen
theorem Fin.Jin (hg : GV gens = true) (h : Fin gens mon r) {i j : Nat} (hi : i < r.words.length) (hj : j < r.words.length) : compF (ix r.Enum.Elems (i : Int)) (ix r.Enum.Elems (j : Int)) ∈ r.Enum.Elems := by
 rw [h.eix hi, h.eix hj]
 exact h.Jhj hg (h.wd hi) (h.wd hj).1
theorem Fin.mul (hg : GV gens = true) (h : Fin gens mon r) {i j : Nat} (hi : i < r.words.length) (hj : j < r.words.length) :
  ∃ m : Nat, mu (tabT r.Enum.Elems) i j = m ∧ m < r.words.length ∧ ix r.Enum.Elems (m : Int) = compF (ix r.Enum.Elems (i : Int)) (ix r.Enum.Elems (j : Int)) := by
 have el := h.el'
 obtain ⟨m0, m1, m2⟩ := Jik (h.Jin hg hi hj)
 obtain ⟨m, em⟩ := Int.eq_ofNat_of_zero_le m0
 rw [em] at m1 m2
 refine ⟨m, ?_, ω, m2⟩
 unfold mu
 rw [JdO ω ω, em]
theorem J2j (E : List (List Int)) : (tabT E).length = E.length := by simp [tabT]
theorem Fin.pos (hg : GV gens = true) (h : Fin gens mon r) : 1 ≤ r.words.length := h.1.ne
theorem Fin.inj (h : Fin gens mon r) {i j : Nat} (hi : i < r.words.length) (hj : j < r.words.length) (e : ix r.Enum.Elems (i : Int) = ix r.Enum.Elems (j : Int)) : i = j := by
 have el := h.el'
 have hn := h.1.si.nodup
 have h1 := Jeq hn (i := i) ω
 have h2 := Jeq hn (i := j) ω
 rw [e] at h1
 omega
theorem Fin.tab (hg : GV gens = true) (h : Fin gens mon r) (h4 : r.Enum.Elems.length ≤ 400) : VT (tabT r.Enum.Elems) = true := by
 have el := h.el'
 have tl := J2j r.Enum.Elems
 have p1 := h.pos hg
 have as : AS (tabT r.Enum.Elems) := fun x y z hx hy hz => by
  rw [tl, el] at hx hy hz
  obtain ⟨a, a1, a2, a3⟩ := h.mul hg hx hy
  obtain ⟨b, b1, b2, b3⟩ := h.mul hg hy hz
  rw [a1, b1]
  obtain ⟨c, c1, c2, c3⟩ := h.mul hg a2 hz
  obtain ⟨d, d1, d2, d3⟩ := h.mul hg hx b2
  rw [c1, d1]
  rw [a3] at c3
  rw [b3] at d3
  have vx := h.vfE hg (i := (x : Int)) ω ω
  have vy := h.vfE hg (i := (y : Int)) ω ω
  have := h.inj c2 d2 (by
   rw [c3, d3]
   exact JcH fun j hj => by
    have := (J1T.1 vx.1).2.2 j hj
    omega)
  omega
 have sh : SH (tabT r.Enum.Elems) = true := J8X.2 ⟨ω, ω, fun i hi => J3G.2 ⟨by
  unfold tabT
  rw [J3e _ ω ω]; simp, fun j hj => by
  have hl : (ix (tabT r.Enum.Elems) (i : Int)).length = r.Enum.Elems.length := by
   unfold tabT
   rw [J3e _ ω ω]; simp
  obtain ⟨m, m1, m2, _⟩ := h.mul hg (i := i) (j := j) ω ω
  unfold mu at m1
  omega⟩⟩
 unfold VT
 rw [sh, decide_eq_true as]; rfl
theorem Fin.num (hg : GV gens = true) (h : Fin gens mon r) {w : Str} (hw : Wd gens mon w) : ∃ m : Nat, fnd r.Enum.Elems (vl gens w) = m ∧ m < r.words.length ∧ ix r.Enum.Elems (m : Int) = vl gens w := by
 obtain ⟨a, b, _, c⟩ := h.1.Jfi hg hw
 obtain ⟨m, em⟩ := Int.eq_ofNat_of_zero_le a
 rw [em] at b c
 exact ⟨m, em, ω, by rw [h.eix ω, c]⟩
theorem RI.exG (hg : GV gens = true) {d : Nat} {r : run} (h : RI gens mon d r) (hd : d < r.words.length) : ∃ r', RI gens mon (d + 1) r' := by
  classical
  have key : ∀ x, x ≤ gens.length → ∃ row E Pf Ls R W Bh m, PI gens mon r.single r.Enum.Right d x row E Pf Ls R W Bh m := by
    intro x
    induction x with
    | zero => intro _; exact ⟨_, _, _, _, _, _, _, _, h.pi hg hd⟩
    | succ x ih =>
      intro hx
      obtain ⟨row, E, Pf, Ls, R, W, Bh, m, hI⟩ := ih ω
      by_cases hf : vl gens (ix W d ++ [lt x]) ∈ E
      · by_cases hu : ix W d = []
        · exact ⟨_, _, _, _, _, _, _, _, hI.skip hg ω hf fun hn => absurd hu hn⟩
        · by_cases hm : MN gens mon (ix W d ++ [lt x])
          · exact ⟨_, _, _, _, _, _, _, _, hI.rule hg ω hf hu hm⟩
          · exact ⟨_, _, _, _, _, _, _, _, hI.skip hg ω hf fun _ => hm⟩
      · have hu : ix W d ≠ [] := fun k => hf (hI.Jcy hg ω k)
        obtain ⟨hb, hq⟩ := Jcj hI.si hI.dl (show x < gens.length by omega) hI.sg hI.rt hu
        rcases hq with ⟨_, q0, q1, q2⟩ | ⟨_, _, _, _, q0, q1, q2⟩
        · exact ⟨_, _, _, _, _, _, _, _, hI.new hg ω hu hf q0 q1 q2⟩
        · exact ⟨_, _, _, _, _, _, _, _, hI.new hg ω hu hf q0 q1 q2⟩
  obtain ⟨row, E, Pf, Ls, R, W, Bh, m, hI⟩ := key gens.length (Nat.le_refl _)
  exact ⟨_, hI.fin hg h⟩
theorem Lim.no (hg : GV gens = true) {d : Nat} (h : Lim gens mon d) (few : ∀ d r, RI gens mon d r → r.words.length ≤ 2000) : False := by
 obtain ⟨_, ⟨s, hs, hd⟩, hl⟩ := h
 obtain ⟨r', hr'⟩ := hs.exG hg hd
 have h1 := hl (d + 1) r' ω hr'
 have h2 := few _ _ hr'
 omega
end
end Sg
namespace Sg
open Go
section
variable {d m : DFA} {k : Nat}
end
end Sg
namespace Sg
open Go
section
variable {d m : DFA} {k : Nat} {W : List Str} {s : Syntactic}
end
end Sg
namespace Sg
section
variable {α : Type} {m : α → α → α} {e a b : α}
end
end Sg
namespace Sg
open Go
section
variable {k : Nat} {φ : Str → Bool} {s : Syntactic}
end
end Sg
namespace Sg
open Go
end Sg
namespace Sg
open Go
section
variable {d : DFA} {k : Nat}
end
end Sg
namespace Sg
open Go
section
variable {f : List Int}
def aw (m : Nat) : Str := List.replicate m (lt 0)
theorem aw_lw (m : Nat) : LW 1 (aw m) := fun b hb => by
 have := List.eq_of_mem_replicate hb
 subst this
 exact LW.lt (k := 1) (x := 0) ω ω (lt 0) (by simp)
theorem J7B (m : Nat) : (aw m).length = m := by simp [aw]
theorem JhX (m : Nat) : aw (m + 1) = aw m ++ [lt 0] := by simp [aw, List.replicate_succ']
theorem lw_aw {w : Str} (h : LW 1 w) : w = aw w.length := List.eq_replicate_iff.2 ⟨rfl, fun b hb => by
 obtain ⟨x, hx, rfl⟩ := LW.letter (k := 1) ω (b := b) (fun c hc => h c (by simp at hc; rw [hc]; exact hb))
 have : x = 0 := ω
 rw [this]⟩
theorem Je1 (hf : VF f = true) : GV [f] = true := J0E.2 ⟨by simp, by simp, fun j hj => by
 have : j = 0 := by simpa using hj
 subst this
 exact ⟨hf, rfl⟩⟩
theorem vl_aw (hf : VF f = true) (m : Nat) : vl [f] (aw m) = pw f m := by
  induction m with
  | zero => rw [JgT]; rfl
  | succ m ih =>
    rw [JhX, Jaj (Je1 hf) (aw_lw m) (LW.lt (k := 1) ω ω), ih, J70 (Je1 hf) (x := 0) (by simp)]
    show compF (pw f m) f = _
    rw [← J8Q hf m 1, Jel]
variable {a p : Nat}
theorem JfV (hf : VF f = true) (h : IP f a p) {s t : Nat} (hs : 1 ≤ s) (hst : s < t) : pw f s = pw f t ↔ a ≤ s ∧ p ∣ t - s :=
 ⟨h.of_eq hf hs hst, fun ⟨h1, h2⟩ => h.eq_of hf h1 ω h2⟩
theorem JiK (hf : VF f = true) (h : IP f a p) {w : Str} : Red [f] false w ↔ ∃ m, w = aw m ∧ 1 ≤ m ∧ m < a + p := by
 have p1 := h.p1
 constructor
 ·rintro ⟨⟨h1, h2⟩, h3⟩
  have e := lw_aw h1
  have hne : w ≠ [] := by simpa using h2
  have hl : 1 ≤ w.length := by
   have := List.length_pos_iff.2 hne; omega
  refine ⟨w.length, e, hl, ?_⟩
  apply Classical.byContradiction
  intro hge
  have ha := h.a1
  refine h3 (aw (w.length - p)) ⟨aw_lw _, .inr fun k => ?_⟩ ?_ (.inl (by rw [J7B]; omega))
  ·have := congrArg List.length k
   rw [J7B] at this; simp at this; omega
  ·rw [e, vl_aw hf, vl_aw hf, J7B]
   exact h.eq_of hf ω ω ⟨1, ω⟩
 ·rintro ⟨m, rfl, h1, h2⟩
  refine ⟨⟨aw_lw m, .inr fun k => ?_⟩, fun v hv he hs => ?_⟩
  ·have := congrArg List.length k
   rw [J7B] at this; simp at this; omega
  ·have e := lw_aw hv.1
   have hne : v ≠ [] := by simpa using hv.2
   have hl : 1 ≤ v.length := by have := List.length_pos_iff.2 hne; omega
   rw [e, vl_aw hf, vl_aw hf] at he
   have hlt : v.length < m := by
    rcases hs with hs | hs
    ·rwa [J7B] at hs
    ·exfalso
     have hm : v.length = m := by have := hs.1; rwa [J7B] at this
     rw [e, hm] at hs
     exact SL.irrefl (aw m) (.inr hs)
   obtain ⟨q1, q2⟩ := (JfV hf h hl hlt).1 he
   have := Nat.le_of_dvd ω q2
   omega
def awL (n : Nat) : List Str := (List.range n).map fun i => aw (i + 1)
theorem Jij (n : Nat) : (awL n).Pairwise SL := by
 rw [awL, List.pairwise_map]
 exact List.pairwise_lt_range.imp fun h => .inl (by rw [J7B, J7B]; omega)
theorem JeE {n : Nat} {w : Str} : w ∈ awL n ↔ ∃ m, w = aw m ∧ 1 ≤ m ∧ m < n + 1 := by
 simp only [awL, List.mem_map, List.mem_range]
 constructor
 ·rintro ⟨i, hi, rfl⟩; exact ⟨i + 1, rfl, ω, ω⟩
 ·rintro ⟨m, rfl, h1, h2⟩; exact ⟨m - 1, ω, by rw [show m - 1 + 1 = m by omega]⟩
theorem IP.bd6 (hf : VF f = true) (hn : f.length ≤ 6) (h : IP f a p) : a + p ≤ 67 := by
 have hd : p ∣ 60 := by
  refine h.least _ fun i k hi hm => ?_
  have hk := hm.le hf ω ω
  have hk1 := hm.1
  have : ∀ k, k < 7 → 1 ≤ k → k ∣ 60 := by decide
  exact this k ω hk1
 have := Nat.le_of_dvd (by decide) hd
 have := h.an
 omega
theorem pw_60 (hf : VF f = true) (hn : f.length ≤ 6) {n : Nat} (h6 : 6 ≤ n) : pw f (n + 60) = pw f n := pw_eq.2 fun x h0 h1 => by
 obtain ⟨s, hs, hp⟩ := Per.ev hf h0 h1
 have hp : Per f (itr f n x) := by
  have := hp.on (n - s)
  rwa [← J1y, show s + (n - s) = n by omega] at this
 obtain ⟨d, hd, hx⟩ := hp
 obtain ⟨m, k, b, hm, _, hb⟩ := Per.min hd hx
 have hin := J80 hf n h0 h1
 have hin := J80 hf m hin.1 hin.2
 have hk := hm.le hf hin.1 hin.2
 have hk1 := hm.1
 have : ∀ k, k < 7 → 1 ≤ k → k ∣ 60 := by decide
 obtain ⟨q, hq⟩ := this k ω hk1
 rw [J1y]
 generalize itr f n x = y at *
 rw [hb, Jcs, hq, JdC hm.2.1]
theorem Jic (hf : VF f = true) (hn : f.length ≤ 6) {w : Str} (h : Red [f] false w) : w ∈ awL 65 := by
 obtain ⟨⟨h1, h2⟩, h3⟩ := h
 have e := lw_aw h1
 have hne : w ≠ [] := by simpa using h2
 have hl : 1 ≤ w.length := by have := List.length_pos_iff.2 hne; omega
 refine JeE.2 ⟨w.length, e, hl, ?_⟩
 apply Classical.byContradiction
 intro hge
 refine h3 (aw (w.length - 60)) ⟨aw_lw _, .inr fun k => ?_⟩ ?_ (.inl (by rw [J7B]; omega))
 ·have := congrArg List.length k
  rw [J7B] at this; simp at this; omega
 ·rw [e, vl_aw hf, vl_aw hf, J7B]
  have := pw_60 hf hn (n := w.length - 60) ω
  rwa [show w.length - 60 + 60 = w.length by omega, eq_comm] at this
theorem JhF (hf : VF f = true) (hn : f.length ≤ 6) {d : Nat} {r : run} (hr : RI [f] false d r) : r.words.length ≤ 65 := by
 have hasc := hr.si.rl.asc
 apply Classical.byContradiction
 intro hc
 have at_ : ∀ i : Nat, i < r.words.length → ∃ m : Nat, ix r.words (i : Int) = aw m ∧ 1 ≤ m ∧ m < 66 := fun i hi => JeE.1 (Jic hf hn ((hr.si.rl.mem _).1 (J0P (i := (i : Int)) ω ω)).1)
 obtain ⟨a, b, hab, hb, he⟩ := pigeon 65 (fun m => ((ix r.words (m : Int)).length : Int) - 1) (fun m hm => by
  obtain ⟨q, e, q1, q2⟩ := at_ m ω
  simp only [e, J7B]; omega)
 obtain ⟨q, e, _⟩ := at_ a ω
 obtain ⟨q', e', _⟩ := at_ b ω
 simp only [e, e', J7B] at he
 have : q = q' := ω
 subst this
 have := J8N hasc (i := a) (j := b) ω ω (e.trans e'.symm)
 omega
theorem Fin.aw (hf : VF f = true) (h : IP f a p) {r : run} (hF : Fin [f] false r) : r.words = awL (a + p - 1) := by
 have hr := hF.1.rlT (Je1 hf)
 have hp := h.p1
 refine JdJ hr.asc (Jij _) fun w => ?_
 rw [hr.mem, JiK hf h, JeE]
 have ha := h.a1
 exact ⟨fun ⟨⟨m, h1, h2, h3⟩, _⟩ => ⟨m, h1, h2, ω⟩, fun ⟨m, h1, h2, h3⟩ => ⟨⟨m, h1, h2, ω⟩, trivial⟩⟩
section
variable {r : run} (hf : VF f = true) (h : IP f a p) (hF : Fin [f] false r)
include hf h hF
theorem aw_n : r.words.length = a + p - 1 := by rw [hF.aw hf h]; simp [awL]
theorem aw_el {i : Nat} (hi : i < a + p - 1) : ix r.Enum.Elems (i : Int) = pw f (i + 1) := by
 have n := aw_n hf h hF
 rw [hF.eix ω, hF.aw hf h, awL, J3e _ ω (by simp; omega), ← vl_aw hf]
 congr 2
 have := ix_lt (xs := List.range (a + p - 1)) (k := i) (by simp; exact hi)
 rw [this, List.getElem_range]
theorem Jf7 {m : Nat} (hm : 1 ≤ m) : ∃ j : Nat, fnd r.Enum.Elems (pw f m) = j ∧ j < a + p - 1 ∧ pw f (j + 1) = pw f m := by
 have n := aw_n hf h hF
 obtain ⟨j, e, hj, hv⟩ := hF.num (Je1 hf) (w := Sg.aw m) ⟨aw_lw m, .inr fun k => by
  have := congrArg List.length k
  rw [J7B] at this; simp at this; omega⟩
 rw [vl_aw hf] at e hv
 refine ⟨j, e, ω, ?_⟩
 rw [aw_el hf h hF ω] at hv
 exact hv
theorem Jfm {i j : Nat} (hi : i < a + p - 1) (hj : j < a + p - 1) : mu (tabT r.Enum.Elems) i j = fnd r.Enum.Elems (pw f (i + 1 + (j + 1))) := by
 have n := aw_n hf h hF
 have el := hF.el'
 unfold mu
 rw [JdO ω ω, aw_el hf h hF hi, aw_el hf h hF hj, J8Q hf]
theorem Jeu (m : Nat) : pow (tabT r.Enum.Elems) 0 m = fnd r.Enum.Elems (pw f (m + 1)) := by
  have ha := h.a1
  have hp := h.p1
  have n := aw_n hf h hF
  have el := hF.el'
  induction m with
  | zero =>
    show (0 : Int) = _
    rw [← aw_el hf h hF (i := 0) ω]
    exact (Jeq hF.1.si.nodup (i := 0) ω).symm
  | succ m ih =>
    show mu _ (pow (tabT r.Enum.Elems) 0 m) 0 = _
    rw [ih]
    obtain ⟨j, e, hj, hv⟩ := Jf7 hf h hF (m := m + 1) ω
    rw [e]
    have := Jfm hf h hF hj (j := 0) ω
    rw [show ((0 : Nat) : Int) = 0 from rfl] at this
    rw [this, ← J8Q hf, hv, J8Q hf]
theorem Jgv {s t : Nat} (hs : 1 ≤ s) (ht : 1 ≤ t) : fnd r.Enum.Elems (pw f s) = fnd r.Enum.Elems (pw f t) ↔ pw f s = pw f t := by
 refine ⟨fun e => ?_, fun e => by rw [e]⟩
 obtain ⟨i, e1, _, h1⟩ := Jf7 hf h hF hs
 obtain ⟨j, e2, _, h2⟩ := Jf7 hf h hF ht
 have : i = j := ω
 subst this
 rw [← h1, h2]
theorem aw_RP : RP (pow (tabT r.Enum.Elems) 0) (a - 1) (a + p - 1) := by
 have ha := h.a1
 have hp := h.p1
 refine ⟨ω, ?_, fun i j hij hj e => ?_⟩
 ·rw [Jeu hf h hF, Jeu hf h hF, Jgv hf h hF ω ω]
  exact (h.eq_of hf ω ω ⟨1, ω⟩).symm
 ·rw [Jeu hf h hF, Jeu hf h hF, Jgv hf h hF ω ω] at e
  obtain ⟨q1, q2⟩ := (JfV hf h ω ω).1 e
  have := Nat.le_of_dvd ω q2
  omega
theorem aw_om : omR (tabT r.Enum.Elems) 0 (fnd r.Enum.Elems (pw f (omE a p))) := by
 have ha := h.a1
 have hp := h.p1
 obtain ⟨o1, o2, o3, _⟩ := JhM (a := a) hp
 refine ⟨omE a p - 1, by rw [Jeu hf h hF, show omE a p - 1 + 1 = omE a p by omega], ?_⟩
 obtain ⟨j, e, hj, hv⟩ := Jf7 hf h hF (m := omE a p) ω
 rw [e, Jfm hf h hF hj hj, ← J8Q hf, hv, J8Q hf, ← e]
 congr 1
 exact (h.eq_of hf ω ω (by rw [show omE a p + omE a p - omE a p = omE a p by omega]; exact o3)).symm
end
end
theorem Jc6 (f : List Int) : J6d f (fun b => b = true) := by
 unfold J6d
 refine fun _ => ?_
 split
 ·exact J0a rfl
 rename_i hn
 refine J0u ?_
 split
 case isFalse => exact J0a rfl
 rename_i hf
 have hg := Je1 hf
 refine J1H hg (fun d hd => (hd.no hg fun d r hr => Nat.le_trans (JhF hf ω hr) (by decide)).elim) fun r hr hr2 => ?_
 have hF : Fin [f] false r := ⟨hr, hr2⟩
 have n65 := JhF hf ω hr
 have npos := hF.pos hg
 have el := hF.el'
 have hv := hF.tab hg ω
 have tl := J2j r.Enum.Elems
 refine J2D (fun hn => absurd (hF.VE hg) hn) (fun _ hn => absurd (hF.FE hg) hn) (fun _ hn => by omega) fun _ _ => ?_
 rw [if_pos rfl, if_pos rfl]
 refine fun _ => ?_
 rw [if_neg ω]
 refine J68 (fun _ a p h => ?_) fun hn => absurd hf hn
 have ha := h.a1
 have hp := h.p1
 have hb := h.bd6 hf ω
 have n := aw_n hf h hF
 have hin : (inB (tabT r.Enum.Elems).length [0] && VT (tabT r.Enum.Elems)) = true := by
  rw [hv, Bool.and_true]
  exact J2g.2 fun j hj => by
   have : j = 0 := by simpa using hj
   subst this
   show 0 ≤ (0 : Int) ∧ (0 : Int) < _
   omega
 refine J6m fun i q hi => ?_
 rw [if_pos hin] at hi
 obtain ⟨rfl, rfl⟩ := hi.uniq ⟨a - 1, a + p - 1, aw_RP hf h hF, rfl, rfl⟩
 rw [if_pos ω, if_pos ω]
 refine ⟨⟨ω, ω⟩, ⟨ω, ω⟩, ?_⟩
 rw [if_pos ω]
 refine JdS fun o ho => ?_
 rw [if_pos hin] at ho
 refine JcZ (fun _ a' p' h' => ?_) fun hn => absurd hf hn
 obtain ⟨rfl, rfl⟩ := h.uniq2 h'
 refine hF.find hg ?_
 rw [if_pos (ho.uniq hv ⟨ω, ω⟩ (aw_om hf h hF))]
 refine Jan ?_
 have hc : (cenF (tabT r.Enum.Elems)).length = (tabT r.Enum.Elems).length := by
  rw [cenF, if_pos hv, List.filter_eq_self.2, J0T]
  intro x hx
  have hx := J5G.1 hx
  obtain ⟨x, rfl⟩ := Int.eq_ofNat_of_zero_le hx.1
  refine Jci.2 fun y hy => ?_
  rw [Jfm hf h hF ω ω, Jfm hf h hF ω ω, Nat.add_comm]
 rw [hv, decide_eq_true hc, Bool.true_and, if_pos rfl]
 exact J0a rfl
end Sg
namespace Sg
open Go
section
variable {f g : List Int}
end
section
variable {gens : List (List Int)} {mon : Bool} {r : run} (hg : GV gens = true) (h : Fin gens mon r)
include hg h
end
end Sg
namespace Sg
open Go
section
variable {t : List (List Int)} (hv : VT t = true) (h1 : ∀ x : Nat, x < t.length → mu t 0 x = x ∧ mu t x 0 = x)
end
section
variable {k : Nat} {d m : DFA} {W : List Str} {s : Syntactic}
end
end Sg
namespace Sg
open Go
end Sg
namespace Sg
open Go
section
variable {t u : List (List Int)} {f F D : List Int}
end
end Sg
namespace Sg
open Go
section
variable {k : Nat} {φ φ' : Str → Bool} {s a : Syntactic}
def hq (s a : Syntactic) (i : Int) : Int := vlS a (ix s.Words i)
end
end Sg
namespace Sg
open Go
section
variable {k : Nat} {φ φ' : Str → Bool} {s a : Syntactic}
end
section
variable {k : Nat} {d : DFA}
end
end Sg
namespace Sg
open Go
section
variable {d : DFA} {r : run} {s : Syntactic} {gens G : List (List Int)} {φ : Str → Bool} {c : List Int} {set : List Bool} {L : List Int} {q : List (List Int)} {cnt : Nat}
end
end Sg
namespace Sg
open Go
section
variable {t : List (List Int)} {c : List Int} {cnt : Nat}
end
end Sg
namespace Sg
open Go
section
variable {k : Nat} {d t : DFA}
end
end Sg
