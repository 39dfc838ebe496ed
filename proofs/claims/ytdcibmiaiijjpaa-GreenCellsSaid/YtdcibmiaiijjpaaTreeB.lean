/- -/
import Derived.Test.YtdcibmiaiijjpaaTail
namespace Sg
open Go Go.RowKit
set_option linter.unusedVariables false
set_option linter.unusedSimpArgs false
section
variable {P : Program} {σ : Nat → Value} {w : World} {t t' ty e e' : TypeId} {x y z : Operand} {A : List Nat} {E : List Ent} {n0 : Nat}
variable {α : Type} {r : Rp α} {hf : Fl r} {p : Option Addr} {n c : Nat} {hs : Hd} {xss : List (List α)}
theorem Stp.trans {w1 w2 : World} {E1 E2 : List Ent} (h : Stp n0 A w E w1 E1) (k : Stp n0 A w1 E1 w2 E2) : Stp n0 A w E w2 E2 := ⟨k.own, h.fr.trans k.fr⟩
theorem Owns.re {E' : List Ent} (h : Owns n0 w E A) (hn : (bl E').Nodup) (hs : ∀ b ∈ bl E', b ∈ bl E) (ha : ∀ e ∈ E', e.holds n0 w) : Stp n0 A w E w E' :=
 ⟨⟨h.le, h.bd, hn, fun b hb => h.out b (hs b hb), ha⟩, ⟨rfl, rfl, rfl, ⟨Nat.le_refl _, fun b _ hb => ⟨rfl, fun hx => hb (hs b hx)⟩⟩⟩⟩
def t2hf (p : Option Addr) (hs : Hd) (n i : Nat) : List Nat := pb p ++ (List.range n).flatMap fun k => if k = i then [] else pb (hs k).1
theorem J0J {p : Option Addr} {hs : Hd} {n i b : Nat} : b ∈ t2hf p hs n i ↔ b ∈ pb p ∨ ∃ k, k < n ∧ k ≠ i ∧ b ∈ pb (hs k).1 := by
 simp only [t2hf, List.mem_append, List.mem_flatMap, List.mem_range]
 refine or_congr Iff.rfl ⟨fun ⟨k, hk, hb⟩ => ?_, fun ⟨k, hk, hki, hb⟩ => ⟨k, hk, by rw [if_neg hki]; exact hb⟩⟩
 split at hb
 ·simp at hb
 ·rename_i hki; exact ⟨k, hk, hki, hb⟩
structure T2H {α : Type} (r : Rp α) (e e' : TypeId) (p : Option Addr) (n c : Nat) (hs : Hd) (xss : List (List α)) (i : Nat) (n0 : Nat) (w : World) : Prop where
 out : ∃ vs, w.ownsRow n0 e 1 (.slice p n c) n vs ∧ vs.length = xss.length ∧ ∀ k, k < xss.length → k ≠ i → vs[k]? = some (hcell hs xss k)
 len : n = xss.length
 bd : xss.length ≤ mx
 inn : ∀ k : Nat, k < xss.length → k ≠ i → Inn r e' n0 w (hs k) (ix xss (k : Int))
def t2h {α : Type} {r : Rp α} (hf : Fl r) (e e' : TypeId) (p : Option Addr) (n c : Nat) (hs : Hd) (xss : List (List α)) (i : Nat) : Ent := .any {
 F := t2hf p hs xss.length i
 H := T2H r e e' p n c hs xss i
 lt := fun h b hb => by
  rcases J0J.1 hb with hb | ⟨k, hk, hki, hb⟩
  ·obtain ⟨vs, h1, _⟩ := h.out; exact J4l h1 b hb
  ·obtain ⟨vs, h1, _⟩ := (h.inn k hk hki).ex
   exact J4l h1 b hb
 keep := fun h hk => ⟨by obtain ⟨vs, h1, h2⟩ := h.out; exact ⟨vs, J2i h1 fun b hb => hk b (J0J.2 (.inl hb)), h2⟩, h.len, h.bd, fun k hkl hki => (h.inn k hkl hki).keep hf fun b hb => hk b (J0J.2 (.inr ⟨k, hkl, hki, hb⟩))⟩
 base := fun hn h => ⟨by obtain ⟨vs, h1, h2⟩ := h.out; exact ⟨vs, J2H hn h1, h2⟩, h.len, h.bd, fun k hk hki => by obtain ⟨vs, h1, h2⟩ := (h.inn k hk hki).ex; exact ⟨vs, J2H hn h1, h2⟩⟩ }
theorem J5r {i : Nat} : (t2h hf e e' p n c hs xss i).fp = t2hf p hs xss.length i := rfl
theorem J6T {i : Nat} (h : (t2fp p hs n).Nodup) : (t2hf p hs n i).Nodup := by
 obtain ⟨h1, h2, h3⟩ := List.nodup_append.1 h
 obtain ⟨h4, h5⟩ := List.pairwise_flatMap.1 h2
 refine List.nodup_append.2 ⟨h1, List.pairwise_flatMap.2 ⟨fun k hk => ?_, h5.imp_of_mem fun {a b} _ _ hab x hx y hy => ?_⟩, fun a ha b hb hab => ?_⟩
 ·split
  ·exact List.nodup_nil
  ·exact h4 k hk
 ·split at hx
  ·simp at hx
  ·split at hy
   ·simp at hy
   ·exact hab x hx y hy
 ·obtain ⟨k, hk, hx⟩ := List.mem_flatMap.1 hb
  split at hx
  ·simp at hx
  ·exact h3 a ha b (List.mem_flatMap.2 ⟨k, hk, hx⟩) hab
theorem t2take {R : List Ent} (hO : Owns n0 w (t2 hf e e' p n c hs xss :: R) A) {i : Int} (h0 : 0 ≤ i) (h1 : i < (xss.length : Int)) :
  ∃ vs, Stp n0 A w (t2 hf e e' p n c hs xss :: R) w (.row e' r.sz (hs i.toNat).1 (ix xss i).length (hs i.toNat).2 vs :: t2h hf e e' p n c hs xss i.toNat :: R) ∧ ∀ B, Els r B w vs (ix xss i) := by
 obtain ⟨m, rfl⟩ := Int.eq_ofNat_of_zero_le h0
 simp only [Int.ofNat_eq_natCast, Int.toNat_natCast] at *
 have hml : m < xss.length := by omega
 have hT := t2at 0 hO rfl
 have hnd := J4F 0 hO rfl
 obtain ⟨vs, h2, h3⟩ := (hT.inn m hml).ex
 refine ⟨vs, Owns.re hO ?_ ?_ ?_, fun B => h3.fl hf⟩
 ·have hall := hO.nd
  rw [show bl (t2 hf e e' p n c hs xss :: R) = t2fp p hs xss.length ++ bl R from by simp [bl, fp_t2]] at hall
  obtain ⟨_, n2, n3⟩ := List.nodup_append.1 hall
  rw [show bl (.row e' r.sz (hs m).1 (ix xss (m : Int)).length (hs m).2 vs :: t2h hf e e' p n c hs xss m :: R) = pb (hs m).1 ++ (t2hf p hs xss.length m ++ bl R) from by simp [bl, J16, J5r]]
  refine List.nodup_append.2 ⟨by cases (hs m).1 <;> simp [pb], List.nodup_append.2 ⟨J6T hnd, n2, fun a ha b hb hab => ?_⟩, fun a ha b hb hab => ?_⟩
  ·refine n3 a ?_ b hb hab
   rcases J0J.1 ha with hx | ⟨k, hk, _, hx⟩
   ·exact J0c.2 (.inl hx)
   ·exact J0c.2 (.inr ⟨k, hk, hx⟩)
  ·subst hab
   rcases List.mem_append.1 hb with hb | hb
   ·rcases J0J.1 hb with hx | ⟨k, hk, hkm, hx⟩
    ·exact t2outd hnd hml a ha hx
    ·exact t2disj hnd hk hml hkm a hx ha
   ·exact n3 a (J0c.2 (.inr ⟨m, hml, ha⟩)) a hb rfl
 ·intro b hb
  simp only [bl, List.flatMap_cons, List.mem_append, J16, J5r, fp_t2] at hb ⊢
  rcases hb with hb | hb | hb
  ·exact .inl (J0c.2 (.inr ⟨m, hml, hb⟩))
  ·rcases J0J.1 hb with hx | ⟨k, hk, _, hx⟩
   ·exact .inl (J0c.2 (.inl hx))
   ·exact .inl (J0c.2 (.inr ⟨k, hk, hx⟩))
  ·exact .inr hb
 ·intro e1 he
  rcases List.mem_cons.1 he with rfl | he
  ·exact h2
  ·rcases List.mem_cons.1 he with rfl | he
   ·exact ⟨⟨_, hT.out, by simp, fun k hk _ => by rw [List.getElem?_eq_getElem (by simpa using hk), J0i hk]⟩, hT.len, hT.bd, fun k hk _ => hT.inn k hk⟩
   ·exact hO.at_ _ (List.mem_cons_of_mem _ he)
theorem t2fix {R : List Ent} {p2 : Option Addr} {n2 c2 m : Nat} {vs : List Value} {ys : List α} (hO : Owns n0 w (.row e' r.sz p2 n2 c2 vs :: t2h hf e e' p n c hs xss m :: R) A) {A' : List Nat} (hE : Els r A' w vs ys) {i : Int} (h0 : 0 ≤ i) (h1 : i < (xss.length : Int)) (hm : i.toNat = m) :
  ∃ w', Stp n0 A w (.row e' r.sz p2 n2 c2 vs :: t2h hf e e' p n c hs xss m :: R) w' (t2 hf e e' p n c (hup hs i.toNat (p2, c2)) (st xss i ys) :: R) ∧ ∀ {P : Program} {σ : Nat → Value} {t ty : TypeId} {x y : Operand} {d : TypeDesc} {zz : Option Value} {b : Nat}, P.underlying t = some d → scB d = true → ti P t = some (zz, 1, b) →
   ev σ x = .pointer (padd p (i.toNat * 1)) → ev σ y = .slice p2 n2 c2 → OpV P (.store t x y) ty σ w undef w' := by
 subst hm
 obtain ⟨m, rfl⟩ := Int.eq_ofNat_of_zero_le h0
 simp only [Int.ofNat_eq_natCast, Int.toNat_natCast] at *
 have hml : m < xss.length := by omega
 have hT : T2H r e e' p n c hs xss m n0 w := hO.at_ (t2h hf e e' p n c hs xss m) (by simp)
 have hrow := hO.at_ _ (List.mem_cons_self)
 have hn2 := hE.n_eq hrow
 have hnd := hO.nd
 rw [show bl (.row e' r.sz p2 n2 c2 vs :: t2h hf e e' p n c hs xss m :: R) = pb p2 ++ (t2hf p hs xss.length m ++ bl R) from by simp [bl, J16, J5r]] at hnd
 obtain ⟨hnd0, n2', n3⟩ := List.nodup_append.1 hnd
 have hndh := (List.nodup_append.1 n2').1
 have hdis : ∀ b ∈ pb p2, b ∉ t2hf p hs xss.length m := fun b hb hx => n3 b hb b (List.mem_append_left _ hx) rfl
 have hup_fp : ∀ b, b ∈ t2fp p (hup hs m (p2, c2)) xss.length → b ∈ pb p2 ∨ b ∈ t2hf p hs xss.length m := fun b hb => by
  rcases J0c.1 hb with hx | ⟨k, hk, hx⟩
  ·exact .inr (J0J.2 (.inl hx))
  ·by_cases hkm : k = m
   ·subst hkm; rw [J21] at hx; exact .inl hx
   ·rw [J1K _ _ hkm] at hx; exact .inr (J0J.2 (.inr ⟨k, hk, hkm, hx⟩))
 have hndN : (t2fp p (hup hs m (p2, c2)) xss.length).Nodup := by
  obtain ⟨q1, q2, q3⟩ := List.nodup_append.1 hndh
  obtain ⟨q4, q5⟩ := List.pairwise_flatMap.1 q2
  refine List.nodup_append.2 ⟨q1, List.pairwise_flatMap.2 ⟨fun k hk => ?_, ?_⟩, fun a ha b hb hab => ?_⟩
  ·by_cases hkm : k = m
   ·subst hkm; rw [J21]; exact hnd0
   ·rw [J1K _ _ hkm]; have := q4 k hk; rwa [if_neg hkm] at this
  ·rw [List.pairwise_iff_getElem] at q5 ⊢
   intro i j hi hj hij x hx y hy hxy
   subst hxy
   simp only [List.length_range] at hi hj
   simp only [List.getElem_range] at hx hy
   by_cases him : i = m
   ·subst him
    rw [J21] at hx
    rw [J1K _ _ (by omega)] at hy
    exact hdis x hx (J0J.2 (.inr ⟨j, hj, by omega, hy⟩))
   ·rw [J1K _ _ him] at hx
    by_cases hjm : j = m
    ·subst hjm
     rw [J21] at hy
     exact hdis x hy (J0J.2 (.inr ⟨i, hi, him, hx⟩))
    ·rw [J1K _ _ hjm] at hy
     have := q5 i j (by simpa using hi) (by simpa using hj) hij
     simp only [List.getElem_range, if_neg him, if_neg hjm] at this
     exact this x hx x hy rfl
  ·subst hab
   obtain ⟨k, hk, hx⟩ := List.mem_flatMap.1 hb
   by_cases hkm : k = m
   ·subst hkm; rw [J21] at hx; exact hdis a hx (J0J.2 (.inl ha))
   ·rw [J1K _ _ hkm] at hx
    exact q3 a ha a (List.mem_flatMap.2 ⟨k, hk, by rw [if_neg hkm]; exact hx⟩) rfl
 obtain ⟨us, hus, hul, hug⟩ := hT.out
 have hm : m < us.length := by omega
 obtain ⟨g, cur, rfl, hg, hb, e1, e2, e3, e4, hc⟩ := J1s hus hm
 have hgo : g ∈ pb (some ⟨g, 0, none⟩ : Option Addr) := by simp [pb]
 have hfz : w.frozen? ⟨g, m, none⟩ = false := by simp [World.frozen?, hg]
 have hblk : ∀ b, b ≠ g → (w.setCell ⟨g, m, none⟩ (.slice p2 n2 c2)).heap[b]? = w.heap[b]? := fun b hb => Below.heap_setCell w ⟨g, m, none⟩ _ b (by simpa using hb)
 refine ⟨w.setCell ⟨g, m, none⟩ (.slice p2 n2 c2), Stp.two hO ⟨rfl, rfl, rfl⟩ (by simp [World.setCell]) (fun b _ _ hn => hblk b fun hbg => hn ?_) ?_ (fun b hb => ?_) ?_, fun ht hd he hx hy => ?_⟩
 ·subst hbg; exact J0J.2 (.inl hgo)
 ·rw [fp_t2, J02]; exact hndN
 ·rw [fp_t2, J02] at hb
  rw [J16, J5r]
  rcases hup_fp b hb with hx | hx
  ·exact .inl hx
  ·exact .inr (.inl hx)
 ·refine ⟨⟨?_, .inr ⟨g, c, cur.setIfInBounds m (.slice p2 n2 c2), rfl, hb, heap_set w g m cur e _ hg, e1, e2, by simpa using e3, ?_⟩⟩, by rw [J02]; exact hT.len, by rw [J02]; exact hT.bd, fun q hq => ?_⟩
  ·have := hT.len; simp; omega
  ·rw [Array.toList_setIfInBounds, List.take_set, e4]
   apply List.ext_getElem (by simp; omega)
   intro k hk1 hk2
   have hk : k < xss.length := by simpa using hk2
   rw [List.getElem_set, J0i (hs := hup hs m (p2, c2)) (by simpa using hk)]
   unfold hcell
   by_cases hkm : m = k
   ·subst hkm
    rw [if_pos rfl, J21, ix_st _ (by omega) (by omega) (by omega), if_pos rfl, hn2]
   ·rw [if_neg hkm, J1K _ _ (by omega), ix_st _ (by omega) (by omega) (by omega), if_neg (by omega)]
    have := hug k hk (by omega)
    rw [List.getElem?_eq_getElem (by omega)] at this
    exact Option.some.inj this
  ·rw [J02] at hq
   rw [ix_st _ (by omega) (by omega) (by omega)]
   split
   ·rename_i hqm
    obtain rfl : q = m := by omega
    rw [J21]
    refine ⟨vs, ?_, hE.fl hf⟩
    show World.ownsRow _ n0 e' r.sz (.slice p2 ys.length c2) ys.length vs
    rw [← hn2]
    refine J2i hrow fun b hb => hblk b fun hbg => ?_
    rw [hbg] at hb
    exact hdis g hb (J0J.2 (.inl hgo))
   ·rename_i hqm
    have hqm' : q ≠ m := by omega
    rw [J1K _ _ hqm']
    refine (hT.inn q hq hqm').keep hf fun b hb => hblk b fun hbg => ?_
    rw [hbg] at hb
    exact (List.nodup_append.1 hndh).2.2 g hgo g (List.mem_flatMap.2 ⟨q, by simpa using hq, by rw [if_neg hqm']; exact hb⟩) rfl
 ·simp only [padd, Option.map_some, Addr.add_lit, Nat.zero_add, Nat.mul_one] at hx
  exact J3p ht hd he hx hy rfl hc hfz
def Rp.val : Rp Value where
  sz := 1
  pos := by decide
  R _ _ cs x := cs 0 = some x ∧ x.oneCell' = true
  ch _ h := h
  ext e h := by rw [e 0 (by decide)]; exact h
  one h i hi := ⟨_, (by obtain rfl : i = 0 := by omega
                        exact h.1), h.2⟩
theorem J3s {B : List Nat} {vs : List Value} (h1 : ∀ v ∈ vs, v.oneCell' = true) (hb : vs.length ≤ mx) : Els Rp.val B w vs vs :=
 ⟨by simp [Rp.val], hb, fun k hk => ⟨by simp [Rp.val, List.getElem?_eq_getElem hk], h1 _ (List.getElem_mem hk)⟩⟩
theorem J4n {B : List Nat} {us vs : List Value} (h : Els Rp.val B w us vs) : us = vs := by
 have hl : us.length = vs.length := by have := h.len; simpa [Rp.val] using this
 apply List.ext_getElem hl
 intro k h1 h2
 have := (h.at_ k h2).1
 simp only [Rp.val, Nat.mul_one, Nat.add_zero] at this
 rw [List.getElem?_eq_getElem h1] at this
 exact Option.some.inj this
theorem J2G (hs : Hd) (xss : List (List α)) : ∀ v ∈ hcells hs xss, v.oneCell' = true := by
 intro v hv
 obtain ⟨k, _, rfl⟩ := List.mem_map.1 hv
 rfl
def innE {α : Type} {r : Rp α} (hf : Fl r) (e' : TypeId) (hs : Hd) (xss : List (List α)) : Ent := .any {
 F := (List.range xss.length).flatMap fun k => pb (hs k).1
 H := fun n0 w => ∀ k : Nat, k < xss.length → Inn r e' n0 w (hs k) (ix xss (k : Int))
 lt := fun h b hb => by
  obtain ⟨k, hk, hb⟩ := List.mem_flatMap.1 hb
  obtain ⟨vs, h1, _⟩ := (h k (by simpa using hk)).ex
  exact J4l h1 b hb
 keep := fun h hk k hkl => (h k hkl).keep hf fun b hb => hk b (List.mem_flatMap.2 ⟨k, by simpa using hkl, hb⟩)
 base := fun hn h k hk => by obtain ⟨vs, h1, h2⟩ := (h k hk).ex; exact ⟨vs, J2H hn h1, h2⟩ }
theorem J5n : (innE hf e' hs xss).fp = (List.range xss.length).flatMap fun k => pb (hs k).1 := rfl
theorem J1g (e1 : Ent) (R : List Ent) : bl (e1 :: R) = e1.fp ++ bl R := by simp [bl]
theorem t2split {R : List Ent} (hO : Owns n0 w (t2 hf e e' p n c hs xss :: R) A) : Stp n0 A w (t2 hf e e' p n c hs xss :: R) w (.row e 1 p n c (hcells hs xss) :: innE hf e' hs xss :: R) := by
 have hb : bl (.row e 1 p n c (hcells hs xss) :: innE hf e' hs xss :: R) = bl (t2 hf e e' p n c hs xss :: R) := by
  simp [J1g, J16, J5n, fp_t2, t2fp]
 have hT := t2at 0 hO rfl
 refine Owns.re hO (by rw [hb]; exact hO.nd) (fun b hx => by rw [hb] at hx; exact hx) fun e1 he => ?_
 rcases List.mem_cons.1 he with rfl | he
 ·exact hT.out
 ·rcases List.mem_cons.1 he with rfl | he
  ·exact hT.inn
  ·exact hO.at_ _ (List.mem_cons_of_mem _ he)
theorem t2join {R : List Ent} (hO : Owns n0 w (.row e 1 p n c (hcells hs xss) :: innE hf e' hs xss :: R) A) (hl : n = xss.length) (hbd : xss.length ≤ mx) : Stp n0 A w (.row e 1 p n c (hcells hs xss) :: innE hf e' hs xss :: R) w (t2 hf e e' p n c hs xss :: R) := by
 have hb : bl (.row e 1 p n c (hcells hs xss) :: innE hf e' hs xss :: R) = bl (t2 hf e e' p n c hs xss :: R) := by
  simp [J1g, J16, J5n, fp_t2, t2fp]
 refine Owns.re hO (by rw [← hb]; exact hO.nd) (fun b hx => by rw [← hb] at hx; exact hx) fun e1 he => ?_
 rcases List.mem_cons.1 he with rfl | he
 ·exact ⟨hO.at_ _ List.mem_cons_self, hl, hbd, hO.at_ (innE hf e' hs xss) (by simp)⟩
 ·exact hO.at_ _ (by simp [he])
theorem J6S {R : List Ent} {p2 : Option Addr} {n2 c2 : Nat} {vs : List Value} {ys : List α} {B : List Nat} (hO : Owns n0 w (.row e' r.sz p2 n2 c2 vs :: R) A) (hE : Els r B w vs ys) : Stp n0 A w (.row e' r.sz p2 n2 c2 vs :: R) w (innE hf e' (fun _ => (p2, c2)) [ys] :: R) := by
 have hn := hE.n_eq (hO.at_ _ List.mem_cons_self)
 have hb : bl (innE hf e' (fun _ => (p2, c2)) [ys] :: R) = bl (.row e' r.sz p2 n2 c2 vs :: R) := by
  simp [J1g, J16, J5n, List.range_succ]
 refine Owns.re hO (by rw [hb]; exact hO.nd) (fun b hx => by rw [hb] at hx; exact hx) fun e1 he => ?_
 rcases List.mem_cons.1 he with rfl | he
 ·intro k hk
  have hk0 : k = 0 := by simpa using hk
  subst hk0
  refine ⟨vs, ?_, hE.fl hf⟩
  have := hO.at_ _ List.mem_cons_self
  show w.ownsRow n0 e' r.sz (.slice p2 ys.length c2) ys.length vs
  rw [← hn]; exact this
 ·exact hO.at_ _ (by simp [he])
theorem t2build1S (hf : Fl r) {by_ : Nat} {R : List Ent} {p2 : Option Addr} {n2 c2 : Nat} {vs : List Value} {ys : List α} {B : List Nat} (ht : P.underlying t = some (.slice e)) (he : ti P e = some (some (.slice none 0 0), 1, by_)) (hO : Owns n0 w (.row e' r.sz p2 n2 c2 vs :: R) A) (hE : Els r B w vs ys) :
  ∃ w' q, Stp n0 A w (.row e' r.sz p2 n2 c2 vs :: R) w' (t2 hf e e' q 1 1 (fun _ => (p2, c2)) [ys] :: R) ∧ Same w w' ∧ ∀ {σ : Nat → Value} {ps : List (Nat × Operand)} {ty : TypeId}, (ps.map fun p => (p.1, ev σ p.2)) = [(0, .slice p2 n2 c2)] → OpV P (.buildSlice t 1 ps.toArray) ty σ w (.slice q 1 1) w' := by
 have hn := hE.n_eq (hO.at_ _ List.mem_cons_self)
 obtain ⟨w', q, hst, _, hs, hop⟩ := J2O (r := Rp.val) (n := 1) (parts := [(0, .slice p2 n2 c2)]) (vs := [.slice p2 n2 c2]) (xs := [.slice p2 n2 c2]) rfl ht he hO (by decide) (by kernel_rfl) (J3s (by simp [Value.oneCell']) (by simp [mx])) rfl
 have hE' : Els r (bl (.row e 1 q 1 1 [.slice p2 n2 c2] :: .row e' r.sz p2 n2 c2 vs :: R) ++ A) w' vs ys := hE.fl hf
 have h1 := Stp.front 1 hst.own rfl
 have h2 := J6S (hf := hf) h1.own hE'
 have h3 := Stp.front 1 h2.own rfl
 have h4 := t2join (p := q) (n := 1) (c := 1) (hs := fun _ => (p2, c2)) (xss := [ys]) (hf := hf) (e := e) (e' := e') (R := R) (by
  have := h3.own
  rw [hn] at this
  exact this) rfl (by simp [mx])
 refine ⟨w', q, ?_, hs, hop⟩
 refine hst.trans (h1.trans (h2.trans (h3.trans ?_)))
 rw [hn]
 exact h4
def hcat (hs : Hd) (n : Nat) (hs' : Hd) : Hd := fun k => if k < n then hs k else hs' (k - n)
theorem J4u {α : Type} [Inhabited α] {xs ys : List α} {k : Nat} (h : xs.length ≤ k) : ix (xs ++ ys) (k : Int) = ix ys ((k - xs.length : Nat) : Int) := by
 simp only [ix, Int.toNat_natCast, List.getD_eq_getElem?_getD]
 rw [List.getElem?_append_right h]
theorem J4D {α : Type} [Inhabited α] {xs ys : List α} {k : Nat} (h : k < xs.length) : ix (xs ++ ys) (k : Int) = ix xs (k : Int) := J6i (by omega) (by omega)
theorem J4j (hs hs' : Hd) (xss yss : List (List α)) : hcells (hcat hs xss.length hs') (xss ++ yss) = hcells hs xss ++ hcells hs' yss := by
 apply List.ext_getElem (by simp)
 intro k h1 h2
 have hk : k < (xss ++ yss).length := by simpa using h1
 rw [J0i hk]
 by_cases hl : k < xss.length
 ·rw [List.getElem_append_left (by simpa using hl), J0i hl]
  unfold hcell hcat
  rw [if_pos hl, J4D hl]
 ·have h3 : k - xss.length < yss.length := by simp at hk; omega
  rw [List.getElem_append_right (by simp; omega)]
  simp only [J4v]
  rw [J0i h3]
  unfold hcell hcat
  rw [if_neg hl, J4u (by omega)]
theorem J70 {R : List Ent} {hs' : Hd} {yss : List (List α)} (hO : Owns n0 w (innE hf e' hs xss :: innE hf e' hs' yss :: R) A) : Stp n0 A w (innE hf e' hs xss :: innE hf e' hs' yss :: R) w (innE hf e' (hcat hs xss.length hs') (xss ++ yss) :: R) := by
 have hb : bl (innE hf e' (hcat hs xss.length hs') (xss ++ yss) :: R) = bl (innE hf e' hs xss :: innE hf e' hs' yss :: R) := by
  simp only [J1g, J5n, List.length_append, ← List.append_assoc]
  congr 1
  rw [List.range_add, List.flatMap_append]
  congr 1
  ·rw [List.flatMap_def, List.flatMap_def]
   congr 1
   refine List.map_congr_left fun k hk => ?_
   have hk' : k < xss.length := by simpa using hk
   simp [hcat, hk']
  ·rw [List.flatMap_map]
   congr 1
   funext k
   have h1 : ¬ xss.length + k < xss.length := by omega
   simp [hcat, h1]
 refine Owns.re hO (by rw [hb]; exact hO.nd) (fun b hx => by rw [hb] at hx; exact hx) fun e1 he => ?_
 rcases List.mem_cons.1 he with rfl | he
 ·intro k hk
  unfold hcat
  by_cases hkl : k < xss.length
  ·rw [if_pos hkl, J4D hkl]
   exact hO.at_ (innE hf e' hs xss) (by simp) k hkl
  ·rw [if_neg hkl, J4u (by omega)]
   exact hO.at_ (innE hf e' hs' yss) (by simp) (k - xss.length) (by simp at hk; omega)
 ·exact hO.at_ _ (by simp [he])
theorem t2cat {by_ : Nat} {R : List Ent} {q : Option Addr} {m d : Nat} {hs' : Hd} {yss : List (List α)} (ht : P.underlying t = some (.slice e)) (he : ti P e = some (some (.slice none 0 0), 1, by_)) (hO : Owns n0 w (t2 hf e e' q m d hs' yss :: t2 hf e e' p n c hs xss :: R) A)
  (hb0 : xss.length + yss.length ≤ 1099511627776) (hby : by_ ≤ 128) :
  ∃ w' p' c', Stp n0 A w (t2 hf e e' q m d hs' yss :: t2 hf e e' p n c hs xss :: R) w' (t2 hf e e' p' (n + m) c' (hcat hs xss.length hs') (xss ++ yss) :: R) ∧
   ∀ {σ : Nat → Value} {x y : Operand} {ty : TypeId}, ev σ x = .slice p n c → ev σ y = .slice q m d → OpV P (.call { callee := .builtin .append, args := #[x, y], argTypes := #[t, t] }) ty σ w (.slice p' (n + m) c') w' := by
 have hm := t2neq 0 hO rfl
 have hn := t2neq 1 hO rfl
 have hbx := t2bd 1 hO rfl
 have hby' := t2bd 0 hO rfl
 have s1 := t2split hO
 have hv1 : Els Rp.val (bl (.row e 1 q m d (hcells hs' yss) :: innE hf e' hs' yss :: t2 hf e e' p n c hs xss :: R) ++ A) w (hcells hs' yss) (hcells hs' yss) := J3s (J2G _ _) (by simpa using hby')
 obtain ⟨f1, f2, f3, f4⟩ := freeze 0 s1.own rfl hv1
 have s2 : Stp n0 A w (.row e 1 q m d (hcells hs' yss) :: innE hf e' hs' yss :: t2 hf e e' p n c hs xss :: R) w (innE hf e' hs' yss :: t2 hf e e' p n c hs xss :: R) := ⟨f1, Owns.J0W w _ 0⟩
 have s3 := Stp.front 1 s2.own rfl
 have s4 := t2split s3.own
 have i3 := (f3.ch s3.ch).ch s4.ch
 have hv2 : Els Rp.val (bl (.row e 1 p n c (hcells hs xss) :: innE hf e' hs xss :: [innE hf e' hs' yss, t2 hf e e' p n c hs xss].eraseIdx 1 ++ R) ++ A) w (hcells hs xss) (hcells hs xss) := J3s (J2G _ _) (by simpa using hbx)
 obtain ⟨w', p', c', vs', s5, hE5, hop⟩ := oapp (r := Rp.val) ht he rfl 0 s4.own rfl hv2 i3 f4 (by simpa using hb0) hby
 have hvs := J4n hE5
 subst hvs
 rw [← J4j] at s5
 have s6 := Stp.front 1 s5.own rfl
 have s7 := Stp.front 2 s6.own rfl
 have s8 : Stp n0 A w' (innE hf e' hs' yss :: innE hf e' hs xss :: .row e 1 p' (n + m) c' (hcells (hcat hs xss.length hs') (xss ++ yss)) :: R) w' (innE hf e' hs xss :: innE hf e' hs' yss :: .row e 1 p' (n + m) c' (hcells (hcat hs xss.length hs') (xss ++ yss)) :: R) := Stp.front 1 s7.own rfl
 have s9 := J70 s8.own
 have s10 := Stp.front 1 s9.own rfl
 have s11 := t2join (hf := hf) (e := e) (e' := e') (p := p') (n := n + m) (c := c') (hs := hcat hs xss.length hs') (xss := xss ++ yss) (R := R) s10.own (by simp; omega) (by simp; unfold mx; omega)
 exact ⟨w', p', c', s1.trans (s2.trans (s3.trans (s4.trans (s5.trans (s6.trans (s7.trans (s8.trans (s9.trans (s10.trans s11))))))))), hop⟩
theorem t2neqH {i : Nat} (j : Nat) (hO : Owns n0 w E A) (hj : E[j]? = some (t2h hf e e' p n c hs xss i)) : n = xss.length := by
 have h : T2H r e e' p n c hs xss i n0 w := hO.at_ _ (List.mem_of_getElem? hj)
 exact h.len
theorem t2someH {m : Nat} (j : Nat) (hO : Owns n0 w E A) (hj : E[j]? = some (t2h hf e e' p n c hs xss m)) {i : Int} (h0 : 0 ≤ i) (h1 : i < (xss.length : Int)) : p.isSome = true := by
 have h : T2H r e e' p n c hs xss m n0 w := hO.at_ _ (List.mem_of_getElem? hj)
 obtain ⟨vs, h2, _⟩ := h.out
 exact J3P h2 (by have := h.len; omega)
end
end Sg
