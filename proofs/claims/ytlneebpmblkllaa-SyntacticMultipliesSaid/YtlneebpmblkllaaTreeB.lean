/- -/
import Derived.Test.YtlneebpmblkllaaTail
namespace Sg
open Go Go.RowKit
set_option linter.unusedVariables false
set_option linter.unusedSimpArgs false
section
variable {P : Program} {σ : Nat → Value} {w : World} {t t' ty e e' : TypeId} {x y z : Operand} {A : List Nat} {E : List Ent} {n0 : Nat}
variable {α : Type} {r : Rp α} {hf : Fl r} {p : Option Addr} {n c : Nat} {hs : Hd} {xss : List (List α)}
theorem Stp.trans {w1 w2 : World} {E1 E2 : List Ent} (h : Stp n0 A w E w1 E1) (k : Stp n0 A w1 E1 w2 E2) : Stp n0 A w E w2 E2 := ⟨k.own, h.fr.trans k.fr⟩
theorem Owns.re {E' : List Ent} (h : Owns n0 w E A) (hn : (bl E').Nodup) (hs : ∀ b ∈ bl E', b ∈ bl E) (ha : ∀ e ∈ E', e.holds n0 w) : Stp n0 A w E w E' :=
 ⟨⟨h.le, h.bd, hn, fun b hb => h.out b (hs b hb), ha⟩, ⟨rfl, rfl, rfl, ⟨Nat.le_refl _, fun b _ hb => ⟨rfl, fun hx => hb (hs b hx)⟩⟩⟩⟩
def t2hf (p : Option Addr) (hs : Hd) (n i : Nat) : List Nat := pb p ++ (List.range n).flatMap fun k => if k = i then [] else pb (hs k).1
theorem J0Q {p : Option Addr} {hs : Hd} {n i b : Nat} : b ∈ t2hf p hs n i ↔ b ∈ pb p ∨ ∃ k, k < n ∧ k ≠ i ∧ b ∈ pb (hs k).1 := by
 simp only [t2hf, List.mem_append, List.mem_flatMap, List.mem_range]
 refine or_congr Iff.rfl ⟨fun ⟨k, hk, hb⟩ => ?_, fun ⟨k, hk, hki, hb⟩ => ⟨k, hk, by rw [if_neg hki]; exact hb⟩⟩
 split at hb
 ·simp at hb
 ·rename_i hki; exact ⟨k, hk, hki, hb⟩
structure T2H {α : Type} (r : Rp α) (e e' : TypeId) (p : Option Addr) (n c : Nat) (hs : Hd) (xss : List (List α)) (i : Nat) (n0 : Nat) (w : World) : Prop where
 out : ∃ vs, w.ownsRow n0 e 1 (.slice p n c) n vs ∧ vs.length = xss.length ∧ ∀ k, k < xss.length → k ≠ i → vs[k]? = some (hcell hs xss k)
 len : n = xss.length
 bd : xss.length ≤ mx
 inn : ∀ k : Nat, k < xss.length → k ≠ i → Inn r e' n0 w (hs k) (ix xss (k : Int))
def t2h {α : Type} {r : Rp α} (hf : Fl r) (e e' : TypeId) (p : Option Addr) (n c : Nat) (hs : Hd) (xss : List (List α)) (i : Nat) : Ent := .any {
 F := t2hf p hs xss.length i
 H := T2H r e e' p n c hs xss i
 lt := fun h b hb => by
  rcases J0Q.1 hb with hb | ⟨k, hk, hki, hb⟩
  ·obtain ⟨vs, h1, _⟩ := h.out; exact J64 h1 b hb
  ·obtain ⟨vs, h1, _⟩ := (h.inn k hk hki).ex
   exact J64 h1 b hb
 keep := fun h hk => ⟨by obtain ⟨vs, h1, h2⟩ := h.out; exact ⟨vs, J2M h1 fun b hb => hk b (J0Q.2 (.inl hb)), h2⟩, h.len, h.bd, fun k hkl hki => (h.inn k hkl hki).keep hf fun b hb => hk b (J0Q.2 (.inr ⟨k, hkl, hki, hb⟩))⟩
 base := fun hn h => ⟨by obtain ⟨vs, h1, h2⟩ := h.out; exact ⟨vs, J43 hn h1, h2⟩, h.len, h.bd, fun k hk hki => by obtain ⟨vs, h1, h2⟩ := (h.inn k hk hki).ex; exact ⟨vs, J43 hn h1, h2⟩⟩ }
theorem J6Q {i : Nat} : (t2h hf e e' p n c hs xss i).fp = t2hf p hs xss.length i := rfl
theorem J8I {i : Nat} (h : (t2fp p hs n).Nodup) : (t2hf p hs n i).Nodup := by
 obtain ⟨h1, h2, h3⟩ := List.nodup_append.1 h
 obtain ⟨h4, h5⟩ := List.pairwise_flatMap.1 h2
 refine List.nodup_append.2 ⟨h1, List.pairwise_flatMap.2 ⟨fun k hk => ?_, h5.imp_of_mem fun {a b} _ _ hab x hx y hy => ?_⟩, fun a ha b hb hab => ?_⟩
 ·split
  ·exact List.nodup_nil
  ·exact h4 k hk
 ·split at hx
  ·simp at hx
  ·split at hy
   ·simp at hy
   ·exact hab x hx y hy
 ·obtain ⟨k, hk, hx⟩ := List.mem_flatMap.1 hb
  split at hx
  ·simp at hx
  ·exact h3 a ha b (List.mem_flatMap.2 ⟨k, hk, hx⟩) hab
theorem t2take {R : List Ent} (hO : Owns n0 w (t2 hf e e' p n c hs xss :: R) A) {i : Int} (h0 : 0 ≤ i) (h1 : i < (xss.length : Int)) :
  ∃ vs, Stp n0 A w (t2 hf e e' p n c hs xss :: R) w (.row e' r.sz (hs i.toNat).1 (ix xss i).length (hs i.toNat).2 vs :: t2h hf e e' p n c hs xss i.toNat :: R) ∧ ∀ B, Els r B w vs (ix xss i) := by
 obtain ⟨m, rfl⟩ := Int.eq_ofNat_of_zero_le h0
 simp only [Int.ofNat_eq_natCast, Int.toNat_natCast] at *
 have hml : m < xss.length := by omega
 have hT := t2at 0 hO rfl
 have hnd := J5E 0 hO rfl
 obtain ⟨vs, h2, h3⟩ := (hT.inn m hml).ex
 refine ⟨vs, Owns.re hO ?_ ?_ ?_, fun B => h3.fl hf⟩
 ·have hall := hO.nd
  rw [show bl (t2 hf e e' p n c hs xss :: R) = t2fp p hs xss.length ++ bl R from by simp [bl, fp_t2]] at hall
  obtain ⟨_, n2, n3⟩ := List.nodup_append.1 hall
  rw [show bl (.row e' r.sz (hs m).1 (ix xss (m : Int)).length (hs m).2 vs :: t2h hf e e' p n c hs xss m :: R) = pb (hs m).1 ++ (t2hf p hs xss.length m ++ bl R) from by simp [bl, J25, J6Q]]
  refine List.nodup_append.2 ⟨by cases (hs m).1 <;> simp [pb], List.nodup_append.2 ⟨J8I hnd, n2, fun a ha b hb hab => ?_⟩, fun a ha b hb hab => ?_⟩
  ·refine n3 a ?_ b hb hab
   rcases J0Q.1 ha with hx | ⟨k, hk, _, hx⟩
   ·exact J0f.2 (.inl hx)
   ·exact J0f.2 (.inr ⟨k, hk, hx⟩)
  ·subst hab
   rcases List.mem_append.1 hb with hb | hb
   ·rcases J0Q.1 hb with hx | ⟨k, hk, hkm, hx⟩
    ·exact t2outd hnd hml a ha hx
    ·exact t2disj hnd hk hml hkm a hx ha
   ·exact n3 a (J0f.2 (.inr ⟨m, hml, ha⟩)) a hb rfl
 ·intro b hb
  simp only [bl, List.flatMap_cons, List.mem_append, J25, J6Q, fp_t2] at hb ⊢
  rcases hb with hb | hb | hb
  ·exact .inl (J0f.2 (.inr ⟨m, hml, hb⟩))
  ·rcases J0Q.1 hb with hx | ⟨k, hk, _, hx⟩
   ·exact .inl (J0f.2 (.inl hx))
   ·exact .inl (J0f.2 (.inr ⟨k, hk, hx⟩))
  ·exact .inr hb
 ·intro e1 he
  rcases List.mem_cons.1 he with rfl | he
  ·exact h2
  ·rcases List.mem_cons.1 he with rfl | he
   ·exact ⟨⟨_, hT.out, by simp, fun k hk _ => by rw [List.getElem?_eq_getElem (by simpa using hk), J15 hk]⟩, hT.len, hT.bd, fun k hk _ => hT.inn k hk⟩
   ·exact hO.at_ _ (List.mem_cons_of_mem _ he)
theorem t2fix {R : List Ent} {p2 : Option Addr} {n2 c2 m : Nat} {vs : List Value} {ys : List α} (hO : Owns n0 w (.row e' r.sz p2 n2 c2 vs :: t2h hf e e' p n c hs xss m :: R) A) {A' : List Nat} (hE : Els r A' w vs ys) {i : Int} (h0 : 0 ≤ i) (h1 : i < (xss.length : Int)) (hm : i.toNat = m) :
  ∃ w', Stp n0 A w (.row e' r.sz p2 n2 c2 vs :: t2h hf e e' p n c hs xss m :: R) w' (t2 hf e e' p n c (hup hs i.toNat (p2, c2)) (st xss i ys) :: R) ∧ ∀ {P : Program} {σ : Nat → Value} {t ty : TypeId} {x y : Operand} {d : TypeDesc} {zz : Option Value} {b : Nat}, P.underlying t = some d → scB d = true → ti P t = some (zz, 1, b) →
   ev σ x = .pointer (padd p (i.toNat * 1)) → ev σ y = .slice p2 n2 c2 → OpV P (.store t x y) ty σ w undef w' := by
 subst hm
 obtain ⟨m, rfl⟩ := Int.eq_ofNat_of_zero_le h0
 simp only [Int.ofNat_eq_natCast, Int.toNat_natCast] at *
 have hml : m < xss.length := by omega
 have hT : T2H r e e' p n c hs xss m n0 w := hO.at_ (t2h hf e e' p n c hs xss m) (by simp)
 have hrow := hO.at_ _ (List.mem_cons_self)
 have hn2 := hE.n_eq hrow
 have hnd := hO.nd
 rw [show bl (.row e' r.sz p2 n2 c2 vs :: t2h hf e e' p n c hs xss m :: R) = pb p2 ++ (t2hf p hs xss.length m ++ bl R) from by simp [bl, J25, J6Q]] at hnd
 obtain ⟨hnd0, n2', n3⟩ := List.nodup_append.1 hnd
 have hndh := (List.nodup_append.1 n2').1
 have hdis : ∀ b ∈ pb p2, b ∉ t2hf p hs xss.length m := fun b hb hx => n3 b hb b (List.mem_append_left _ hx) rfl
 have hup_fp : ∀ b, b ∈ t2fp p (hup hs m (p2, c2)) xss.length → b ∈ pb p2 ∨ b ∈ t2hf p hs xss.length m := fun b hb => by
  rcases J0f.1 hb with hx | ⟨k, hk, hx⟩
  ·exact .inr (J0Q.2 (.inl hx))
  ·by_cases hkm : k = m
   ·subst hkm; rw [J2o] at hx; exact .inl hx
   ·rw [J1R _ _ hkm] at hx; exact .inr (J0Q.2 (.inr ⟨k, hk, hkm, hx⟩))
 have hndN : (t2fp p (hup hs m (p2, c2)) xss.length).Nodup := by
  obtain ⟨q1, q2, q3⟩ := List.nodup_append.1 hndh
  obtain ⟨q4, q5⟩ := List.pairwise_flatMap.1 q2
  refine List.nodup_append.2 ⟨q1, List.pairwise_flatMap.2 ⟨fun k hk => ?_, ?_⟩, fun a ha b hb hab => ?_⟩
  ·by_cases hkm : k = m
   ·subst hkm; rw [J2o]; exact hnd0
   ·rw [J1R _ _ hkm]; have := q4 k hk; rwa [if_neg hkm] at this
  ·rw [List.pairwise_iff_getElem] at q5 ⊢
   intro i j hi hj hij x hx y hy hxy
   subst hxy
   simp only [List.length_range] at hi hj
   simp only [List.getElem_range] at hx hy
   by_cases him : i = m
   ·subst him
    rw [J2o] at hx
    rw [J1R _ _ (by omega)] at hy
    exact hdis x hx (J0Q.2 (.inr ⟨j, hj, by omega, hy⟩))
   ·rw [J1R _ _ him] at hx
    by_cases hjm : j = m
    ·subst hjm
     rw [J2o] at hy
     exact hdis x hy (J0Q.2 (.inr ⟨i, hi, him, hx⟩))
    ·rw [J1R _ _ hjm] at hy
     have := q5 i j (by simpa using hi) (by simpa using hj) hij
     simp only [List.getElem_range, if_neg him, if_neg hjm] at this
     exact this x hx x hy rfl
  ·subst hab
   obtain ⟨k, hk, hx⟩ := List.mem_flatMap.1 hb
   by_cases hkm : k = m
   ·subst hkm; rw [J2o] at hx; exact hdis a hx (J0Q.2 (.inl ha))
   ·rw [J1R _ _ hkm] at hx
    exact q3 a ha a (List.mem_flatMap.2 ⟨k, hk, by rw [if_neg hkm]; exact hx⟩) rfl
 obtain ⟨us, hus, hul, hug⟩ := hT.out
 have hm : m < us.length := by omega
 obtain ⟨g, cur, rfl, hg, hb, e1, e2, e3, e4, hc⟩ := J1y hus hm
 have hgo : g ∈ pb (some ⟨g, 0, none⟩ : Option Addr) := by simp [pb]
 have hfz : w.frozen? ⟨g, m, none⟩ = false := by simp [World.frozen?, hg]
 have hblk : ∀ b, b ≠ g → (w.setCell ⟨g, m, none⟩ (.slice p2 n2 c2)).heap[b]? = w.heap[b]? := fun b hb => Below.heap_setCell w ⟨g, m, none⟩ _ b (by simpa using hb)
 refine ⟨w.setCell ⟨g, m, none⟩ (.slice p2 n2 c2), Stp.two hO ⟨rfl, rfl, rfl⟩ (by simp [World.setCell]) (fun b _ _ hn => hblk b fun hbg => hn ?_) ?_ (fun b hb => ?_) ?_, fun ht hd he hx hy => ?_⟩
 ·subst hbg; exact J0Q.2 (.inl hgo)
 ·rw [fp_t2, J03]; exact hndN
 ·rw [fp_t2, J03] at hb
  rw [J25, J6Q]
  rcases hup_fp b hb with hx | hx
  ·exact .inl hx
  ·exact .inr (.inl hx)
 ·refine ⟨⟨?_, .inr ⟨g, c, cur.setIfInBounds m (.slice p2 n2 c2), rfl, hb, heap_set w g m cur e _ hg, e1, e2, by simpa using e3, ?_⟩⟩, by rw [J03]; exact hT.len, by rw [J03]; exact hT.bd, fun q hq => ?_⟩
  ·have := hT.len; simp; omega
  ·rw [Array.toList_setIfInBounds, List.take_set, e4]
   apply List.ext_getElem (by simp; omega)
   intro k hk1 hk2
   have hk : k < xss.length := by simpa using hk2
   rw [List.getElem_set, J15 (hs := hup hs m (p2, c2)) (by simpa using hk)]
   unfold hcell
   by_cases hkm : m = k
   ·subst hkm
    rw [if_pos rfl, J2o, ix_st _ (by omega) (by omega) (by omega), if_pos rfl, hn2]
   ·rw [if_neg hkm, J1R _ _ (by omega), ix_st _ (by omega) (by omega) (by omega), if_neg (by omega)]
    have := hug k hk (by omega)
    rw [List.getElem?_eq_getElem (by omega)] at this
    exact Option.some.inj this
  ·rw [J03] at hq
   rw [ix_st _ (by omega) (by omega) (by omega)]
   split
   ·rename_i hqm
    obtain rfl : q = m := by omega
    rw [J2o]
    refine ⟨vs, ?_, hE.fl hf⟩
    show World.ownsRow _ n0 e' r.sz (.slice p2 ys.length c2) ys.length vs
    rw [← hn2]
    refine J2M hrow fun b hb => hblk b fun hbg => ?_
    rw [hbg] at hb
    exact hdis g hb (J0Q.2 (.inl hgo))
   ·rename_i hqm
    have hqm' : q ≠ m := by omega
    rw [J1R _ _ hqm']
    refine (hT.inn q hq hqm').keep hf fun b hb => hblk b fun hbg => ?_
    rw [hbg] at hb
    exact (List.nodup_append.1 hndh).2.2 g hgo g (List.mem_flatMap.2 ⟨q, by simpa using hq, by rw [if_neg hqm']; exact hb⟩) rfl
 ·simp only [padd, Option.map_some, Addr.add_lit, Nat.zero_add, Nat.mul_one] at hx
  exact J4d ht hd he hx hy rfl hc hfz
def Rp.val : Rp Value where
  sz := 1
  pos := by decide
  R _ _ cs x := cs 0 = some x ∧ x.oneCell' = true
  ch _ h := h
  ext e h := by rw [e 0 (by decide)]; exact h
  one h i hi := ⟨_, (by obtain rfl : i = 0 := by omega
                        exact h.1), h.2⟩
theorem t2neqH {i : Nat} (j : Nat) (hO : Owns n0 w E A) (hj : E[j]? = some (t2h hf e e' p n c hs xss i)) : n = xss.length := by
 have h : T2H r e e' p n c hs xss i n0 w := hO.at_ _ (List.mem_of_getElem? hj)
 exact h.len
theorem t2someH {m : Nat} (j : Nat) (hO : Owns n0 w E A) (hj : E[j]? = some (t2h hf e e' p n c hs xss m)) {i : Int} (h0 : 0 ≤ i) (h1 : i < (xss.length : Int)) : p.isSome = true := by
 have h : T2H r e e' p n c hs xss m n0 w := hO.at_ _ (List.mem_of_getElem? hj)
 obtain ⟨vs, h2, _⟩ := h.out
 exact J4R h2 (by have := h.len; omega)
end
end Sg
