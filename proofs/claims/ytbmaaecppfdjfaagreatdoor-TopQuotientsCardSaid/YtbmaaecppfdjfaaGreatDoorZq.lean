/- -/
import Derived.Test.YtbmaaecppfdjfaaGreatDoorZp
import Derived.Test.YtbmaaecppfdjfaaGreatDoorEv
set_option linter.unusedVariables false
set_option linter.unusedSimpArgs false
namespace Sg
open Go
theorem J5t {d : DFA} {m : Int} {K : Bool → Prop} (h1 : Da d → (d.Final.length : Int) ≤ m → K true) (h0 : K false) : J4u d m K := by
 unfold J4u
 refine fun _ => ?_
 split
 ·rename_i hm
  split
  ·refine JbT ?_
   split
   ·rename_i h; exact h1 (J2X.1 (daC0.1 h)) hm
   ·exact h0
  ·exact h0
 ·exact h0
end Sg
namespace Sg
open Go
section
variable {gens : List (List Int)} {mon : Bool} {r : run}
end
end Sg
namespace Sg
open Go
section
variable {d m : DFA} {k : Nat}
end
end Sg
namespace Sg
open Go
section
variable {d m : DFA} {k : Nat} {W : List Str} {s : Syntactic}
end
end Sg
namespace Sg
section
variable {α : Type} {m : α → α → α} {e a b : α}
end
end Sg
namespace Sg
open Go
section
variable {k : Nat} {φ : Str → Bool} {s : Syntactic}
end
end Sg
namespace Sg
open Go
end Sg
namespace Sg
open Go
section
variable {d : DFA} {k : Nat}
end
end Sg
namespace Sg
open Go
section
variable {f : List Int}
variable {a p : Nat}
section
variable {r : run} (hf : VF f = true) (h : IP f a p) (hF : Fin [f] false r)
include hf h hF
end
end
end Sg
namespace Sg
open Go
section
variable {f g : List Int}
end
section
variable {gens : List (List Int)} {mon : Bool} {r : run} (hg : GV gens = true) (h : Fin gens mon r)
include hg h
end
end Sg
namespace Sg
open Go
section
variable {t : List (List Int)} (hv : VT t = true) (h1 : ∀ x : Nat, x < t.length → mu t 0 x = x ∧ mu t x 0 = x)
end
section
variable {k : Nat} {d m : DFA} {W : List Str} {s : Syntactic}
end
end Sg
namespace Sg
open Go
structure HomT (t u : List (List Int)) (f : List Int) : Prop where
 fl : f.length = t.length
 fr : ∀ x : Nat, x < t.length → 0 ≤ ix f (x : Int) ∧ ix f (x : Int) < u.length
 mul : ∀ x y : Nat, x < t.length → y < t.length → ix f (mu t x y) = mu u (ix f (x : Int)) (ix f (y : Int))
def GenR (t : List (List Int)) (gens : List Int) : Prop := ∀ S : Int → Prop, (∀ g ∈ gens, S g) → (∀ x g, S x → g ∈ gens → S (mu t x g)) → ∀ x : Nat, x < t.length → S x
def OntoT (u : List (List Int)) (f : List Int) : Prop := ∀ y : Nat, y < u.length → (y : Int) ∈ f
end Sg
namespace Sg
open Go
theorem J6x {l : List Int} {n : Nat} {K : Bool → Prop} (h : K (inB n l)) : J33 l n K := by
 unfold J33
 refine fun _ => LoopWP.scan l.length (fun j => 0 ≤ ix l (j : Int) ∧ ix l (j : Int) < n) ?_
 intro k X hk hP hX
 show J79 l n K X k
 unfold J79
 split
 ·refine ⟨ω, ω, ?_⟩
  split
  ·rename_i h1
   rw [J85 fun h2 => by have := h2 k ω; omega] at h
   exact h
  ·split
   ·rename_i h1
    rw [J85 fun h2 => by have := h2 k ω; omega] at h
    exact h
   ·exact hX ω ⟨ω, ω⟩
 ·rw [J2g.2 fun j hj => hP j ω] at h
  exact h
section
variable {t u : List (List Int)} {f F D : List Int}
structure EX (t : List (List Int)) (f F D : List Int) : Prop where
 fl : F.length = t.length
 nf : ∀ x : Nat, x < t.length → 0 ≤ ix f (x : Int)
 or_ : ∀ x : Nat, x < t.length → ix F (x : Int) = -1 ∨ ix F (x : Int) = ix f (x : Int)
 mem : ∀ x : Nat, x < t.length → ((x : Int) ∈ D ↔ 0 ≤ ix F (x : Int))
 rg : ∀ v ∈ D, 0 ≤ v ∧ v < t.length
 nd : D.Nodup
theorem EX.le (h : EX t f F D) : D.length ≤ t.length := by
 have := J3y h.nd (l' := iota t.length) fun v hv => J6a.2 (h.rg v hv)
 rwa [J0T] at this
theorem EX.new (h : EX t f F D) {x : Int} (h0 : 0 ≤ x) (h1 : x < t.length) (hn : ix F x < 0) : EX t f (st F x (ix f x)) (D ++ [x]) := by
 obtain ⟨a, rfl⟩ := Int.eq_ofNat_of_zero_le h0
 have fl := h.fl
 have hf := h.nf a ω
 have at_ : ∀ y : Nat, y < t.length → ix (st F (a : Int) (ix f (a : Int))) (y : Int) = if (y : Int) = a then ix f (a : Int) else ix F (y : Int) := fun y hy => ix_st _ ω ω ω
 have hd : ¬ (a : Int) ∈ D := fun hm => by have := (h.mem a ω).1 hm; omega
 refine ⟨by simp [fl], h.nf, fun y hy => ?_, fun y hy => ?_, fun v hv => ?_, ?_⟩
 ·rw [at_ y hy]
  split
  ·rename_i e; rw [e]; exact .inr rfl
  ·exact h.or_ y hy
 ·rw [at_ y hy]
  split
  ·rename_i e; rw [e]; simp [hf]
  ·rename_i e
   rw [← h.mem y hy]; simp [e]
 ·rcases List.mem_append.1 hv with hv | hv
  ·exact h.rg v hv
  ·simp only [List.mem_cons, List.not_mem_nil, or_false] at hv; subst hv; exact ⟨h0, h1⟩
 ·refine List.nodup_append.2 ⟨h.nd, by simp, fun a1 ha b hb e => ?_⟩
  simp only [List.mem_cons, List.not_mem_nil, or_false] at hb
  subst hb; subst e; exact hd ha
theorem EX.old (h : EX t f F D) {x : Int} (h0 : 0 ≤ x) (h1 : x < t.length) (hn : ¬ ix F x < 0) : ix F x = ix f x ∧ x ∈ D := by
 obtain ⟨a, rfl⟩ := Int.eq_ofNat_of_zero_le h0
 exact ⟨by have := h.or_ a ω; omega, (h.mem a ω).2 ω⟩
theorem EX.at_ (h : EX t f F D) {x : Int} (hx : x ∈ D) : ix F x = ix f x := by
 obtain ⟨h0, h1⟩ := h.rg x hx
 obtain ⟨a, rfl⟩ := Int.eq_ofNat_of_zero_le h0
 have := (h.mem a ω).1 hx
 have := h.or_ a ω
 omega
theorem Jbj (T : Tb t t.length) (U : Tb u u.length) (H : HomT t u f) {G D0 : List Int} {k : Nat} (hk : k < D0.length) (hE : EX t f F D0) (hG : ∀ g ∈ G, g ∈ D0) (gl : G.length ≤ t.length) {X3 : Nat → List Int → List Int → Prop} {K : List Int → Bool → Prop}
  (h : ∀ F' D', EX t f F' D' → (∃ E, D' = D0 ++ E) → (∀ g ∈ G, mu t (ix D0 (k : Int)) g ∈ D') → X3 (k + 1) D' F') :
  LoopWP (S := Nat × List Int × List Int) (fun s X => J4y t u G k D0 X3 K (fun a b c => X (a, b, c)) s.1 s.2.1 s.2.2) (0, D0, F) := by
 have n4 := T.n4
 have hx := hE.rg _ (J0P (xs := D0) (i := (k : Int)) ω ω)
 have rx := T.row _ hx.1 hx.2
 have tk : G.take ((G.length : Int)).toNat = G := by simp
 refine LoopWP.fold G.length (fun j (s : List Int × List Int) => EX t f s.2 s.1 ∧ (∃ E, s.1 = D0 ++ E) ∧ ∀ i : Nat, i < j → mu t (ix D0 (k : Int)) (ix G (i : Int)) ∈ s.1) ⟨hE, ⟨[], by simp⟩, fun i hi => absurd hi (Nat.not_lt_zero _)⟩ ?_
 rintro j ⟨D, F⟩ X hj ⟨hE', ⟨E, eE⟩, hI⟩ hX
 show J4y t u G k D0 X3 K _ j D F
 unfold J4y
 try dsimp only at hE' eE hI hX
 rw [tk]
 split
 ·rename_i hlt
  have hg := hG _ (J0P (xs := G) (i := (j : Int)) ω hlt)
  have gr := hE.rg _ hg
  have sub : ∀ v ∈ D0, v ∈ D := fun v hv => by rw [eE]; exact List.mem_append_left _ hv
  have fx := hE'.at_ (sub _ (J0P (xs := D0) (i := (k : Int)) ω ω))
  have fg := hE'.at_ (sub _ hg)
  have fl := hE'.fl
  have dl := hE'.le
  obtain ⟨a, ea⟩ := Int.eq_ofNat_of_zero_le hx.1
  obtain ⟨b, eb⟩ := Int.eq_ofNat_of_zero_le gr.1
  have fa := H.fr a ω
  have fb := H.fr b ω
  have hm := T.mu hx.1 hx.2 gr.1 gr.2
  have hmul := H.mul a b ω ω
  have ru := U.row (ix f (a : Int)) fa.1 fa.2
  rw [← ea] at fa hmul ru
  rw [← eb] at fb hmul
  unfold mu at hmul hm
  have nxt : ∀ D' F', EX t f F' D' → (∃ E, D' = D0 ++ E) → (∀ v ∈ D, v ∈ D') → ix (ix t (ix D0 (k : Int))) (ix G (j : Int)) ∈ D' → X (j + 1, D', F') := fun D' F' e1 e2 e3 e4 => hX _ ω ⟨e1, e2, upS (fun i hi => e3 _ (hI i hi)) e4⟩
  refine ⟨ω, hlt, hx.1, hx.2, gr.1, ω, hx.1, ω, by rw [fx]; exact fa.1, by rw [fx]; exact fa.2, gr.1, ω, by rw [fg]; exact fb.1, by rw [fx, fg]; omega, hm.1, ω, ?_⟩
  rw [fx, fg, ← hmul]
  split
  ·rename_i hneg
   have e := hE'.new hm.1 hm.2 hneg
   refine ⟨hm.1, ω, by simp; omega, hm.1, by rw [J04]; omega, ?_⟩
   rw [if_pos (by rw [e.at_ (by simp)])]
   exact ⟨⟨ω, ω⟩, nxt _ _ e ⟨E ++ [_], by rw [eE, List.append_assoc]⟩ (fun v hv => List.mem_append_left _ hv) (by simp)⟩
  ·rename_i hneg
   obtain ⟨e1, e2⟩ := hE'.old hm.1 hm.2 hneg
   refine ⟨hm.1, ω, ?_⟩
   rw [if_pos e1]
   exact ⟨⟨ω, ω⟩, nxt _ _ hE' ⟨E, eE⟩ (fun v hv => hv) e2⟩
 ·have dl := hE.le
  refine ⟨⟨ω, ω⟩, h _ _ hE' ⟨E, eE⟩ fun g hg => ?_⟩
  obtain ⟨i, hi, rfl⟩ := J0h.1 hg
  exact hI i ω
theorem Jbi (T : Tb t t.length) (U : Tb u u.length) (H : HomT t u f) {gens G : List Int} (hgr : GenR t gens) (hgG : ∀ g ∈ gens, g ∈ G) (hE : EX t f F G) {K : List Int → Bool → Prop} (h : K f true) :
  LoopWP (S := Nat × List Int × List Int) (fun s X => J6E t u G K (fun a b c => X (a, b, c)) s.1 s.2.1 s.2.2) (0, G, F) := by
 refine LoopWP.to t.length (fun s => s.1) (fun s => s.1 ≤ s.2.1.length ∧ EX t f s.2.2 s.2.1 ∧ (∀ g ∈ G, g ∈ s.2.1) ∧ ∀ i : Nat, i < s.1 → ∀ g ∈ G, mu t (ix s.2.1 (i : Int)) g ∈ s.2.1) ⟨Nat.zero_le _, hE, fun g hg => hg, fun i hi => absurd hi (Nat.not_lt_zero _)⟩ (fun s hs => by have := hs.2.1.le; have := hs.1; omega) ?_
 rintro ⟨k, D, F⟩ X ⟨hk, hE', hG, hI⟩ hX
 try dsimp only at hk hE' hG hI ⊢
 unfold J6E
 split
 ·rename_i hlt
  refine ⟨ω, hlt, Jbj T U H ω hE' hG hE.le fun F' D' e1 e2 e3 => ?_⟩
  obtain ⟨E, rfl⟩ := e2
  refine hX (k + 1, _, _) ⟨by simp; omega, e1, fun g hg => List.mem_append_left _ (hG g hg), fun i hi g hg => ?_⟩ rfl
  have hi' : i < D.length := by dsimp only at hi; omega
  have ei : ix (D ++ E) (i : Int) = ix D (i : Int) := Jen ω
  dsimp only
  rw [ei]
  by_cases e : i = k
  ·subst e; exact e3 g hg
  ·exact List.mem_append_left _ (hI i (by dsimp only at hi; omega) g hg)
 ·have hkl : k = D.length := ω
  have all := hgr (fun x => x ∈ D) (fun g hg => hG g (hgG g hg)) fun x g hx hg => by
   obtain ⟨i, hi, rfl⟩ := J0h.1 hx
   exact hI i ω g (hgG g hg)
  have nd : (iota t.length).Nodup := by
   rw [iota, List.nodup_iff_pairwise_ne, List.pairwise_map]
   exact List.pairwise_lt_range.imp fun h => by omega
  have l1 := J3y nd (l' := D) fun v hv => by
   have hv := J6a.1 hv
   obtain ⟨y, rfl⟩ := Int.eq_ofNat_of_zero_le hv.1
   exact all y ω
  rw [J0T] at l1
  rw [if_neg ω]
  have : F = f := J0e (by rw [hE'.fl, H.fl]) fun j hj => hE'.at_ (all j (by rw [← hE'.fl]; exact hj))
  rw [this]; exact h
theorem J9i (ht : VT t = true) (hu : VT u = true) (H : HomT t u f) {gens im : List Int} (hl : gens.length = im.length) (hg : inB t.length gens = true) (hi : inB u.length im = true)
  (hf : ∀ i : Nat, i < gens.length → ix f (ix gens (i : Int)) = ix im (i : Int)) (hgr : GenR t gens) {K : List Int → Bool → Prop} (h : K f true) : J44 t gens u im K := by
 have T := SH.tb (VT.sh ht)
 have U := SH.tb (VT.sh hu)
 have n4 := T.n4
 unfold J44
 refine fun _ _ => ?_
 rw [if_pos ω]
 refine J0F ?_
 rw [if_pos (vaC0.2 ht)]
 refine J0F ?_
 rw [if_pos (vaC0.2 hu)]
 refine fun _ => J6x ?_
 rw [if_pos hg]
 refine fun _ => J6x ?_
 rw [if_pos hi]
 refine ⟨ω, ω, ?_⟩
 refine LoopWP.fold t.length (fun k l => l.length = t.length ∧ ∀ j : Nat, j < k → ix l (j : Int) = -1) ⟨by simp, fun j hj => absurd hj (Nat.not_lt_zero _)⟩ ?_
 rintro k l X hk ⟨ll, hI⟩ hX
 show J72 t gens u im K _ k l
 unfold J72
 split
 ·rename_i hlt
  rw [List.length_replicate] at hlt
  refine ⟨ω, ω, ⟨ω, ω⟩, hX _ ω ⟨by simp [ll], upS (fun j hj => ?_) ?_⟩⟩
  ·rw [ix_st _ ω ω ω, if_neg ω]; exact hI j hj
  ·rw [ix_st _ ω ω ω, if_pos rfl]
 ·rename_i hlt
  rw [List.length_replicate] at hlt
  have hE : EX t f l [] := ⟨ll, fun x hx => (H.fr x hx).1, fun x hx => .inl (hI x ω), fun x hx => by rw [hI x ω]; simp, fun v hv => (nomatch hv), List.nodup_nil⟩
  refine LoopWP.fold gens.length (fun k (s : List Int × List Int) => EX t f s.2 s.1 ∧ ∀ i : Nat, i < k → ix gens (i : Int) ∈ s.1) ⟨hE, fun i hi => absurd hi (Nat.not_lt_zero _)⟩ ?_
  rintro k ⟨D, F⟩ X2 hk2 ⟨hE, hD⟩ hX2
  show J6s t gens u im K _ k D F
  unfold J6s
  try dsimp only at hE hD
  split
  ·rename_i hlt2
   have gr := J2g.1 hg k ω
   have fl := hE.fl
   have dl := hE.le
   have hfk := hf k ω
   refine ⟨ω, hlt2, ω, ω, gr.1, ω, ?_⟩
   rw [← hfk]
   split
   ·rename_i hneg
    have e := hE.new gr.1 gr.2 hneg
    refine ⟨gr.1, ω, by simp; omega, gr.1, by rw [J04]; omega, ?_⟩
    rw [if_pos (by rw [e.at_ (by simp)])]
    exact hX2 _ ω ⟨e, upS (fun i hi => List.mem_append_left _ (hD i hi)) (by simp)⟩
   ·rename_i hneg
    obtain ⟨e1, e2⟩ := hE.old gr.1 gr.2 hneg
    refine ⟨gr.1, ω, ?_⟩
    rw [if_pos e1]
    exact hX2 _ ω ⟨hE, upS hD e2⟩
  ·exact ⟨ω, ω, Jbi T U H hgr (fun g hg => by
    obtain ⟨i, hi, rfl⟩ := J0h.1 hg
    exact hD i ω) hE h⟩
theorem Jd9 (T : Tb t t.length) (U : Tb u u.length) (H : HomT t u f) {K : Bool → Prop} (h : K true) : J6n t u f K := by
 unfold J6n
 have fl := H.fl
 refine fun _ _ => ?_
 rw [if_pos ω]
 refine fun _ => J6x ?_
 rw [if_pos (J2g.2 fun j hj => H.fr j ω)]
 refine LoopWP.scan t.length (fun _ => True) ?_
 intro k X hk _ hX
 show J7O t u f K X k
 unfold J7O
 split
 ·have r := T.row (k : Int) ω ω
  refine ⟨ω, ω, fun _ => LoopWP.scan t.length (fun _ => True) ?_⟩
  intro j X2 hj _ hX2
  show J7R t u f k X K X2 j
  unfold J7R
  rw [r]
  split
  ·have m := T.mu (x := (k : Int)) (y := (j : Int)) ω ω ω ω
   have fk := H.fr k ω
   have fj := H.fr j ω
   have ru := U.row _ fk.1 fk.2
   have e := H.mul k j ω ω
   unfold mu at m e
   refine ⟨ω, ω, m.1, ω, ω, ω, fk.1, fk.2, ω, ω, fj.1, ω, ?_⟩
   rw [if_pos e]
   exact hX2 ω trivial
  ·exact hX ω trivial
 ·exact h
theorem Jal (ht : VT t = true) (hu : VT u = true) (H : HomT t u f) (on : OntoT u f) {K : List Int → Prop} (h : ∀ l : List Int, l.length = u.length → K l) : J50 t u f K := by
 have T := SH.tb (VT.sh ht)
 have U := SH.tb (VT.sh hu)
 have n4 := T.n4
 have u4 := U.n4
 have fl := H.fl
 unfold J50 J8D
 refine fun _ _ => ?_
 rw [if_pos ω]
 refine J0F ?_
 rw [if_pos (vaC0.2 ht)]
 refine J0F ?_
 rw [if_pos (vaC0.2 hu)]
 refine Jd9 T U H ((if_pos rfl).mpr ?_)
 refine fun _ => ⟨ω, ω, fun _ => ?_⟩
 refine LoopWP.fold f.length (fun k l => l.length = u.length ∧ ∀ i : Nat, i < k → ix l (ix f (i : Int)) = true) ⟨by simp, fun j hj => absurd hj (Nat.not_lt_zero _)⟩ ?_
 rintro k l X hk ⟨ll, hI⟩ hX
 show J7J f K _ k l
 unfold J7J
 split
 ·have fk := H.fr k ω
  refine ⟨ω, ω, fk.1, ω, hX _ ω ⟨by simp [ll], upS (fun j hj => ?_) ?_⟩⟩
  ·have fj := H.fr j ω
   rw [ix_st _ fk.1 ω fj.1]
   split
   ·rfl
   ·exact hI j hj
  ·rw [ix_st _ fk.1 ω fk.1, if_pos rfl]
 ·have all : ∀ y : Nat, y < u.length → ix l (y : Int) = true := fun y hy => by
   obtain ⟨i, hi, e⟩ := J0h.1 (on y hy)
   rw [← e]; exact hI i ω
  refine LoopWP.fold u.length (fun k (s : List Int) => s.length = k) rfl ?_
  rintro y s X2 hy hs hX2
  show J7P l K _ y s
  unfold J7P
  split
  ·refine ⟨ω, ω, ?_⟩
   rw [if_pos (all y ω)]
   exact ⟨by simp; omega, hX2 _ ω (by simp [hs])⟩
  ·exact h _ ω
end
end Sg
namespace Sg
open Go
section
variable {k : Nat} {φ φ' : Str → Bool} {s a : Syntactic}
def hq (s a : Syntactic) (i : Int) : Int := vlS a (ix s.Words i)
structure HomQ (s a : Syntactic) : Prop where
 lt : ∀ i : Nat, i < s.Words.length → ∃ j : Nat, hq s a i = j ∧ j < a.Words.length
 mul : ∀ i j : Nat, i < s.Words.length → j < s.Words.length → hq s a (ix (ix s.Table i) j) = ix (ix a.Table (hq s a i)) (hq s a j)
 one : hq s a 0 = 0
 on : ∀ j : Nat, j < a.Words.length → ∃ i : Nat, i < s.Words.length ∧ hq s a i = j
theorem Jfs (hk : k < 159) (o : SynOf k φ s) (o' : SynOf k φ' a) (hc : ∀ u v, LW k u → LW k v → syn φ k u = syn φ k v → syn φ' k u = syn φ' k v) {w : Str} (hw : LW k w) : hq s a (vlS s w) = vlS a w := by
 have R := J4s φ k
 have L := J4I φ k
 obtain ⟨i, ei, hi, e⟩ := o.mon.val hk R L hw
 unfold hq
 rw [ei]
 have lw := o.mon.cl.lw hi
 exact (o'.mon.JbU hk (J4s φ' k) (J4I φ' k) lw hw).2 (hc _ _ lw hw e)
theorem homQ (hk : k < 159) (o : SynOf k φ s) (o' : SynOf k φ' a) (hc : ∀ u v, LW k u → LW k v → syn φ k u = syn φ k v → syn φ' k u = syn φ' k v) : HomQ s a := by
 have R := J4s φ k
 have L := J4I φ k
 have R' := J4s φ' k
 have L' := J4I φ' k
 refine ⟨fun i hi => ?_, fun i j hi hj => ?_, ?_, fun j hj => ?_⟩
 ·obtain ⟨j, ej, hj, _⟩ := o'.mon.val hk R' L' (o.mon.cl.lw hi)
  exact ⟨j, ej, hj⟩
 ·have li := o.mon.cl.lw hi
  have lj := o.mon.cl.lw hj
  rw [o.mon.tab hk R L hi hj, Jfs hk o o' hc (LW.app.2 ⟨li, lj⟩), o'.mon.J55 hk R' L' li lj]
  rfl
 ·have := Jfs hk o o' hc (LW.nil k)
  rwa [J9s, J9s] at this
 ·have lw := o'.mon.cl.lw hj
  obtain ⟨i, ei, hi, _⟩ := o.mon.val hk R L lw
  refine ⟨i, hi, ?_⟩
  rw [← ei, Jfs hk o o' hc lw, o'.mon.J1J hk R' L' hj]
theorem Jht {w : Str} (hw : LW k w) (e : ∀ z, LW k z → φ' z = φ (w ++ z)) (u v : Str) (hu : LW k u) (hv : LW k v) (h : syn φ k u = syn φ k v) : syn φ' k u = syn φ' k v :=
 J1S.2 fun x y hx hy => by
  have := J1S.1 h (w ++ x) y (LW.app.2 ⟨hw, hx⟩) hy
  rw [e _ (LW.app.2 ⟨LW.app.2 ⟨hx, hu⟩, hy⟩), e _ (LW.app.2 ⟨LW.app.2 ⟨hx, hv⟩, hy⟩)]
  simpa using this
theorem Jg9 {w : Str} (hw : LW k w) (e : ∀ z, LW k z → φ' z = φ (z ++ w)) (u v : Str) (hu : LW k u) (hv : LW k v) (h : syn φ k u = syn φ k v) : syn φ' k u = syn φ' k v :=
 J1S.2 fun x y hx hy => by
  have := J1S.1 h x (y ++ w) hx (LW.app.2 ⟨hy, hw⟩)
  rw [e _ (LW.app.2 ⟨LW.app.2 ⟨hx, hu⟩, hy⟩), e _ (LW.app.2 ⟨LW.app.2 ⟨hx, hv⟩, hy⟩)]
  simpa using this
end
end Sg
namespace Sg
open Go
section
variable {k : Nat} {φ φ' : Str → Bool} {s a : Syntactic}
theorem Jfp {α : Type} [Inhabited α] {a : α} {l : List α} {x : Nat} (hx : x < l.length) : ix ([a] ++ l) ((x + 1 : Nat) : Int) = ix l (x : Int) := by
 rw [ix_lt (by simp; omega), ix_lt hx]; simp
theorem JgE (hk : k < 159) (o : SynOf k φ s) {x : Nat} (hx : x < k) : vlS s [lt x] = ix s.Images (x : Int) := by
 have e := J8k s [] (x := x) ω
 obtain ⟨m, em, hm, _⟩ := o.mon.im x hx
 rw [List.nil_append, J9s, em, (o.mon.one_l hk (J4s φ k) (J4I φ k) hm).1] at e
 rw [e, em]
theorem Jir (hk : k < 159) (o : SynOf k φ s) : GenR s.Table ([(0 : Int)] ++ s.Images) := by
  intro S h1 h2
  have hS : ∀ w, LW k w → S (vlS s w) := fun w => by
    induction w using J9V with
    | h0 => exact fun _ => h1 _ (by simp [J9s])
    | h1 w b ih =>
      intro hw
      obtain ⟨hw1, hw2⟩ := LW.app.1 hw
      obtain ⟨x, hx, rfl⟩ := LW.letter hk hw2
      rw [J8k s w ω]
      exact h2 _ _ (ih hw1) (List.mem_append_right _ (J0P ω (by rw [o.mon.il]; omega)))
  intro x hx
  rw [o.mon.tl] at hx
  have := hS _ (o.mon.cl.lw hx)
  rwa [o.mon.J1J hk (J4s φ k) (J4I φ k) hx] at this
theorem JcM (hk : k < 159) (hk6 : k ≤ 6) (o : SynOf k φ s) (o' : SynOf k φ' a) (n4 : s.Words.length ≤ 400) (n4' : a.Words.length ≤ 400) (hc : ∀ u v, LW k u → LW k v → syn φ k u = syn φ k v → syn φ' k u = syn φ' k v) {K : Bool → Prop} (h : K true) : J9S s a K := by
  have R := J4s φ k
  have L := J4I φ k
  have R' := J4s φ' k
  have L' := J4I φ' k
  have H := homQ hk o o' hc
  have p := o.mon.pos
  have p' := o'.mon.pos
  have tl := o.mon.tl
  have tl' := o'.mon.tl
  have il := o.mon.il
  have il' := o'.mon.il
  have vt := o.mon.vt n4 hk R L
  have vt' := o'.mon.vt n4' hk R' L'
  have fl : ((List.range s.Words.length).map fun i : Nat => hq s a (i : Int)).length = s.Words.length := by simp
  have fat : ∀ i : Nat, i < s.Words.length → ix ((List.range s.Words.length).map fun i : Nat => hq s a (i : Int)) (i : Int) = hq s a (i : Int) := fun i hi => by
    rw [ix_lt (by simp; exact hi)]; simp
  have hom : HomT s.Table a.Table ((List.range s.Words.length).map fun i : Nat => hq s a (i : Int)) := ⟨by rw [fl, tl], fun x hx => by
    obtain ⟨j, ej, hj⟩ := H.lt x ω
    rw [fat x ω, ej]; omega, fun x y hx hy => by
    obtain ⟨m, em, hm, _⟩ := o.mon.tb x y ω ω
    have e := H.mul x y ω ω
    show ix _ (ix (ix s.Table (x : Int)) (y : Int)) = _
    rw [em] at e ⊢
    rw [fat m hm, fat x ω, fat y ω, e]; rfl⟩
  have on : OntoT a.Table ((List.range s.Words.length).map fun i : Nat => hq s a (i : Int)) := fun y hy => by
    obtain ⟨i, hi, e⟩ := H.on y ω
    rw [← e, ← fat i hi]
    exact J0P ω ω
  have ib := J2g.1 o.mon.imB
  have ib' := J2g.1 o'.mon.imB
  have imb : ∀ {n : Nat} {l : List Int}, 0 < n → (∀ j : Nat, j < l.length → 0 ≤ ix l (j : Int) ∧ ix l (j : Int) < n) → inB n ([(0 : Int)] ++ l) = true := fun hn hl => JaO.2 fun x hx => by
    rcases List.mem_append.1 hx with hx | hx
    · simp only [List.mem_cons, List.not_mem_nil, or_false] at hx; omega
    · obtain ⟨j, hj, rfl⟩ := J0h.1 hx
      exact hl j hj
  unfold J9S
  refine fun _ => ?_
  rw [if_neg ω]
  refine fun _ => ?_
  rw [if_neg ω]
  refine ⟨by simp; omega, by simp; omega, ?_⟩
  refine J9i vt vt' hom (by simp [il, il']) (imb ω ib) (imb ω ib') (fun i hi => ?_) (Jir hk o) ?_
  · match i, hi with
    | 0, _ =>
      show ix _ (ix ([(0 : Int)] ++ s.Images) ((0 : Nat) : Int)) = ix ([(0 : Int)] ++ a.Images) ((0 : Nat) : Int)
      have e0 : ∀ l : List Int, ix ([(0 : Int)] ++ l) ((0 : Nat) : Int) = ((0 : Nat) : Int) := fun l => by rw [ix_lt (by simp)]; simp
      rw [e0, e0, fat 0 ω]
      exact H.one
    | x + 1, hi =>
      have hx : x < k := by simp at hi; omega
      rw [Jfp ω, Jfp ω]
      obtain ⟨m, em, hm, _⟩ := o.mon.im x hx
      rw [em, fat m hm, ← JgE hk o' hx, ← em, ← JgE hk o hx]
      exact Jfs hk o o' hc (LW.lt hx hk)
  · rw [if_pos rfl]
    refine Jal vt vt' hom on fun l hl => ?_
    refine fun _ => ?_
    rw [if_pos ω]
    exact h
end
section
variable {k : Nat} {d : DFA}
structure QuD (k : Nat) (d l : DFA) (φ : Str → Bool) : Prop where
 da : Da l
 le : l.Letters = k
 fl : l.Final.length ≤ d.Final.length
 ac : ∀ z, LW k z → acc l z = φ z
theorem J9I (D : Da d) (hk : (k : Int) = d.Letters) {K : DFA → Int → Prop} (h : ∀ m, MinOf k d m → Da m → m.Final.length ≤ d.Final.length → K m 0) : J49 d K := by
 have l1 := D.l1
 have l6 := D.l6
 have f2 := D.f2
 unfold J49
 refine J12 ?_
 rw [if_pos (daC0.2 (J2X.2 D))]
 refine J0Z D hk fun m W c => ?_
 have hle := Jdf D hk c
 have fl := c.fl
 have hm : MinOf k d m := ⟨W, c⟩
 exact h m hm (hm.da ω ω ω) ω
theorem JhK {m' l : DFA} {φ : Str → Bool} {W : List Str} (D' : Da m') (hk : (k : Int) = m'.Letters) (hn : m'.Final.length ≤ d.Final.length) (c : Can k (nero m' k) (acc m') l W) (e : ∀ z, LW k z → acc m' z = φ z) : QuD k d l φ := by
 have l1 := D'.l1
 have l6 := D'.l6
 have f2 := D'.f2
 have hle := Jdf D' hk c
 have fl := c.fl
 have hm : MinOf k m' l := ⟨W, c⟩
 exact ⟨hm.da ω ω ω, hm.le, ω, fun z hz => by rw [hm.acc_ ω hz, e z hz]⟩
theorem Ja2 (D : Da d) (hk : (k : Int) = d.Letters) {w : Str} (hw : WV w d.Letters = true) {K : DFA → Int → Prop} (h : ∀ l, QuD k d l (fun z => acc d (w ++ z)) → K l 0) : J20 d w K := by
 have l1 := D.l1
 have l6 := D.l6
 unfold J20
 refine J9I D hk fun m hm Dm hn => ?_
 rw [if_pos rfl]
 refine J3c ?_
 rw [if_pos hw]
 have ml := hm.le
 have s0 := Dm.s0
 have s1 := Dm.s1
 have hwm : WV w m.Letters = true := by rw [ml, hk]; exact hw
 have hlw : LW k w := WV_LW (by rw [hk]; exact hw)
 refine J9P ?_
 rw [if_pos ⟨J2X.2 Dm, s0, s1, hwm⟩]
 have r := rn_lw Dm (k := k) ml.symm hlw s0 s1
 have D' : Da (⟨m.Letters, rn m m.Start w, m.Final, m.Next⟩ : DFA) := ⟨Dm.l1, Dm.l6, Dm.f1, Dm.f2, Dm.nx, r.1, r.2, Dm.row, Dm.el⟩
 refine J0Z (k := k) D' ml.symm fun l W c => h l (JhK D' ml.symm hn c fun z hz => ?_)
 show ix m.Final (rn m (rn m m.Start w) z) = _
 rw [← J24]
 exact hm.acc_ ω (LW.app.2 ⟨hlw, hz⟩)
theorem J9u (D : Da d) (hk : (k : Int) = d.Letters) {w : Str} (hw : WV w d.Letters = true) {K : DFA → Int → Prop} (h : ∀ l, QuD k d l (fun z => acc d (z ++ w)) → K l 0) : J1I d w K := by
 have l1 := D.l1
 have l6 := D.l6
 unfold J1I
 refine J9I D hk fun m hm Dm hn => ?_
 rw [if_pos rfl]
 refine J3c ?_
 rw [if_pos hw]
 have ml := hm.le
 have f2 := Dm.f2
 have hwm : WV w m.Letters = true := by rw [ml, hk]; exact hw
 have hlw : LW k w := WV_LW (by rw [hk]; exact hw)
 refine fun _ => ⟨ω, ω, ?_⟩
 refine LoopWP.fold m.Final.length (fun j (f : List Bool) => f.length = m.Final.length ∧ ∀ i : Nat, i < j → ix f (i : Int) = ix m.Final (rn m (i : Int) w)) ⟨by simp, fun i hi => absurd hi (Nat.not_lt_zero _)⟩ ?_
 rintro j f X hj ⟨fl, hI⟩ hX
 show J2W w m K _ j f
 unfold J2W
 rw [List.length_replicate]
 split
 ·refine J9P ?_
  have c1 : DV m = true ∧ 0 ≤ (j : Int) ∧ (j : Int) < m.Final.length ∧ WV w m.Letters = true := ⟨J2X.2 Dm, ω, ω, hwm⟩
  rw [if_pos c1]
  have r := rn_lw Dm (k := k) ml.symm hlw (q := (j : Int)) ω ω
  refine ⟨r.1, ω, ω, ω, ⟨ω, ω⟩, hX _ ω ⟨by simp [fl], upS (fun i hi => ?_) ?_⟩⟩
  ·rw [ix_st _ ω ω ω, if_neg ω]; exact hI i hi
  ·rw [ix_st _ ω ω ω, if_pos rfl]
 ·have : j = m.Final.length := ω
  subst this
  have D' : Da (⟨m.Letters, m.Start, f, m.Next⟩ : DFA) := ⟨Dm.l1, Dm.l6, by show 1 ≤ f.length; rw [fl]; exact Dm.f1, by show f.length ≤ 512; rw [fl]; exact Dm.f2, by show m.Next.length = f.length; rw [fl]; exact Dm.nx, Dm.s0, by show m.Start < (f.length : Int); rw [fl]; exact Dm.s1, Dm.row, fun q x hq hx => by
   show 0 ≤ ix (ix m.Next (q : Int)) (x : Int) ∧ ix (ix m.Next (q : Int)) (x : Int) < (f.length : Int)
   rw [fl]; exact Dm.el q x hq hx⟩
  have rr : ∀ (q : Int) (z : Str), rn (⟨m.Letters, m.Start, f, m.Next⟩ : DFA) q z = rn m q z := fun q z => rfl
  refine J0Z (k := k) D' ml.symm fun l W c => h l (JhK D' ml.symm (by show f.length ≤ _; omega) c fun z hz => ?_)
  show ix f (rn m m.Start z) = _
  have r := rn_lw Dm (k := k) ml.symm hz Dm.s0 Dm.s1
  obtain ⟨q, eq⟩ := Int.eq_ofNat_of_zero_le r.1
  have e := hm.acc_ ω (LW.app.2 ⟨hz, hlw⟩)
  unfold acc at e
  rw [J24, eq] at e
  rw [eq, hI q ω, e]; rfl
theorem Jav (d : DFA) (w : Str) (_ : w.length ≤ 140737488351232) : J3H d w (fun b => b = true) := by
 unfold J3H
 refine J5t (fun D hf => ?_) ?_
 case refine_2 => exact J0a rfl
 rw [if_pos rfl]
 refine fun _ => ?_
 split
 ·exact J0a rfl
 refine J5l ?_
 split
 case isFalse => exact J0a rfl
 rename_i hw
 have l1 := D.l1
 have l6 := D.l6
 obtain ⟨k, hk⟩ := Int.eq_ofNat_of_zero_le (show 0 ≤ d.Letters by omega)
 have hlw : LW k w := WV_LW (by rw [← hk]; exact hw)
 refine Ja2 D hk.symm hw fun l ql => J9u D hk.symm hw fun r qr => ?_
 have fl := ql.fl
 have fr := qr.fl
 refine J1C D ω fun s hs => J1C ql.da ω fun a ha => J1C qr.da ω fun b hb => ?_
 rw [if_pos rfl, if_pos rfl, if_pos rfl, if_pos rfl, if_pos rfl]
 obtain ⟨k0, e0, o, _⟩ := hs.k
 obtain ⟨k1, e1, o1, _⟩ := ha.k
 obtain ⟨k2, e2, o2, _⟩ := hb.k
 have le1 := ql.le
 have le2 := qr.le
 have : k0 = k := ω
 subst this
 have : k1 = k0 := ω
 subst this
 have : k2 = k1 := ω
 subst this
 refine JcM ω ω o o1 hs.n ha.n (fun u v hu hv e => Jht hlw ql.ac u v hu hv e) ?_
 rw [if_pos rfl]
 refine JcM ω ω o o2 hs.n hb.n (fun u v hu hv e => Jg9 hlw qr.ac u v hu hv e) ?_
 rw [if_pos rfl]
 exact J0a rfl
end
end Sg
namespace Sg
open Go
section
variable {d : DFA} {r : run} {s : Syntactic} {gens G : List (List Int)} {φ : Str → Bool} {c : List Int} {set : List Bool} {L : List Int} {q : List (List Int)} {cnt : Nat}
end
end Sg
namespace Sg
open Go
section
variable {t : List (List Int)} {c : List Int} {cnt : Nat}
end
end Sg
namespace Sg
open Go
section
variable {k : Nat} {d t : DFA}
end
end Sg
