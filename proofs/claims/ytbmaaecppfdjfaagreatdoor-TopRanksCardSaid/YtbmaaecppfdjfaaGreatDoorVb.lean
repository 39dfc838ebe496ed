/- -/
import Derived.Test.YtbmaaecppfdjfaaGreatDoorVa
namespace Sg
open Go Go.RowKit Go.Proofs
set_option linter.unusedVariables false
set_option linter.unusedSimpArgs false
set_option maxRecDepth 100000
def t1 {α : Type} {r : Rp α} (hf : Fl r) (e : TypeId) (p : Option Addr) (n c : Nat) (xs : List α) : Ent := .any {
 F := pb p
 H := fun n0 w => ∃ vs, w.ownsRow n0 e r.sz (.slice p n c) n vs ∧ Els r [] w vs xs
 lt := fun ⟨_, h, _⟩ b hb => Jep h b hb
 keep := fun ⟨vs, h, hE⟩ hk => ⟨vs, J8q h hk, hE.fl hf⟩
 base := fun hn ⟨vs, h, hE⟩ => ⟨vs, Jbk hn h, hE.fl hf⟩ }
section
variable {w w' : World} {t e : TypeId} {A : List Nat} {E E' : List Ent} {n0 : Nat}
theorem Jdo {j : Nat} {a b : Ent} (hj : E[j]? = some a) (hfp : b.fp = a.fp) : bl (E.set j b) = bl E := by
 obtain ⟨hjl, hje⟩ := List.getElem?_eq_some_iff.1 hj
 have h1 : E = E.take j ++ a :: E.drop (j + 1) := by rw [← hje]; simp
 rw [List.set_eq_take_append_cons_drop, if_pos hjl]
 conv => rhs; rw [h1]
 simp [bl, hfp]
theorem Owns.swap {j : Nat} {a b : Ent} (hO : Owns n0 w E A) (hj : E[j]? = some a) (hfp : b.fp = a.fp) (hh : b.holds n0 w) : Owns n0 w (E.set j b) A := by
 have hb := Jdo hj hfp
 refine ⟨hO.le, hO.bd, by rw [hb]; exact hO.nd, fun x hx => hO.out x (by rw [← hb]; exact hx), fun x hx => ?_⟩
 rcases List.mem_or_eq_of_mem_set hx with h | rfl
 ·exact hO.at_ x h
 ·exact hh
variable {α : Type} {r : Rp α} {hf : Fl r} {p : Option Addr} {n c : Nat} {xs : List α}
theorem t1at (j : Nat) (hO : Owns n0 w E A) (hj : E[j]? = some (t1 hf e p n c xs)) : ∃ vs, w.ownsRow n0 e r.sz (.slice p n c) n vs ∧ Els r [] w vs xs := hO.at_ _ (List.mem_of_getElem? hj)
theorem t1row (j : Nat) (hO : Owns n0 w E A) (hj : E[j]? = some (t1 hf e p n c xs)) :
  ∃ vs, Owns n0 w (E.set j (.row e r.sz p n c vs)) A ∧ bl (E.set j (.row e r.sz p n c vs)) = bl E ∧ (E.set j (.row e r.sz p n c vs))[j]? = some (.row e r.sz p n c vs) ∧ ∀ B w', Els r B w' vs xs := by
 obtain ⟨vs, h1, h2⟩ := t1at j hO hj
 have hjl := (List.getElem?_eq_some_iff.1 hj).1
 exact ⟨vs, hO.swap hj J6B h1, Jdo hj J6B, by simp [hjl], fun _ _ => h2.fl hf⟩
theorem t1open (h : Owns n0 w [t1 hf e p n c xs] A) : ∃ vs, Owns n0 w [.row e r.sz p n c vs] A ∧ Els r (bl [.row e r.sz p n c vs] ++ A) w vs xs := by
 obtain ⟨vs, h1, _, _, h2⟩ := t1row 0 h rfl
 exact ⟨vs, h1, h2 _ _⟩
theorem t1st {p' : Option Addr} {n' c' : Nat} {xs' : List α} {vs vs' : List Value} {B : List Nat} {j : Nat} (hj : E[j]? = some (t1 hf e p n c xs))
  (hs : Stp n0 A w (E.set j (.row e r.sz p n c vs)) w' ((E.set j (.row e r.sz p n c vs)).set j (.row e r.sz p' n' c' vs'))) (hE : Els r B w' vs' xs') : Stp n0 A w E w' (E.set j (t1 hf e p' n' c' xs')) := by
 have hjl := (List.getElem?_eq_some_iff.1 hj).1
 rw [List.set_set] at hs
 have hg : (E.set j (.row e r.sz p' n' c' vs'))[j]? = some (.row e r.sz p' n' c' vs') := by simp [hjl]
 have hh : (t1 hf e p' n' c' xs').holds n0 w' := ⟨vs', hs.own.at_ _ (List.mem_of_getElem? hg), hE.fl hf⟩
 have h1 := hs.own.swap hg (b := t1 hf e p' n' c' xs') J6B.symm hh
 rw [List.set_set] at h1
 refine ⟨h1, ?_⟩
 have h2 : bl (E.set j (t1 hf e p' n' c' xs')) = bl (E.set j (.row e r.sz p' n' c' vs')) := by
  have := Jdo hg (b := t1 hf e p' n' c' xs') J6B.symm
  rwa [List.set_set] at this
 rw [h2, ← Jdo hj (b := .row e r.sz p n c vs) J6B]
 exact hs.fr
theorem t1new {vs : List Value} {B : List Nat} (hs : Stp n0 A w E w' (.row e r.sz p n c vs :: E')) (hE : Els r B w' vs xs) : Stp n0 A w E w' (t1 hf e p n c xs :: E') := by
 have hg : (Ent.row e r.sz p n c vs :: E')[0]? = some (.row e r.sz p n c vs) := rfl
 have hh : (t1 hf e p n c xs).holds n0 w' := ⟨vs, hs.own.at_ _ (List.mem_of_getElem? hg), hE.fl hf⟩
 have h1 := hs.own.swap hg (b := t1 hf e p n c xs) J6B.symm hh
 refine ⟨h1, ?_⟩
 have h2 : bl (t1 hf e p n c xs :: E') = bl (.row e r.sz p n c vs :: E') := Jdo (j := 0) hg (b := t1 hf e p n c xs) J6B.symm
 rw [h2]; exact hs.fr
theorem t1n (j : Nat) (hO : Owns n0 w E A) (hj : E[j]? = some (t1 hf e p n c xs) := by exact rfl) : n = xs.length := by
 obtain ⟨vs, h1, h2⟩ := t1at j hO hj
 exact h2.n_eq h1
theorem t1b (j : Nat) (hO : Owns n0 w E A) (hj : E[j]? = some (t1 hf e p n c xs) := by exact rfl) : xs.length ≤ mx := by
 obtain ⟨vs, h1, h2⟩ := t1at j hO hj
 exact h2.bd
theorem t1some (j : Nat) (hO : Owns n0 w E A) (hj : E[j]? = some (t1 hf e p n c xs)) {i : Int} (h0 : 0 ≤ i) (h : i < (xs.length : Int)) : p.isSome = true := by
 obtain ⟨vs, h1, h2⟩ := t1at j hO hj
 exact Jb9 h1 (by have := h2.n_eq h1; omega)
end
end Sg
