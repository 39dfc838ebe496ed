/- -/
import Derived.Test.YtbmaaecppfdjfaaGreatDoorZo
set_option linter.unusedVariables false
set_option linter.unusedSimpArgs false
namespace Sg
open Go
section
variable {k : Nat} {α β : Type} {ρ : Str → α} {ρ' : Str → β}
def Lst (k : Nat) (ρ : Str → α) (w : Str) : Prop := LW k w ∧ ∀ v, LW k v → ρ v = ρ w → ¬ SL v w
theorem Lst.nil : Lst k ρ [] := ⟨LW.nil _, fun v _ _ h => JbE v h⟩
structure CL (k : Nat) (ρ : Str → α) (W : List Str) (F : Str → Prop) : Prop where
 asc : W.Pairwise SL
 mem : ∀ w, w ∈ W ↔ Lst k ρ w ∧ F w
variable {W V : List Str} {u : Str} {x : Nat} {F : Str → Prop}
theorem CL.zero (h : CL k ρ W (fun _ => True)) : ix W 0 = [] ∧ 0 < W.length := by
 obtain ⟨j, hj, e⟩ := J0h.1 ((h.mem []).2 ⟨Lst.nil, trivial⟩)
 rcases Nat.eq_zero_or_pos j with h0 | h0
 ·subst h0; exact ⟨e, hj⟩
 ·have := Jbc h.asc h0 hj
  rw [e] at this
  exact absurd this (JbE _)
end
end Sg
namespace Sg
open Go
section
variable {α β : Type} {k : Nat} {ρ : Str → α} {ρ' : Str → β} {φ : Str → Bool} {m m' : DFA} {W W' : List Str}
end
end Sg
namespace Sg
open Go
section
variable {k : Nat} {d Q : DFA} {p : List Int}
end
end Sg
namespace Sg
open Go
section
variable {κ : Type} [DecidableEq κ]
variable {f : Nat → κ} {q : Nat} {p : List Int} {m : List (κ × Int)}
end
section
variable {k : Nat} {d : DFA} {p r : List Int} {c c' : Nat}
end
end Sg
namespace Sg
open Go
def leR (t : List (List Int)) (x y : Nat) : Prop := x = y ∨ ∃ s : Nat, s < t.length ∧ mu t (y : Int) (s : Int) = (x : Int)
def leL (t : List (List Int)) (x y : Nat) : Prop := x = y ∨ ∃ s : Nat, s < t.length ∧ mu t (s : Int) (y : Int) = (x : Int)
end Sg
namespace Sg
open Go
end Sg
namespace Sg
open Go
end Sg
namespace Sg
open Go
def eR (t : List (List Int)) (x y : Nat) : Prop := leR t x y ∧ leR t y x
def eL (t : List (List Int)) (x y : Nat) : Prop := leL t x y ∧ leL t y x
end Sg
namespace Sg
open Go
end Sg
namespace Sg
open Go
end Sg
namespace Sg
open Go
end Sg
namespace Sg
open Go
end Sg
namespace Sg
open Go
end Sg
namespace Sg
open Go
end Sg
namespace Sg
open Go
end Sg
namespace Sg
open Go
section
variable {α β : Type} {k : Nat} {ρ : Str → α} {ρ' : Str → β} {φ φ' : Str → Bool} {s s' : Syntactic}
def vlS (s : Syntactic) (w : Str) : Int := w.foldl (fun x b => ix (ix s.Table x) (ix s.Images ((b.toNat : Int) - 97))) 0
end
section
variable {k : Nat} {φ φ' : Str → Bool} {s s' : Syntactic} {d : DFA}
end
end Sg
namespace Sg
open Go
section
variable {d : DFA} {k i x : Nat} {W : List Str} {S : List Int}
variable {Nx : List (List Int)} {Fn : List Bool} {row : List Int}
variable {m : List (Int × Int)}
end
section
variable {d : DFA} {k : Nat}
end
end Sg
namespace Sg
open Go
section
variable {d : DFA} {k i x : Nat} {W : List Str} {S : List Int}
end
end Sg
namespace Sg
open Go
section
variable {d : DFA} {k : Nat}
end
section
variable {d : DFA} {k : Nat}
end
end Sg
namespace Sg
open Go
section
variable {d : DFA} {k : Nat} {p : List Int}
variable {q : Nat} {Nx : List (List Int)} {Fn : List Bool} {row : List Int}
end
section
variable {d : DFA} {k : Nat}
end
end Sg
namespace Sg
open Go
section
variable {k : Nat} {d M : DFA}
end
section
variable {k : Nat} {ds Ms : List DFA} {gens : List (List Int)}
end
section
variable {gens : List (List Int)} {r : run}
theorem Fin.CL_ (hg : GV gens = true) (h : Fin gens true r) : CL gens.length (vl gens) r.words (fun _ => True) := by
 have hr := h.1.rlT hg
 refine ⟨hr.asc, fun w => ?_⟩
 rw [hr.mem]
 constructor
 ·rintro ⟨⟨⟨h1, _⟩, h2⟩, _⟩
  exact ⟨⟨h1, fun v hv => h2 v ⟨hv, .inl rfl⟩⟩, trivial⟩
 ·rintro ⟨⟨h1, h2⟩, _⟩
  exact ⟨⟨⟨h1, .inl rfl⟩, fun v hv => h2 v hv.1⟩, trivial⟩
theorem Fin.w0 (hg : GV gens = true) (h : Fin gens true r) : ix r.words 0 = [] ∧ 0 < r.words.length := (h.CL_ hg).zero
end
end Sg
namespace Sg
open Go
section
variable {gens : List (List Int)} {r : run}
section
variable {M : DFA} {im : List Int} {K : Syntactic → Int → Prop}
end
section
variable {P : List part} {im : List Int} {K : Syntactic → List (List Bool) → Int → Prop}
end
end
end Sg
namespace Sg
open Go
section
variable {gens : List (List Int)}
end
section
variable {k x q : Nat} {Ms : List DFA} {M : DFA} {cnt cnt' : Nat → Nat} {G : List (List Int)} {v : Int}
end
section
variable {k : Nat} {ds Ms : List DFA} {gens : List (List Int)} {r : run} {s s' : Syntactic} {L L' : List (List Bool)}
section
variable {P : List part}
end
end
section
variable {d : DFA} {k : Nat}
end
end Sg
namespace Sg
open Go
section
variable {α : Type} {k : Nat} {ρ : Str → α} {s : Syntactic}
end
section
variable {k : Nat} {ds Ms : List DFA} {gens : List (List Int)} {r : run} {fin : List Bool}
end
section
variable {d : DFA}
end
end Sg
namespace Sg
open Go
end Sg
namespace Sg
open Go
instance (u v : Str) : Decidable (SL u v) := by unfold SL; infer_instance
end Sg
namespace Sg
open Go
end Sg
namespace Sg
open Go
end Sg
namespace Sg
open Go
end Sg
namespace Sg
open Go
section
variable {d : DFA} {s : Syntactic}
end
end Sg
namespace Sg
open Go
end Sg
namespace Sg
open Go
end Sg
namespace Sg
open Go
end Sg
namespace Sg
open Go
end Sg
namespace Sg
open Go
end Sg
namespace Sg
open Go
end Sg
namespace Sg
open Go
end Sg
namespace Sg
open Go
section
variable {k : Nat} {ds Ms Ms' : List DFA} {i : Nat}
end
end Sg
namespace Sg
open Go
section
variable {ds : List DFA} {s s' : Syntactic} {L L' : List (List Bool)} {e e' : Int}
end
section
variable {α : Type} {k : Nat} {ρ : Str → α} {s : Syntactic}
end
end Sg
