/- -/
import Derived.Test.YtbmaaecppfdjfaaGreatDoorZo
set_option linter.unusedVariables false
set_option linter.unusedSimpArgs false
namespace Sg
open Go
theorem JdJ : ∀ {W V : List Str}, W.Pairwise SL → V.Pairwise SL → (∀ w, w ∈ W ↔ w ∈ V) → W = V
  | [], [], _, _, _ => rfl
  | [], v :: V, _, _, h => by have := (h v).2 (by simp); simp at this
  | w :: W, [], _, _, h => by have := (h w).1 (by simp); simp at this
  | w :: W, v :: V, hw, hv, h => by
    obtain ⟨w1, w2⟩ := List.pairwise_cons.1 hw
    obtain ⟨v1, v2⟩ := List.pairwise_cons.1 hv
    have e : w = v := by
      rcases List.mem_cons.1 ((h w).1 (by simp)) with k | k
      · exact k
      · rcases List.mem_cons.1 ((h v).2 (by simp)) with k2 | k2
        · exact k2.symm
        · exact absurd (v1 w k) (w1 v k2).asymm
    subst e
    rw [JdJ w2 v2 fun x => ⟨fun hx => ?_, fun hx => ?_⟩]
    · rcases List.mem_cons.1 ((h x).1 (List.mem_cons_of_mem _ hx)) with k | k
      · subst k; exact absurd (w1 x hx) (SL.irrefl x)
      · exact k
    · rcases List.mem_cons.1 ((h x).2 (List.mem_cons_of_mem _ hx)) with k | k
      · subst k; exact absurd (v1 x hx) (SL.irrefl x)
      · exact k
section
variable {k : Nat} {α β : Type} {ρ : Str → α} {ρ' : Str → β}
variable {W V : List Str} {u : Str} {x : Nat} {F : Str → Prop}
end
end Sg
namespace Sg
open Go
section
variable {α β : Type} {k : Nat} {ρ : Str → α} {ρ' : Str → β} {φ : Str → Bool} {m m' : DFA} {W W' : List Str}
end
end Sg
namespace Sg
open Go
section
variable {k : Nat} {d Q : DFA} {p : List Int}
end
end Sg
namespace Sg
open Go
section
variable {κ : Type} [DecidableEq κ]
variable {f : Nat → κ} {q : Nat} {p : List Int} {m : List (κ × Int)}
end
section
variable {k : Nat} {d : DFA} {p r : List Int} {c c' : Nat}
end
end Sg
namespace Sg
open Go
def leR (t : List (List Int)) (x y : Nat) : Prop := x = y ∨ ∃ s : Nat, s < t.length ∧ mu t (y : Int) (s : Int) = (x : Int)
def leL (t : List (List Int)) (x y : Nat) : Prop := x = y ∨ ∃ s : Nat, s < t.length ∧ mu t (s : Int) (y : Int) = (x : Int)
end Sg
namespace Sg
open Go
end Sg
namespace Sg
open Go
end Sg
namespace Sg
open Go
def eR (t : List (List Int)) (x y : Nat) : Prop := leR t x y ∧ leR t y x
def eL (t : List (List Int)) (x y : Nat) : Prop := leL t x y ∧ leL t y x
end Sg
namespace Sg
open Go
end Sg
namespace Sg
open Go
end Sg
namespace Sg
open Go
end Sg
namespace Sg
open Go
end Sg
namespace Sg
open Go
end Sg
namespace Sg
open Go
end Sg
namespace Sg
open Go
end Sg
namespace Sg
open Go
section
variable {α β : Type} {k : Nat} {ρ : Str → α} {ρ' : Str → β} {φ φ' : Str → Bool} {s s' : Syntactic}
def vlS (s : Syntactic) (w : Str) : Int := w.foldl (fun x b => ix (ix s.Table x) (ix s.Images ((b.toNat : Int) - 97))) 0
end
section
variable {k : Nat} {φ φ' : Str → Bool} {s s' : Syntactic} {d : DFA}
end
end Sg
namespace Sg
open Go
section
variable {d : DFA} {k i x : Nat} {W : List Str} {S : List Int}
variable {Nx : List (List Int)} {Fn : List Bool} {row : List Int}
variable {m : List (Int × Int)}
end
section
variable {d : DFA} {k : Nat}
end
end Sg
namespace Sg
open Go
section
variable {d : DFA} {k i x : Nat} {W : List Str} {S : List Int}
end
end Sg
namespace Sg
open Go
section
variable {d : DFA} {k : Nat}
end
section
variable {d : DFA} {k : Nat}
end
end Sg
namespace Sg
open Go
section
variable {d : DFA} {k : Nat} {p : List Int}
variable {q : Nat} {Nx : List (List Int)} {Fn : List Bool} {row : List Int}
end
section
variable {d : DFA} {k : Nat}
end
end Sg
namespace Sg
open Go
section
variable {k : Nat} {d M : DFA}
end
section
variable {k : Nat} {ds Ms : List DFA} {gens : List (List Int)}
end
section
variable {gens : List (List Int)} {r : run}
end
end Sg
namespace Sg
open Go
section
variable {gens : List (List Int)} {r : run}
section
variable {M : DFA} {im : List Int} {K : Syntactic → Int → Prop}
end
section
variable {P : List part} {im : List Int} {K : Syntactic → List (List Bool) → Int → Prop}
end
end
end Sg
namespace Sg
open Go
section
variable {gens : List (List Int)}
end
section
variable {k x q : Nat} {Ms : List DFA} {M : DFA} {cnt cnt' : Nat → Nat} {G : List (List Int)} {v : Int}
end
section
variable {k : Nat} {ds Ms : List DFA} {gens : List (List Int)} {r : run} {s s' : Syntactic} {L L' : List (List Bool)}
section
variable {P : List part}
end
end
section
variable {d : DFA} {k : Nat}
end
end Sg
namespace Sg
open Go
section
variable {α : Type} {k : Nat} {ρ : Str → α} {s : Syntactic}
end
section
variable {k : Nat} {ds Ms : List DFA} {gens : List (List Int)} {r : run} {fin : List Bool}
end
section
variable {d : DFA}
end
end Sg
namespace Sg
open Go
end Sg
namespace Sg
open Go
instance (u v : Str) : Decidable (SL u v) := by unfold SL; infer_instance
end Sg
namespace Sg
open Go
end Sg
namespace Sg
open Go
end Sg
namespace Sg
open Go
end Sg
namespace Sg
open Go
section
variable {d : DFA} {s : Syntactic}
end
end Sg
namespace Sg
open Go
end Sg
namespace Sg
open Go
end Sg
namespace Sg
open Go
end Sg
namespace Sg
open Go
end Sg
namespace Sg
open Go
end Sg
namespace Sg
open Go
end Sg
namespace Sg
open Go
end Sg
namespace Sg
open Go
section
variable {k : Nat} {ds Ms Ms' : List DFA} {i : Nat}
end
end Sg
namespace Sg
open Go
section
variable {ds : List DFA} {s s' : Syntactic} {L L' : List (List Bool)} {e e' : Int}
end
section
variable {α : Type} {k : Nat} {ρ : Str → α} {s : Syntactic}
end
end Sg
