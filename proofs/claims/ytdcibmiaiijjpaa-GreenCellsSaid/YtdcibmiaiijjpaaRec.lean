/- -/
import Derived.Test.YtdcibmiaiijjpaaCore
import Derived.Test.YtdcibmiaiijjpaaPure
namespace Sg
open Go
set_option linter.unusedVariables false
set_option linter.unusedSimpArgs false
theorem CallsV.rec_ {P : Program} {g : FuncId} {S T : Type} {body : (S → (T → Prop) → Prop) → S → (T → Prop) → Prop} {s : S} {K : T → Prop} (Pre : S → List Value → World → Prop) (Post : World → T → Value → World → Prop) (H : RecWP body s K)
  (round : ∀ X : S → (T → Prop) → Prop, (∀ s K args w, X s K → Pre s args w → CallsV P g args.toArray w (fun v w' => ∃ t, Post w t v w' ∧ K t)) → ∀ s K args w, body X s K → Pre s args w → CallsV P g args.toArray w (fun v w' => ∃ t, Post w t v w' ∧ K t))
  {args : List Value} {w : World} (hp : Pre s args w) : CallsV P g args.toArray w (fun v w' => ∃ t, Post w t v w' ∧ K t) :=
 H (fun s K => ∀ args w, Pre s args w → CallsV P g args.toArray w (fun v w' => ∃ t, Post w t v w' ∧ K t)) (fun s K hb args w hp => round _ (fun s K args w hX hp => hX args w hp) s K args w hb hp) args w hp
theorem useRec {P : Program} {g : FuncId} {S T : Type} {body : (S → (T → Prop) → Prop) → S → (T → Prop) → Prop} {s : S} {K : T → Prop} {args : List Value} {w : World} {Q : Prop} (Pre : S → List Value → World → Prop) (Post : World → T → Value → World → Prop)
  (hp : Pre s args w) (H : RecWP body s K)
  (round : ∀ X : S → (T → Prop) → Prop, (∀ s K args w, X s K → Pre s args w → CallsV P g args.toArray w (fun v w' => ∃ t, Post w t v w' ∧ K t)) → ∀ s K args w, body X s K → Pre s args w → CallsV P g args.toArray w (fun v w' => ∃ t, Post w t v w' ∧ K t))
  (k : CallsV P g args.toArray w (fun v w' => ∃ t, Post w t v w' ∧ K t) → Q) : Q := k (CallsV.rec_ Pre Post H round hp)
end Sg
