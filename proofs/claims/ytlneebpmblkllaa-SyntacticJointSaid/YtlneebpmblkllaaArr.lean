/- -/
import Derived.Test.YtlneebpmblkllaaMap
import Derived.Test.YtlneebpmblkllaaAcc
import Derived.Carry
namespace Sg
open Go Go.RowKit
set_option linter.unusedVariables false
set_option linter.unusedSimpArgs false
theorem J8P {P : Program} {e : TypeId} {d : TypeDesc} (he : P.underlying e = some d) (hd : scB d = true) {cs : Array Value} {j : Nat} {v : Value} (hv : cs[j]? = some v) (w : World) : (part e cs j).run P w = .ok v w := by
 simp [part, J5x he hd, hv, Result.andThen]
theorem J4k {P : Program} {k : TypeId} {κ : Type} [DecidableEq κ] {kv : κ → Value} (hs : ∀ a b w, (Op.equal k (kv a) (kv b)).run P w = .ok (decide (a = b)) w) : ∀ (es : List MapEntry) (D : List κ) (a : κ) (i : Nat) (w : World), es.map MapEntry.key = D.map kv →
    (Instr.findAsking k (kv a) es i).run P w = .ok ((fidx D a).bind fun j => es[j]?.map fun e => (i + j, e.val)) w
  | [], [], a, i, w, _ => rfl
  | [], _ :: _, a, i, w, h => by simp at h
  | _ :: _, [], a, i, w, h => by simp at h
  | e :: es, b :: D, a, i, w, h => by
    simp only [List.map_cons, List.cons.injEq] at h
    unfold Instr.findAsking
    simp only [Sem.run_bind, h.1, hs, Result.andThen_ok]
    by_cases hab : a = b
    · simp [hab, fidx]
    · simp only [hab, decide_false, fidx, if_false, Bool.false_eq_true]
      rw [J4k hs es D a (i + 1) w h.2]
      cases fidx D a with
      | none => rfl
      | some j =>
        simp only [Option.bind_some, Option.map_some, List.getElem?_cons_succ]
        congr 2
        funext e'
        congr 1
        omega
end Sg
