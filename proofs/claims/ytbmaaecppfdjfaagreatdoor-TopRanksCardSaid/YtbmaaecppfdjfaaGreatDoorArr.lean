/- -/
import Derived.Test.YtbmaaecppfdjfaaGreatDoorMap
import Derived.Test.YtbmaaecppfdjfaaGreatDoorCB
import Derived.Carry
namespace Sg
open Go Go.RowKit
set_option linter.unusedVariables false
set_option linter.unusedSimpArgs false
theorem J9D {P : Program} {e : TypeId} {d : TypeDesc} (he : P.underlying e = some d) (hd : scB d = true) {cs : Array Value} {j : Nat} {v : Value} (hv : cs[j]? = some v) (w : World) : (part e cs j).run P w = .ok v w := by
 simp [part, Jbb he hd, hv, Result.andThen]
theorem Ji4 {P : Program} {k e : TypeId} {q : IntKind} {z : Option Value} {bb : Nat} (hk : P.underlying k = some (.array 2 e)) (he : P.underlying e = some (.int q)) (hi : ti P e = some (z, 1, bb)) (a b c d : Int) (w : World) :
  (Op.equal k (.agg #[.int q a, .int q b]) (.agg #[.int q c, .int q d])).run P w = .ok (decide ((a, b) = (c, d))) w := by
 obtain ⟨i, hi1, hs⟩ : ∃ i, P.info? e = some i ∧ i.size = 1 := by
  unfold ti at hi
  cases h : P.info? e with
  | none => simp [h] at hi
  | some i => simp [h] at hi; exact ⟨i, rfl, hi.2.1⟩
 have hc : P.cellsOf e = 1 := by simp [Program.cellsOf, hi1, hs]
 have e1 : ∀ (x y : Int) (w : World), (Op.equalIn 9999 e (.int q x) (.int q y)).run P w = .ok (x == y) w := fun x y w => run_equalIn_int w 9998 e q q x y he
 have p : ∀ (x y : Value) (w : World), (part e #[x, y] 0).run P w = .ok x w := fun x y w => J9D he rfl rfl w
 have p' : ∀ (x y : Value) (w : World), (part e #[x, y] 1).run P w = .ok y w := fun x y w => J9D he rfl rfl w
 have : (Op.equal k (.agg #[.int q a, .int q b]) (.agg #[.int q c, .int q d])) = Op.equalIn (9999 + 1) k (.agg #[.int q a, .int q b]) (.agg #[.int q c, .int q d]) := rfl
 rw [this, run_equalIn_array w 9999 _ _ hk hi1, hc]
 simp only [List.range, List.range.loop, Op.eqItems, Sem.run_bind, Nat.zero_mul, Nat.one_mul, p, p', Result.andThen_ok, e1]
 by_cases h1 : a = c
 ·by_cases h2 : b = d
  ·simp [h1, h2, p', e1, Result.andThen]
  ·simp [h1, h2, p', e1, Result.andThen]
 ·simp [h1, Result.andThen]
theorem J8l {P : Program} {k : TypeId} {κ : Type} [DecidableEq κ] {kv : κ → Value} (hs : ∀ a b w, (Op.equal k (kv a) (kv b)).run P w = .ok (decide (a = b)) w) : ∀ (es : List MapEntry) (D : List κ) (a : κ) (i : Nat) (w : World), es.map MapEntry.key = D.map kv →
    (Instr.findAsking k (kv a) es i).run P w = .ok ((fidx D a).bind fun j => es[j]?.map fun e => (i + j, e.val)) w
  | [], [], a, i, w, _ => rfl
  | [], _ :: _, a, i, w, h => by simp at h
  | _ :: _, [], a, i, w, h => by simp at h
  | e :: es, b :: D, a, i, w, h => by
    simp only [List.map_cons, List.cons.injEq] at h
    unfold Instr.findAsking
    simp only [Sem.run_bind, h.1, hs, Result.andThen_ok]
    by_cases hab : a = b
    · simp [hab, fidx]
    · simp only [hab, decide_false, fidx, if_false, Bool.false_eq_true]
      rw [J8l hs es D a (i + 1) w h.2]
      cases fidx D a with
      | none => rfl
      | some j =>
        simp only [Option.bind_some, Option.map_some, List.getElem?_cons_succ]
        congr 2
        funext e'
        congr 1
        omega
theorem MK.arr2 {P : Program} {k e : TypeId} {q : IntKind} {z : Option Value} {bb : Nat} (hk : P.underlying k = some (.array 2 e)) (he : P.underlying e = some (.int q)) (hi : ti P e = some (z, 1, bb)) : MK P k (fun a : Int × Int => Value.agg #[.int q a.1, .int q a.2]) where
  chk em a w := by
    have hsz : ∀ w, (Go.sizeOf e).run P w = .ok 1 w := fun w => run_sizeOf hi w
    have p : ∀ (x y : Value) (w : World), (part e #[x, y] 0).run P w = .ok x w := fun x y w => J9D he rfl rfl w
    have p' : ∀ (x y : Value) (w : World), (part e #[x, y] 1).run P w = .ok y w := fun x y w => J9D he rfl rfl w
    have c : ∀ (x : Int) (w : World), (Instr.checkKey em 9999 e (.int q x)).run P w = .ok () w := fun x w => Go.MapKept.run_checkKey (d := .int q) (k := Value.int q x) he (show q = q from rfl) em 9998
    unfold Instr.checkKey
    simp only [Sem.run_bind, run_underlying hk, Result.andThen_ok]
    simp [Std.Legacy.Range.forIn_eq_forIn_range', Std.Legacy.Range.size, List.range', hsz, p, p', c, Result.andThen]
  fnd es D a w h := by
    unfold Instr.findKey
    simp only [Sem.run_bind, run_underlying hk, Result.andThen_ok]
    cases es with
    | nil =>
      cases D with
      | nil => simp [Instr.findNow, fidx]
      | cons _ _ => simp at h
    | cons e0 es =>
      have hn : Instr.findNow (.array 2 e) (.agg #[.int q a.1, .int q a.2]) (e0 :: es) 0 = none := by
        simp [Instr.findNow, Instr.sameNow]
      rw [hn]
      refine (J8l (kv := fun a : Int × Int => Value.agg #[.int q a.1, .int q a.2]) (fun a b w => Ji4 hk he hi a.1 a.2 b.1 b.2 w) (e0 :: es) D a 0 w h).trans ?_
      simp only [Nat.zero_add]
  sam a := by simp [Instr.sameBits]
end Sg
