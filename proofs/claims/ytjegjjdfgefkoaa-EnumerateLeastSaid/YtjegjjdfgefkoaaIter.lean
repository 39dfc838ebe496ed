/- Iteration over a string of small letters. -/
import Derived.Test.YtjegjjdfgefkoaaOwn
import Derived.Laws.RangeAny
namespace Sg
open Go Go.RowKit
set_option linter.unusedVariables false
set_option linter.unusedSimpArgs false
section
variable {P : Program} {σ : Nat → Value} {w : World} {t t' ty e : TypeId} {x y z : Operand} {A : List Nat} {E : List Ent} {n0 : Nat}
theorem orange {s : List UInt8} (ht : P.underlying t = some .string) (hO : Owns n0 w E A) :
    ∃ w' B, Stp n0 A w E w' (.blk B (.stringIter (gstr s) 0) :: E) ∧ Same w w' ∧ ∀ {σ : Nat → Value} {x : Operand} {ty : TypeId}, ev σ x = .string (gstr s) → OpV P (.range t x) ty σ w (.pointer (some ⟨B, 0, none⟩)) w' := by
  have hs : Same w (w.iter (gstr s) 0) := ⟨rfl, rfl, rfl, by simp [World.iter], fun k hk => Below.heap_alloc _ _ _ hk⟩
  refine ⟨w.iter (gstr s) 0, w.heap.size, Stp.new hO hs (by simp [Ent.fp]) (fun b hb => by simp [Ent.fp] at hb; omega) ⟨hO.le, World.iter_heap w _ _⟩, hs, fun hx => .inl ?_⟩
  simp [execOp, opr, hx, run_range_string w t _ ht]
theorem lenApp {a b : List UInt8} (h : a.length + b.length ≤ 9223372036854775807) : (a ++ b).length ≤ mx := by rw [List.length_append]; exact h
theorem heap_setObj (w : World) (b : Nat) (o : Obj) (hb : b < w.heap.size) : ({ w with heap := w.heap.setIfInBounds b o } : World).heap[b]? = some o := by
  show (w.heap.setIfInBounds b o)[b]? = _
  simp [hb]
theorem getElem_gstr {s : List UInt8} {p : Nat} (h : p < s.length) : (gstr s)[p]'(by simpa using h) = ix s (p : Int) := by
  rw [ix_lt h]; rfl
theorem onext {B p : Nat} {s : List UInt8} (j : Nat) (hO : Owns n0 w E A) (hj : E[j]? = some (.blk B (.stringIter (gstr s) p))) (hp : (p : Int) < (s.length : Int)) (ha : (ix s (p : Int)).toNat < 128) :
    ∃ w', Stp n0 A w E w' (E.set j (.blk B (.stringIter (gstr s) (p + 1)))) ∧ ∀ {P : Program} {σ : Nat → Value} {x : Operand} {ty : TypeId}, ev σ x = .pointer (some ⟨B, 0, none⟩) →
      OpV P (.next x true) ty σ w (.tuple #[.bool true, .int .i64 (p : Int), .int .i32 ((ix s (p : Int)).toNat : Int)]) w' := by
  obtain ⟨hb, hh⟩ := hO.at_ _ (List.mem_of_getElem? hj)
  have hbs : B < w.heap.size := (Array.getElem?_eq_some_iff.1 hh).1
  have hp' : p < s.length := by omega
  have hps : p < (gstr s).size := by simpa using hp'
  have hdec : Utf8.decode (gstr s) p = ((ix s (p : Int)).toNat, 1) := by
    rw [decode_ascii (gstr s) p hps (by rw [getElem_gstr hp']; exact ha), getElem_gstr hp']
  refine ⟨{ w with heap := w.heap.setIfInBounds B (.stringIter (gstr s) (p + 1)) }, Stp.turn hO hj ⟨rfl, rfl, rfl⟩ (by simp) (fun b hb' hn => ?_) (by simp [Ent.fp]) (fun b hb' => .inl hb') ⟨hb, heap_setObj w B _ hbs⟩, fun {P σ x ty} hx => .inl ?_⟩
  · have hne : B ≠ b := fun h => hn (by simp [Ent.fp, h])
    show (w.heap.setIfInBounds B _)[b]? = _
    rw [Array.getElem?_setIfInBounds_ne hne]
  · simp only [execOp, opr, hx, Instr.next, getObj, setObj, Sem.run_bind, Sem.run, hh, Result.andThen, hps, if_true, hdec]
    simp [goInt]
theorem onextEnd {B p : Nat} {s : List UInt8} (j : Nat) (hO : Owns n0 w E A) (hj : E[j]? = some (.blk B (.stringIter (gstr s) p))) (hp : ¬ (p : Int) < (s.length : Int)) {P : Program} {σ : Nat → Value} {x : Operand} {ty : TypeId} (hx : ev σ x = .pointer (some ⟨B, 0, none⟩)) :
      OpV P (.next x true) ty σ w (.tuple #[.bool false]) w := by
  obtain ⟨hb, hh⟩ := hO.at_ _ (List.mem_of_getElem? hj)
  have hps : ¬ p < s.length := by omega
  refine .inl ?_
  simp [execOp, opr, hx, Instr.next, getObj, Sem.run, hh, hps]
end
end Sg
