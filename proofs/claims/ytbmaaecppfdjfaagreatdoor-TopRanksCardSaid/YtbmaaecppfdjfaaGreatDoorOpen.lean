/- -/
import Derived.Test.YtbmaaecppfdjfaaGreatDoorCB
import Derived.ChangeArms
import Derived.ChangeOld
namespace Sg
open Go Go.RowKit
set_option linter.unusedVariables false
set_option linter.unusedSimpArgs false
def Opens (P : Program) (t : TypeId) {α : Type} (r : Rp α) : Prop :=
 ∀ {H : Type} {enc : TypeId × Value → H} {w : World} {base : Nat} {spare : Nat → Bool} {held : Bool} {fuel : Nat} {cs : List Value} {x : DataW H × List MemPlace}, DataW.trod enc P w base spare held fuel t cs = some x → cs.length = r.sz ∧ ∃ d : α, r.R [] w (fun i => cs[i]?) d
section
variable {P : Program} {t e : TypeId}
theorem Opens.int {k : IntKind} (ht : P.underlying t = some (.int k)) : Opens P t (Rp.int k) := by
 intro H enc w base spare held fuel cs x h
 obtain ⟨n, rfl, _, _⟩ := DataW.trod_int ht h
 exact ⟨rfl, n, rfl⟩
theorem Opens.bool (ht : P.underlying t = some .bool) : Opens P t Rp.bool := by
 intro H enc w base spare held fuel cs x h
 obtain ⟨n, rfl, _⟩ := DataW.trod_bool ht h
 exact ⟨rfl, n, rfl⟩
theorem Opens.str (ht : P.underlying t = some .string) : Opens P t Rp.str := by
 intro H enc w base spare held fuel cs x h
 obtain ⟨s, rfl, _, hs⟩ := DataW.trod_string ht h
 refine ⟨rfl, s.data.toList, by show some _ = _; rw [JbL], ?_⟩
 have h1 : s.data.toList.length = s.size := (Lib.size_eq s).symm
 simp only [maxLen] at hs
 rw [h1]
 simp only [mx]; omega
theorem Jed {w : World} {base : Nat} {a : Addr} {n : Nat} {cs : List Value} (h : w.cells? base a n = some cs) : cs.length = n ∧ ∀ i (hi : i < n), w.cell? (a.add i) = cs[i]? := by
 unfold World.cells? at h
 split at h
 ·have hl : cs.length = n := by simpa using mapM_some_length h
  refine ⟨hl, fun i hi => ?_⟩
  have := mapM_some_get h i i (by simp [hi])
  exact this
 ·cases h
theorem Jcz {w : World} {a : Addr} {v : Value} (h : w.cell? a = some v) : a.spot = none ∧ a.block < w.heap.size := by
  unfold World.cell? at h
  cases hb : w.heap[a.block]? with
  | none => simp [hb] at h
  | some o =>
    refine ⟨?_, (Array.getElem?_eq_some_iff.1 hb).1⟩
    cases o <;> simp [hb] at h
    exact h.1
theorem Opens.sl {α : Type} {r : Rp α} (ht : P.underlying t = some (.slice e)) (hc : P.cellsOf e = r.sz) (he : Opens P e r) {H : Type} {enc : TypeId × Value → H} {w : World} {base : Nat} {spare : Nat → Bool} {held : Bool} {fuel : Nat} {cs : List Value} {x : DataW H × List MemPlace}
    (h : DataW.trod enc P w base spare held fuel t cs = some x) : ∃ (p : Option Addr) (c : Nat) (xs : List α), cs = [.slice p xs.length c] ∧ ISl r [] w p c xs := by
  rcases DataW.trod_slice ht h with ⟨rfl, _⟩ | ⟨a, len, cap, elems, rest, n, _, rfl, _, hb, hl, hm, hlen, hel, _, _⟩
  · exact ⟨none, 0, [], rfl, ISl.null r [] w⟩
  · have each : ∀ i, i < len → ∃ d : α, ∃ cs, w.cells? base (a.add (i * r.sz)) r.sz = some cs ∧ r.R [] w (fun j => cs[j]?) d := by
      intro i hi
      have h1 := hel i hi
      rw [hc] at h1
      have h2 : elems[i]? = some (elems[i]'(by omega)) := List.getElem?_eq_getElem (by omega)
      rw [h2, Option.bind_eq_some_iff] at h1
      obtain ⟨cs, hcs, htr⟩ := h1
      obtain ⟨_, d, hd⟩ := he htr
      exact ⟨d, cs, hcs, hd⟩
    have hx : ∃ xs : List α, xs.length = len ∧ ∀ i (hi : i < xs.length), ∃ cs, w.cells? base (a.add (i * r.sz)) r.sz = some cs ∧ r.R [] w (fun j => cs[j]?) xs[i] := by
      clear hel hlen h hl hm
      have key : ∀ m, m ≤ len → ∃ xs : List α, xs.length = m ∧ ∀ i (hi : i < xs.length), ∃ cs, w.cells? base (a.add (i * r.sz)) r.sz = some cs ∧ r.R [] w (fun j => cs[j]?) xs[i] := by
        intro m
        induction m with
        | zero => intro _; exact ⟨[], rfl, fun i hi => by simp at hi⟩
        | succ m ih =>
          intro hm
          obtain ⟨xs, hxl, hxs⟩ := ih (by omega)
          obtain ⟨d, hd⟩ := each m (by omega)
          refine ⟨xs ++ [d], by simp [hxl], fun i hi => ?_⟩
          by_cases hlt : i < xs.length
          · rw [List.getElem_append_left hlt]; exact hxs i hlt
          · have : i = m := by simp [hxl] at hi; omega
            subst this
            simp only [List.getElem_append_right (Nat.le_of_eq hxl), List.getElem_singleton]
            exact hd
      exact key len (Nat.le_refl _)
    obtain ⟨xs, rfl, hxs⟩ := hx
    refine ⟨some a, cap, xs, rfl, hl, by simp only [maxLen] at hm; simp only [mx]; omega, (fun h => nomatch h), ?_⟩
    intro a' ha' k hk
    cases ha'
    obtain ⟨cs, hcs, hR⟩ := hxs k hk
    obtain ⟨hcl, hg⟩ := Jed hcs
    have h0 := hg 0 r.pos
    have hsome : ∃ v, cs[0]? = some v := ⟨_, List.getElem?_eq_getElem (by have := r.pos; omega)⟩
    obtain ⟨v, hv⟩ := hsome
    rw [hv] at h0
    have hsp : a.spot = none ∧ a.block < w.heap.size := by
      by_cases hz : k * r.sz = 0
      · rw [hz, Addr.add_zero', Addr.add_zero'] at h0
        exact Jcz h0
      · have hk0 : 0 < k := by
          rcases Nat.eq_zero_or_pos k with h | h
          · subst h; simp at hz
          · exact h
        obtain ⟨cs0, hcs0, _⟩ := hxs 0 (by omega)
        obtain ⟨hcl0, hg0⟩ := Jed hcs0
        have h00 := hg0 0 r.pos
        rw [Nat.zero_mul, Addr.add_zero', Addr.add_zero', List.getElem?_eq_getElem (by have := r.pos; omega)] at h00
        exact Jcz h00
    refine ⟨hsp.1, hsp.2, List.not_mem_nil, r.ext (fun i hi => ?_) hR⟩
    show w.cell? _ = _
    rw [← hg i hi, add_lit' a hsp.1, add_lit' _ rfl]
    simp [Nat.add_assoc]
theorem Opens.ofSl {α : Type} {r : Rp α} (ht : P.underlying t = some (.slice e)) (hc : P.cellsOf e = r.sz) (he : Opens P e r) : Opens P t r.sl := by
 intro H enc w base spare held fuel cs x h
 obtain ⟨p, c, xs, rfl, hI⟩ := Opens.sl ht hc he h
 exact ⟨rfl, xs, p, c, rfl, hI⟩
end
end Sg
namespace Sg
open Go
theorem size4 {cs : Array Value} (h : cs.size = 4) : ∃ a b c d : Value, cs = #[a, b, c, d] := by
 obtain ⟨l⟩ := cs
 match l, h with
 | [a, b, c, d], _ => exact ⟨a, b, c, d, rfl⟩
end Sg
