/- -/
import Derived.Test.YtbmaaecppfdjfaaGreatDoorCB
import Derived.Laws.CopyRow
import Derived.Laws.IdiomCopy
namespace Sg
open Go Go.RowKit
set_option linter.unusedVariables false
set_option linter.unusedSimpArgs false
section
variable {P : Program} {σ : Nat → Value} {w : World} {t t' ty e : TypeId} {x y z : Operand} {A : List Nat} {E : List Ent} {n0 : Nat}
theorem ocopy {α : Type} {r : Rp α} (hf : Fl r) (r1 : r.sz = 1) {zz : Option Value} {bb : Nat} (ht : P.underlying t = some (.slice e)) (he : ti P e = some (zz, 1, bb))
    {p : Option Addr} {n c : Nat} {vs : List Value} {xs : List α} (j : Nat) (hO : Owns n0 w E A) (hj : E[j]? = some (.row e 1 p n c vs)) (hE : Els r (bl E ++ A) w vs xs)
    {p' : Option Addr} {c' : Nat} {ys : List α} (hS : ISl r (bl E ++ A) w p' c' ys) :
    ∃ w' vs', Stp n0 A w E w' (E.set j (.row e 1 p n c vs')) ∧ Els r (bl (E.set j (.row e 1 p n c vs')) ++ A) w' vs' (ys.take xs.length ++ xs.drop ys.length) ∧
      ∀ {σ : Nat → Value} {x y : Operand} {t2 ty : TypeId}, ev σ x = .slice p n c → ev σ y = .slice p' ys.length c' → OpV P (.call { callee := .builtin .copy, args := #[x, y], argTypes := #[t, t2] }) ty σ w (.int .i64 (min ys.length n : Nat)) w' := by
  have hh := hO.at_ _ (List.mem_of_getElem? hj)
  have hn : n = xs.length := by rw [← r1] at hj; exact hE.n_eq (r := r) (hO.at_ _ (List.mem_of_getElem? hj))
  have hvl := hE.len
  rw [r1, Nat.mul_one] at hvl
  have hsz : (P.info? e).map (·.size) = some 1 := by
    unfold ti at he
    cases hq : P.info? e with
    | none => rw [hq] at he; simp at he
    | some i => rw [hq] at he; simp at he; simp [he.2.1]
  by_cases h0 : min ys.length n = 0
  · refine ⟨w, vs, ?_, ?_, fun hx hy => .inl ?_⟩
    · obtain ⟨hjl, hje⟩ := (List.getElem?_eq_some_iff.1 hj)
      rw [← hje, List.set_getElem_self]
      exact Stp.same hO (Same.refl w)
    · obtain ⟨hjl, hje⟩ := (List.getElem?_eq_some_iff.1 hj)
      rw [← hje, List.set_getElem_self]
      have : ys.take xs.length ++ xs.drop ys.length = xs := by
        by_cases hy : ys.length = 0
        · rw [List.eq_nil_of_length_eq_zero hy]; simp
        · have : xs.length = 0 := by omega
          rw [List.eq_nil_of_length_eq_zero this]; simp
      rw [this]; exact hE
    · have hrun := fun ty t2 => run_copy_none (P := P) w t t2 ty e p p' n c ys.length c' ht hsz h0
      simp [execOp, opr, hx, hy, resolve, invoke, builtin, hrun, h0, goInt]
  · rcases hh.2 with ⟨hv, h2⟩ | ⟨g, cap, cur, hv, hb, hg, h1, h2, h3, h4⟩
    · omega
    · cases hv
      cases p' with
      | none => have := hS.nil rfl; have := hS.cap; omega
      | some a =>
        obtain ⟨us, hU, hcell, hone⟩ := hS.cells
        have hul := hU.len
        rw [r1, Nat.mul_one] at hul
        have hk : ∃ k, k = min ys.length n := ⟨_, rfl⟩
        obtain ⟨k, hk⟩ := hk
        rw [Nat.mul_one] at h4
        have hcs : n ≤ cur.size := by
          have : (cur.toList.take n).length = n := by rw [h4]; omega
          simp at this; omega
        have hl : (us.take k).length = k := by simp; omega
        have hcur : (us.take k ++ cur.toList.drop k).take n = us.take k ++ vs.drop k := by
          rw [List.take_append, hl, List.take_of_length_le (by rw [hl]; omega), ← h4, List.drop_take]
        have hrun := fun ty t2 => run_copy_row (P := P) w t t2 ty e g 0 n c a ys.length c' cur e (us.take k) ht hsz hg (by rw [hl, hk]) (fun q v hq => hcell q v (by
          rw [List.getElem?_take] at hq
          split at hq
          · exact hq
          · cases hq)) (by rw [hl]; omega) (fun v hv => hone v (List.mem_of_mem_take hv))
        simp only [hl, List.take_zero, List.nil_append, Nat.zero_add] at hrun
        refine ⟨_, us.take k ++ vs.drop k, Stp.turn (w' := w.setRow g (us.take k ++ cur.toList.drop k).toArray) hO hj ⟨rfl, rfl, rfl⟩ (by rw [setRow_size]; exact Nat.le_refl _) (fun b _ hnb => setRow_other w g b _ (by simpa [Ent.fp] using hnb)) (by simp [Ent.fp]) (fun b hb => .inl hb) ?_, ?_, fun hx hy => .inl ?_⟩
        · refine ⟨by simp; omega, .inr ⟨g, c, _, rfl, hb, setRow_heap w g _ _ e _ hg, h1, h2, by simp; omega, by simpa using hcur⟩⟩
        · refine ⟨by simp [r1]; omega, by have := hE.bd; simp; omega, fun q hq => ?_⟩
          simp only [List.length_append, List.length_take, List.length_drop] at hq
          by_cases hqk : q < k
          · rw [List.getElem_append_left (by simp; omega), List.getElem_take]
            refine r.ext (fun i hi => ?_) (hf (hU.at_ q (by omega)))
            obtain rfl : i = 0 := by omega
            rw [r1, Nat.mul_one, Nat.add_zero, List.getElem?_append_left (by omega), List.getElem?_take, if_pos hqk]
          · rw [List.getElem_append_right (by simp; omega), List.getElem_drop]
            refine r.ext (fun i hi => ?_) (hf (hE.at_ (ys.length + (q - (ys.take xs.length).length)) (by simp; omega)))
            obtain rfl : i = 0 := by omega
            rw [r1, Nat.mul_one, Nat.add_zero, Nat.mul_one, Nat.add_zero, List.getElem?_append_right (by omega), List.getElem?_drop, hl]
            congr 1
            simp; omega
        · simp [execOp, opr, hx, hy, resolve, invoke, builtin, hrun, goInt, ← hk]
end
end Sg
