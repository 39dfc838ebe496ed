/- -/
import Derived.Test.YtbmaaecppfdjfaaGreatDoorCA
import Derived.Test.YtbmaaecppfdjfaaGreatDoorCB
namespace Sg
open Go
set_option linter.unusedVariables false
set_option linter.unusedSimpArgs false
def CS (Lq : List (Option Addr)) (w w' : World) : Prop := ∀ q ∈ Lq, ∀ a, q = some a → w'.cell? a = w.cell? a
theorem CS.refl {Lq : List (Option Addr)} (w : World) : CS Lq w w := fun _ _ _ _ => rfl
theorem CS.trans {Lq : List (Option Addr)} {a b c : World} (h : CS Lq a b) (k : CS Lq b c) : CS Lq a c := fun q hq x hx => (k q hq x hx).trans (h q hq x hx)
theorem CS.nil (w w' : World) : CS [] w w' := fun _ h => nomatch h
theorem CS.cons {q : Option Addr} {Lq : List (Option Addr)} {w w' : World} (h : ∀ a, q = some a → w'.cell? a = w.cell? a) (k : CS Lq w w') : CS (q :: Lq) w w' := fun x hx => by
 rcases List.mem_cons.1 hx with rfl | hx
 ·exact h
 ·exact k x hx
section
variable {P : Program} {ops : Array Oper} {Q : Exit → Act → World → Prop} {Lq : List (Option Addr)}
def YDR (Lq : List (Option Addr)) (P : Program) (ops : Array Oper) (m : Md) (o : Oper) (v : Value) (a : Act) (w : World) : Prop :=
 (Region.wanted o (yielded ops a.tmps) = true ∧ ∀ w', (m = .pure ∨ CS Lq w w') → ((execOp a.eval o).run P w' = .ok (.value v) w' ∨ ((execOp a.eval o).run P w' = .ok .skip w' ∧ v = undef))) ∨
 (Region.wanted o (yielded ops a.tmps) = false ∧ v = undef)
theorem YDR.run {m : Md} {i : Nat} {o : Oper} {v : Value} {a : Act} {w : World} (hi : ops[i]? = some o) (hy : YDR Lq P ops m o v a w) {K : Act → World → Prop} (h : K (a.put o.dst v) w) : wpOp P ops Q i K a w := by
 unfold wpOp
 simp only [hi]
 rcases hy with ⟨hw, hv⟩ | ⟨hw, rfl⟩
 ·simp only [hw, if_true]
  refine .inl ?_
  unfold Oper.wp
  rcases hv w (.inr (CS.refl w)) with hx | ⟨hx, rfl⟩ <;> (rw [hx]; exact h)
 ·simp only [hw, Bool.false_eq_true, if_false]; exact h
end
def GoQR (Lq : List (Option Addr)) (P : Program) (f n : Nat) (L : List Oper) (s0 : List (Nat × Md)) (k : List Item) (R : Value → World → Prop) : List (Nat × Md) → (Nat → Value) → World → Prop
  | [], σ, w => Go1 P f n k σ w R
  | (i, m) :: s, σ, w => match nth L i with
    | none => False
    | some o => dOk n o.dst = true ∧ (match m with
      | .pure => (gd L σ o.guard = false ∧ GoQR Lq P f n L s0 k R s (putS σ o.dst undef) w) ∨ (gd L σ o.guard = true ∧ ∃ v, (∀ w', OpV P o.op o.type σ w' v w') ∧ GoQR Lq P f n L s0 k R s (putS σ o.dst v) w)
      | .stable => (gd L σ o.guard = false ∧ GoQR Lq P f n L s0 k R s (putS σ o.dst undef) w) ∨ (gd L σ o.guard = true ∧ ∃ v, (∀ w', CS Lq w w' → OpV P o.op o.type σ w' v w') ∧ GoQR Lq P f n L s0 k R s (putS σ o.dst v) w)
      | .loud => (gd L σ o.guard = false ∧ GoQR Lq P f n L s0 k R s (putS σ o.dst undef) w) ∨ (gd L σ o.guard = true ∧ ((∃ v w', OpV P o.op o.type σ w v w' ∧ CS Lq w w' ∧ GoQR Lq P f n L s0 k R s (putS σ o.dst v) w') ∨
          OpC P o.op o.type σ w fun v w' => CS Lq w w' ∧ GoQR Lq P f n L s0 k R s (putS σ o.dst v) w'))
      | .last => (gd L σ o.guard = false ∧ GoQR Lq P f n L s0 k R s (putS σ o.dst undef) w) ∨ (gd L σ o.guard = true ∧ ((∃ v w', OpV P o.op o.type σ w v w' ∧ GoQR Lq P f n L s0 k R s (putS σ o.dst v) w') ∨
          OpC P o.op o.type σ w fun v w' => GoQR Lq P f n L s0 k R s (putS σ o.dst v) w')))
section
variable {Lq : List (Option Addr)} {P : Program} {f n : Nat} {L : List Oper} {s0 s : List (Nat × Md)} {k : List Item} {σ : Nat → Value} {w w' : World} {R : Value → World → Prop} {i : Nat}
theorem GoQR.nil (h : Go1 P f n k σ w R) : GoQR Lq P f n L s0 k R [] σ w := h
theorem GoQR.pure {d : Option Nat} {op : Op} {ty : TypeId} {pos : String} {aft : Array Edge} {g : Option (Nat × Bool)} {v : Value}
  (hi : nth L i = some ⟨d, op, ty, pos, aft, g⟩) (hv : ∀ w', OpV P op ty σ w' v w') (hg : gd L σ g = true) (hd : dOk n d = true)
  (h : GoQR Lq P f n L s0 k R s (putS σ d v) w) : GoQR Lq P f n L s0 k R ((i, .pure) :: s) σ w := by
 simp only [GoQR, hi]; exact ⟨hd, .inr ⟨hg, v, hv, h⟩⟩
theorem GoQR.stable {d : Option Nat} {op : Op} {ty : TypeId} {pos : String} {aft : Array Edge} {g : Option (Nat × Bool)} {v : Value}
  (hi : nth L i = some ⟨d, op, ty, pos, aft, g⟩) (hv : ∀ w', CS Lq w w' → OpV P op ty σ w' v w') (hg : gd L σ g = true) (hd : dOk n d = true)
  (h : GoQR Lq P f n L s0 k R s (putS σ d v) w) : GoQR Lq P f n L s0 k R ((i, .stable) :: s) σ w := by
 simp only [GoQR, hi]; exact ⟨hd, .inr ⟨hg, v, hv, h⟩⟩
theorem GoQR.pass {d : Option Nat} {op : Op} {ty : TypeId} {pos : String} {aft : Array Edge} {g : Option (Nat × Bool)} {m : Md}
  (hi : nth L i = some ⟨d, op, ty, pos, aft, g⟩) (hg : gd L σ g = false) (hd : dOk n d = true)
  (h : GoQR Lq P f n L s0 k R s (putS σ d undef) w) : GoQR Lq P f n L s0 k R ((i, m) :: s) σ w := by
 cases m <;> (simp only [GoQR, hi]; exact ⟨hd, .inl ⟨hg, h⟩⟩)
theorem GoQR.loud {d : Option Nat} {op : Op} {ty : TypeId} {pos : String} {aft : Array Edge} {g : Option (Nat × Bool)} {v : Value}
  (hi : nth L i = some ⟨d, op, ty, pos, aft, g⟩) (hv : OpV P op ty σ w v w') (hs : CS Lq w w') (hg : gd L σ g = true) (hd : dOk n d = true)
  (h : GoQR Lq P f n L s0 k R s (putS σ d v) w') : GoQR Lq P f n L s0 k R ((i, .loud) :: s) σ w := by
 simp only [GoQR, hi]; exact ⟨hd, .inr ⟨hg, .inl ⟨v, w', hv, hs, h⟩⟩⟩
theorem GoQR.last {d : Option Nat} {op : Op} {ty : TypeId} {pos : String} {aft : Array Edge} {g : Option (Nat × Bool)} {v : Value}
  (hi : nth L i = some ⟨d, op, ty, pos, aft, g⟩) (hv : OpV P op ty σ w v w') (hg : gd L σ g = true) (hd : dOk n d = true)
  (h : GoQR Lq P f n L s0 k R s (putS σ d v) w') : GoQR Lq P f n L s0 k R ((i, .last) :: s) σ w := by
 simp only [GoQR, hi]; exact ⟨hd, .inr ⟨hg, .inl ⟨v, w', hv, h⟩⟩⟩
theorem GoQR.call {d : Option Nat} {op : Op} {ty : TypeId} {pos : String} {aft : Array Edge} {g : Option (Nat × Bool)} {R1 : Value → World → Prop}
  (hi : nth L i = some ⟨d, op, ty, pos, aft, g⟩) (hc : OpC P op ty σ w R1) (hs : ∀ v w', R1 v w' → CS Lq w w') (hg : gd L σ g = true) (hd : dOk n d = true)
  (h : ∀ v w', R1 v w' → GoQR Lq P f n L s0 k R s (putS σ d v) w') : GoQR Lq P f n L s0 k R ((i, .loud) :: s) σ w := by
 simp only [GoQR, hi]
 obtain ⟨fc, args, hx, hcall⟩ := hc
 exact ⟨hd, .inr ⟨hg, .inr ⟨fc, args, hx, CallsV.mono hcall fun v w' h' => ⟨hs v w' h', h v w' h'⟩⟩⟩⟩
end
section
variable {P : Program} {σ : Nat → Value} {w : World} {t ty e : TypeId} {x : Operand} {A : List Nat} {E : List Ent} {n0 : Nat}
theorem J0H {b i : Nat} {cs : Array Value} {T : TypeId} {fz : Nat × Nat} (j : Nat) (hO : Owns n0 w E A) (hj : E[j]? = some (.blk b (.cells cs T fz))) {v : Value} (hv : cs[i]? = some v) : ∀ a, (some ⟨b, i, none⟩ : Option Addr) = some a → w.cell? a = some v := by
 intro a ha
 cases ha
 have hh := (hO.at_ _ (List.mem_of_getElem? hj)).2
 simp [World.cell?, hh, hv]
theorem cs_eq {q : Option Addr} {w w' : World} {v : Value} (h : ∀ a, q = some a → w.cell? a = some v) (k : ∀ a, q = some a → w'.cell? a = some v) : ∀ a, q = some a → w'.cell? a = w.cell? a := fun a ha => (k a ha).trans (h a ha).symm
end
end Sg
