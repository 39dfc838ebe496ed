/- -/
import Derived.Test.YtlneebpmblkllaaIter
namespace Sg
open Go Go.RowKit
set_option linter.unusedVariables false
set_option linter.unusedSimpArgs false
section
variable {P : Program} {σ : Nat → Value} {w : World} {t t' ty e : TypeId} {x y z : Operand} {A : List Nat} {E : List Ent} {n0 : Nat}
def AL {α : Type} (r : Rp α) (B : List Nat) (w : World) (pn : Option Addr) (xs : List α) (p : Option Addr) (c : Nat) (ys : List α) : Prop :=
 ISl r B w p c ys ∨ (p = pn ∧ (∃ zs, xs = ys ++ zs) ∧ ys.length ≤ c ∧ (p = none → c = 0))
theorem AL.ch {α : Type} {r : Rp α} {B B' : List Nat} {w w' : World} {pn p : Option Addr} {c : Nat} {xs ys : List α} (h : AL r B w pn xs p c ys) (hc : Ch B w B' w') : AL r B' w' pn xs p c ys :=
 h.imp (fun h => h.ch hc) id
theorem ISl.take {α : Type} {r : Rp α} {B : List Nat} {w : World} {p : Option Addr} {c : Nat} {xs : List α} (h : ISl r B w p c xs) (k : Nat) : ISl r B w p c (xs.take k) := by
 refine ⟨Nat.le_trans (by simp; omega) h.cap, Nat.le_trans (by simp; omega) h.bd, h.nil, fun a ha j hj => ?_⟩
 simp only [List.length_take] at hj
 have := h.at_ a ha j (by omega)
 simpa using this
theorem AL.app {α : Type} {r : Rp α} {B B' : List Nat} {w w' : World} {pn pn' p : Option Addr} {c cn : Nat} {xs ys us : List α} (h : AL r B w pn xs p c ys) (hc : Ch B w B' w') (hold : pn' = pn ∨ ISl r B' w' pn cn xs) : AL r B' w' pn' (xs ++ us) p c ys := by
 rcases h with h | ⟨h1, ⟨zs, h2⟩, h4, h5⟩
 ·exact .inl (h.ch hc)
 ·rcases hold with h3 | h3
  ·exact .inr ⟨h1.trans h3.symm, ⟨zs ++ us, by rw [h2, List.append_assoc]⟩, h4, h5⟩
  ·left
   have := h3.take ys.length
   rw [h2, List.take_left'] at this
   ·rw [h1] at h5 ⊢; exact ⟨h4, this.bd, h5, this.at_⟩
   ·rfl
theorem AL.start {α : Type} {r : Rp α} {p : Option Addr} {m c : Nat} {vs : List Value} {xs : List α} (j : Nat) (hO : Owns n0 w E A) (hj : E[j]? = some (.row e r.sz p m c vs)) (hE : Els r (bl E ++ A) w vs xs) (k : Nat) : AL r (bl E ++ A) w p xs p c (xs.take k) := by
 have hh := hO.at_ _ (List.mem_of_getElem? hj)
 have hn := hE.n_eq hh
 have hle := (J4r hh).1
 refine .inr ⟨rfl, ⟨xs.drop k, (List.take_append_drop k xs).symm⟩, by simp; omega, fun hp => ?_⟩
 subst hp
 rcases hh.2 with ⟨hv, _⟩ | ⟨g, cap, cur, hv, _⟩
 ·cases hv; rfl
 ·cases hv
theorem AL.some_ {α : Type} {r : Rp α} {B : List Nat} {pn p : Option Addr} {c : Nat} {xs ys : List α} (h : AL r B w pn xs p c ys) {i : Int} (h0 : 0 ≤ i) (h1 : i < ys.length) : p.isSome = true := by
 rcases h with h | ⟨_, _, h4, h5⟩
 ·exact h.some_ h0 h1
 ·cases p with
  | some a => rfl
  | none => have := h5 rfl; omega
theorem J8i {α : Type} [Inhabited α] {ys zs : List α} {i : Int} (h0 : 0 ≤ i) (h1 : i < ys.length) : ix (ys ++ zs) i = ix ys i := by
 rw [ix_eq (by simp; omega), ix_eq (by omega), List.getElem_append_left]
theorem AL.int {k : IntKind} {p : Option Addr} {m c cc : Nat} {vs : List Value} {xs ys : List Int} {pa : Option Addr} (j : Nat) (hO : Owns n0 w E A) (hj : E[j]? = some (.row e 1 p m c vs)) (hE : Els (Rp.int k) (bl E ++ A) w vs xs) (h : AL (Rp.int k) (bl E ++ A) w p xs pa cc ys)
  {i : Int} (h0 : 0 ≤ i) (h1 : i < ys.length) {d : TypeDesc} (ht : P.underlying t = some d) (hd : scB d = true) (hx : ev σ x = .pointer (padd pa (i.toNat * 1))) (w' : World) (hw : Same w w') : OpV P (.load t x) ty σ w' (.int k (ix ys i)) w' := by
 rcases h with h | ⟨h2, ⟨zs, h3⟩, _, _⟩
 ·exact ldInt h h0 h1 ht hd hx w' hw
 ·subst h2
  have := oldInt (i := i) j hO hj hE h0 (by rw [h3]; simp; omega) ht hd hx w' hw (ty := ty)
  rwa [h3, J8i h0 h1] at this
end
section
variable {P : Program} {f n : Nat} {k : List Item} {σ : Nat → Value} {w w' : World} {R : Value → World → Prop} {L l : List Oper} {s0 s : List (Nat × Md)} {i : Nat}
variable {t t' ty e : TypeId} {x y z : Operand} {A : List Nat} {E : List Ent} {n0 : Nat}
theorem J6l {g : FuncId} {xs : List Operand} {vs caps : List Value} {ts : Array TypeId} {R1 : Value → World → Prop} (hb : Body P g) (hx : ev σ x = .func (.func g) #[] caps.toArray) (hl : xs.map (ev σ) = vs) (hc : CallsV P g (vs ++ caps).toArray w R1) :
  OpC P (.call { callee := .value x, args := xs.toArray, argTypes := ts }) ty σ w R1 := by
 refine ⟨g, (vs ++ caps).toArray, ?_, hc⟩
 subst hl
 simp [execOp, opr, resolve, hx, Deferred.ofValue, invoke, J59 hb]
theorem GoR.inl {g m : Nat} {fn : Func} {c : Code} {xs : List Operand} {vs caps : List Value} {ts : Array TypeId} {d : Option Nat} {pos : String} {aft : Array Edge} {gg : Option (Nat × Bool)}
  (hx : ev σ x = .func (.func g) #[] caps.toArray) (hl : xs.map (ev σ) = vs) (hb : Body P g) (hf : P.funcs[g]? = some fn) (hbody : fn.body = some c) (hn : fn.ntmps = m) (hle : Nat.ble (vs ++ caps).length m = true) (hg : gd L σ gg = true) (hd : dOk n d = true)
  (h : ∀ R1 : Value → World → Prop, (∀ v w', GoR P f n L l k (putS σ d v) w' R → R1 v w') → Go1 P g m [.code c] (initσ (vs ++ caps)) w R1) :
  GoR P f n L (⟨d, .call { callee := .value x, args := xs.toArray, argTypes := ts }, ty, pos, aft, gg⟩ :: l) k σ w R :=
 GoR.call (J6l hb hx hl (CallsV.of hf hbody hn hle (h _ fun _ _ h => h))) hg hd fun _ _ h => h
theorem GoQ.inl {g m : Nat} {fn : Func} {c : Code} {xs : List Operand} {vs caps : List Value} {ts : Array TypeId} {d : Option Nat} {pos : String} {aft : Array Edge} {gg : Option (Nat × Bool)}
  (hi : nth L i = some ⟨d, .call { callee := .value x, args := xs.toArray, argTypes := ts }, ty, pos, aft, gg⟩)
  (hx : ev σ x = .func (.func g) #[] caps.toArray) (hl : xs.map (ev σ) = vs) (hb : Body P g) (hf : P.funcs[g]? = some fn) (hbody : fn.body = some c) (hn : fn.ntmps = m) (hle : Nat.ble (vs ++ caps).length m = true) (hg : gd L σ gg = true) (hd : dOk n d = true)
  (h : ∀ R1 : Value → World → Prop, (∀ v w', GoQ P f n L s0 k R s (putS σ d v) w' → R1 v w') → Go1 P g m [.code c] (initσ (vs ++ caps)) w R1) :
  GoQ P f n L s0 k R ((i, .last) :: s) σ w :=
 GoQ.callLast hi (J6l hb hx hl (CallsV.of hf hbody hn hle (h _ fun _ _ h => h))) hg hd fun _ _ h => h
theorem Go1.ret1V {fn : Func} {r : Nat} {v : Value} (hf : P.funcs[f]? = some fn) (hr : fn.results = #[.tmp r]) (hv : σ r = v) (h : R v w) : Go1 P f n (.code .ret :: k) σ w R := Go1.ret1 hf hr (hv ▸ h)
theorem natbd {k m : Nat} (h : (k : Int) < (m : Int)) (hb : m ≤ mx) : I64 ((k : Int) + 1) := by unfold mx at hb; exact ⟨by omega, by omega⟩
theorem J5C {g : FuncId} {xs : List Operand} {vs : List Value} (hl : xs.map (ev σ) = vs) (w : World) : OpV P (.makeFunc (.func g) #[] xs.toArray) ty σ w (.func (.func g) #[] vs.toArray) w := .inl (by
 subst hl
 simp [execOp, opr, Instr.makeFunc])
theorem J23 {zv : Value} {b s : Nat} (he : ti P t = some (some zv, s, b)) (w : World) : (zeroValue t).run P w = .ok zv w := by
 obtain ⟨i, hi, hz1, hz2, hz3⟩ := J2z he
 simp [zeroValue, typeInfo, hi, hz1]
theorem oalloc {zv : Value} {cs : Array Value} {b s : Nat} (he : ti P t = some (some zv, s, b)) (hO : Owns n0 w E A) (hc : zv.cells = cs) :
  ∃ w' B, Stp n0 A w E w' (.blk B (.cells cs t (0, 0)) :: E) ∧ Same w w' ∧ ∀ {σ : Nat → Value} {ty : TypeId}, OpV P (.alloc t) ty σ w (.pointer (some ⟨B, 0, none⟩)) w' := by
 have hs : Same w (w.alloc (.cells cs t (0, 0))) := ⟨rfl, rfl, rfl, by simp, fun k hk => Below.heap_alloc _ _ _ hk⟩
 refine ⟨w.alloc (.cells cs t (0, 0)), w.heap.size, Stp.new hO hs (by simp [Ent.fp]) (fun b hb => by simp [Ent.fp] at hb; omega) ⟨hO.le, heap_alloc_new w _⟩, hs, .inl ?_⟩
 subst hc
 simp [execOp, opr, Instr.alloc, J23 he, newVar, newRow]
end
end Sg
