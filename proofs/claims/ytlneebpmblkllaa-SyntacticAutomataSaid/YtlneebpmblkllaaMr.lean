/- -/
import Derived.Test.YtlneebpmblkllaaMap
import Derived.Test.YtlneebpmblkllaaIter
import Derived.Test.YtlneebpmblkllaaVd
namespace Sg
open Go Go.RowKit Go.Proofs
set_option linter.unusedVariables false
set_option linter.unusedSimpArgs false
structure MpOk {κ ν : Type} (kv : κ → Value) (vv : ν → Value) (es : Array MapEntry) (clock : Nat) (D : List (κ × ν)) : Prop where
 eq : es.toList.map (fun e => (e.key, e.val)) = D.map fun p => (kv p.1, vv p.2)
 nd : (es.toList.map MapEntry.born).Nodup
 lt : ∀ e ∈ es.toList, e.born < clock
structure IMx (A : List Nat) (w : World) (b : Nat) (es : Array MapEntry) (clock : Nat) : Prop where
 lt : b < w.heap.size
 out : b ∉ A
 at_ : w.heap[b]? = some (.map es clock)
theorem IMx.ch {A A' : List Nat} {w w' : World} {b clock : Nat} {es : Array MapEntry} (h : IMx A w b es clock) (hc : Ch A w A' w') : IMx A' w' b es clock :=
 ⟨Nat.lt_of_lt_of_le h.lt hc.size, (hc.keep b h.lt h.out).2, by rw [(hc.keep b h.lt h.out).1]; exact h.at_⟩
theorem IMx.u {A A' : List Nat} {w w' : World} {b clock : Nat} {es : Array MapEntry} (h : IMx A w b es clock) (k : Ch A w A' w' := by exact chx) : IMx A' w' b es clock := h.ch k
theorem IMx.o {n0 : Nat} {A A0 : List Nat} {w w0 : World} {E : List Ent} {b clock : Nat} {es : Array MapEntry} (h : IMx A0 w0 b es clock) (hO : Owns n0 w E A) (k : Ch A0 w0 (bl E ++ A) w := by exact chx) : IMx (bl E ++ A) w b es clock := h.ch k
section
variable {κ ν : Type}
def IMp (kv : κ → Value) (vv : ν → Value) (A : List Nat) (w : World) (b : Nat) (D : List (κ × ν)) : Prop := ∃ es clock, IMx A w b es clock ∧ MpOk kv vv es clock D
variable {kv : κ → Value} {vv : ν → Value} {A A' : List Nat} {w w' : World} {b clock : Nat} {es : Array MapEntry} {D : List (κ × ν)}
theorem IMp.ch (h : IMp kv vv A w b D) (hc : Ch A w A' w') : IMp kv vv A' w' b D := let ⟨es, cl, h1, h2⟩ := h; ⟨es, cl, h1.ch hc, h2⟩
theorem IMp.u (h : IMp kv vv A w b D) (k : Ch A w A' w' := by exact chx) : IMp kv vv A' w' b D := h.ch k
theorem IMp.o {n0 : Nat} {A0 : List Nat} {w0 : World} {E : List Ent} (h : IMp kv vv A0 w0 b D) (hO : Owns n0 w E A) (k : Ch A0 w0 (bl E ++ A) w := by exact chx) : IMp kv vv (bl E ++ A) w b D := h.ch k
def ItL (kv : κ → Value) (vv : ν → Value) (es : Array MapEntry) (seen : Array Nat) (L : List (κ × ν)) : Prop :=
 (es.toList.filter fun e => !seen.contains e.born).map (fun e => (e.key, e.val)) = L.map fun p => (kv p.1, vv p.2)
theorem ItL.start (h : MpOk kv vv es clock D) : ItL kv vv es #[] D := by
 show (es.toList.filter fun e => !(#[] : Array Nat).contains e.born).map _ = _
 rw [List.filter_eq_self.2 (by intro a _; simp)]
 exact h.eq
variable {P : Program} {σ : Nat → Value} {t ty e k : TypeId} {x y z : Operand} {E : List Ent} {n0 : Nat}
def msE (kv : κ → Value) (vv : ν → Value) (bs : List Nat) (Ds : List (List (κ × ν))) : AnyE where
 F := bs
 H n0 w := bs.length = Ds.length ∧ ∀ i b D, bs[i]? = some b → Ds[i]? = some D → n0 ≤ b ∧ ∃ es clock, w.heap[b]? = some (.map es clock) ∧ MpOk kv vv es clock D
 lt h b hb := by
  obtain ⟨i, hi, he⟩ := List.getElem_of_mem hb
  obtain ⟨h1, es, cl, h2, _⟩ := h.2 i b (Ds[i]'(by rw [← h.1]; exact hi)) (by rw [List.getElem?_eq_getElem hi, he]) (List.getElem?_eq_getElem _)
  exact ⟨h1, (Array.getElem?_eq_some_iff.1 h2).1⟩
 keep h hk := ⟨h.1, fun i b D h1 h2 => by
  obtain ⟨h3, es, cl, h4, h5⟩ := h.2 i b D h1 h2
  exact ⟨h3, es, cl, by rw [hk b (List.mem_of_getElem? h1)]; exact h4, h5⟩⟩
 base hn h := ⟨h.1, fun i b D h1 h2 => let ⟨h3, h4⟩ := h.2 i b D h1 h2; ⟨Nat.le_trans hn h3, h4⟩⟩
theorem msE.nil (hO : Owns n0 w E A) : Stp n0 A w E w (.any (msE kv vv [] []) :: E) :=
 Stp.new hO (Same.refl w) (by simp [Ent.fp, msE]) (fun b hb => by simp [Ent.fp, msE] at hb) ⟨rfl, fun i b D h => by simp at h⟩
variable [DecidableEq κ]
end
section
variable {op : Op} {ty t t' e e2 : TypeId} {x y z : Operand} {σ : Nat → Value} {w w' : World} {E E' E1 : List Ent} {A : List Nat} {n0 : Nat} {Goal : Prop} {Gv : Value → Prop}
variable {α : Type} [Inhabited α] {r : Rp α} {hf : Fl r} {p : Option Addr} {m c : Nat} {xs : List α}
theorem seqB {b1 b2 : Bool} (hb : b1 = b2) (h : Gv (.bool true))
  (g : ∀ v, (∀ w, OpV Try.prog (.binOp .eql t x y t') ty σ w v w) → Gv v → Goal := by exact gp)
  (ht : UN t .bool := by exact und) (hx : ev σ x = .bool b1 := by exact rfl) (hy : ev σ y = .bool b2 := by exact rfl) : Goal :=
 g _ (fun w => by have h2 := Jav (t' := t') (ty := ty) ht.h hx hy w; subst hb; simpa using h2) h
theorem sxa1 {n z0 : Nat} {i q : Int} {zz : Option Value} {bb : Nat} (j : Nat) (hO : Owns n0 w E A) (h0 : 0 ≤ i) (h1 : i < (xs.length : Int)) (h : Gv (.pointer (padd (padd p (i.toNat * z0)) q.toNat)))
  (g : ∀ v, (∀ w, OpV Try.prog (.indexAddr t x y) ty σ w v w) → Gv v → Goal := by exact gp)
  (hj : E[j]? = some (t1 hf e p m c xs) := by exact rfl) (ht : UN t (.array n e2) := by exact und) (he : TI e2 zz 1 bb := by exact tin) (hx : ev σ x = .pointer (padd p (i.toNat * z0)) := by exact rfl) (hy : ev σ y = .int .i64 q := by exact rfl) (hz : r.sz = z0 := by exact rfl) (hq : 0 ≤ q ∧ q < n := by decide) : Goal := by
 subst hz
 obtain ⟨a, ha, hsp, _⟩ := (t1lend j hO hj).elem h0 h1
 refine g _ (fun w => ?_) h
 rw [ha] at hx ⊢
 obtain ⟨b, o, sp⟩ := a
 simp only at hsp
 subst hsp
 refine .inl ?_
 have hs := fun w => run_sizeOf he.h w
 simp [execOp, opr, hx, hy, Instr.indexAt, Instr.sureAddr, run_underlying ht.h, asIntOf, hq.1, hq.2, hs, Addr.add_lit, padd]
end
section
variable {op : Op} {ty t t' e : TypeId} {x y z : Operand} {σ : Nat → Value} {w w' : World} {E E' E1 : List Ent} {A : List Nat} {n0 : Nat} {Goal : Prop} {Gv : Value → Prop}
variable {α : Type} [Inhabited α] {sz : Nat} {enc : α → List Value} {ok : α → Prop} {ps0 : 0 < sz} {ln : ∀ x, (enc x).length = sz} {on : ∀ x, ∀ v ∈ enc x, v.oneCell' = true} {ff : Fl (Rp.flat sz enc ok ps0 ln on)} {p : Option Addr} {m c : Nat} {xs : List α}
theorem sldG1 {i : Int} {o : Nat} {v : Value} (j : Nat) (hO : Owns n0 w E A) (h0 : 0 ≤ i) (h1 : i < (xs.length : Int)) (h : Gv v)
  (g : ∀ v, (∀ w', Same w w' → OpV Try.prog (.load t x) ty σ w' v w') → Gv v → Goal := by exact gs)
  (hx : ev σ x = .pointer (padd (padd p (i.toNat * sz)) o) := by exact rfl) (hj : E[j]? = some (t1 ff e p m c xs) := by exact rfl) (hv : (enc (ix xs i))[o]? = some v := by exact rfl) {dd : TypeDesc} (ht : UN t dd := by exact und) (hd : scB dd = true := by exact rfl) : Goal :=
 g _ (fun w' hw => ldFld (t1lend j hO hj) h0 h1 hv ht.h hd hx w' hw) h
end
end Sg
