/- -/
import Derived.Test.YtlneebpmblkllaaCall
import Derived.Laws.CopyRow
import Derived.Laws.Rows
namespace Sg
open Go Go.RowKit
set_option linter.unusedVariables false
set_option linter.unusedSimpArgs false
section
variable {P : Program} {σ : Nat → Value} {w : World} {t ty e : TypeId} {x y : Operand} {A : List Nat} {E : List Ent} {n0 : Nat}
theorem J7h {g o : Nat} {T : TypeId} {cur : Array Value} {v : Value} {us : List Value} {zz : Option Value} {b : Nat} (hg : w.heap[g]? = some (.cells cur T (0, 0))) (hv : v.cells.toList = us) (h1 : ∀ u ∈ us, u.oneCell' = true) (hfit : o + us.length ≤ cur.size)
  (he : ti P t = some (zz, us.length, b)) (hx : ev σ x = .pointer (some ⟨g, o, none⟩)) (hy : ev σ y = v) : OpV P (.store t x y) ty σ w undef (w.setRow g (cur.toList.take o ++ us ++ cur.toList.drop (o + us.length)).toArray) := .inr (by
 have hs := fun w => run_sizeOf he w
 have hsz : v.cells.size = us.length := by rw [← hv]; simp
 have hst := run_storeCells_at P g o T us 0 cur w hg (by simpa using hfit) h1
 simp only [Nat.add_zero] at hst
 simp [execOp, opr, hx, hy, Instr.storeAt, Instr.sureAddr, storeVar, hs, hsz, hv, hst])
theorem J8d (w : World) (g : Nat) (cs : Array Value) (k : Nat) (h : k ≠ g) : (w.setRow g cs).heap[k]? = w.heap[k]? := by
 simp [World.setRow, Array.getElem?_modify, Ne.symm h]
theorem J6R {b o : Nat} {cs : Array Value} {T : TypeId} {us : List Value} {cs' : Array Value} (j : Nat) (hO : Owns n0 w E A) (hj : E[j]? = some (.blk b (.cells cs T (0, 0)))) (h1' : us.all Value.oneCell' = true) (hfit : o + us.length ≤ cs.size) (hcs : (cs.toList.take o ++ us ++ cs.toList.drop (o + us.length)).toArray = cs') :
  ∃ w', Stp n0 A w E w' (E.set j (.blk b (.cells cs' T (0, 0)))) ∧ ∀ {P : Program} {σ : Nat → Value} {t ty : TypeId} {x y : Operand} {v : Value} {zz : Option Value} {bb : Nat}, ti P t = some (zz, us.length, bb) →
   ev σ x = .pointer (some ⟨b, o, none⟩) → ev σ y = v → v.cells.toList = us → OpV P (.store t x y) ty σ w undef w' := by
 obtain ⟨hb, hh⟩ := hO.at_ _ (List.mem_of_getElem? hj)
 subst hcs
 have h1 : ∀ u ∈ us, u.oneCell' = true := List.all_eq_true.1 h1'
 refine ⟨w.setRow b (cs.toList.take o ++ us ++ cs.toList.drop (o + us.length)).toArray, Stp.turn hO hj ⟨rfl, rfl, rfl⟩ (by simp) (fun k hk hn => J8d w b _ k (by simpa [Ent.fp] using hn)) (by simp [Ent.fp]) (fun k hk => .inl hk) ⟨hb, setRow_heap w b cs _ T (0, 0) hh⟩, fun he hx hy hv => ?_⟩
 exact J7h hh hv h1 hfit he hx hy
end
theorem J01 {α : Type} {a b : α} {l m : List α} (h : a = b) (k : l = m) : a :: l = b :: m := by rw [h, k]
def Rp.flat {α : Type} (sz : Nat) (enc : α → List Value) (ok : α → Prop) (pos : 0 < sz) (len : ∀ x, (enc x).length = sz) (one : ∀ x, ∀ v ∈ enc x, v.oneCell' = true) : Rp α where
 sz := sz
 pos := pos
 R _ _ cs x := ok x ∧ ∀ i, i < sz → cs i = (enc x)[i]?
 ch _ h := h
 ext e h := ⟨h.1, fun i hi => (e i hi).trans (h.2 i hi)⟩
 one {A w cs x} h i hi := by
  have hl : i < (enc x).length := by rw [len]; exact hi
  exact ⟨(enc x)[i], by rw [h.2 i hi, List.getElem?_eq_getElem hl], one x _ (List.getElem_mem hl)⟩
section
variable {P : Program} {σ : Nat → Value} {w : World} {t ty e : TypeId} {x y : Operand} {A : List Nat} {E : List Ent} {n0 : Nat}
variable {α : Type} [Inhabited α] {sz : Nat} {enc : α → List Value} {ok : α → Prop} {ps : 0 < sz} {ln : ∀ x, (enc x).length = sz} {on : ∀ x, ∀ v ∈ enc x, v.oneCell' = true}
end
section
variable {P : Program} {σ : Nat → Value} {w : World} {t : TypeId} {A : List Nat} {E : List Ent} {n0 f n : Nat} {k : List Item} {R : Value → World → Prop}
theorem J7f {b : Nat} {cs : Array Value} {T : TypeId} {fz : Nat × Nat} {vs : List Value} (j : Nat) (hO : Owns n0 w E A) (hj : E[j]? = some (.blk b (.cells cs T fz))) (hv : (cs.toList.drop 0).take vs.length = vs) {d : TypeDesc} (ht : P.underlying t = some d) (hd : scB d = false)
  {zz : Option Value} {bb : Nat} (he : ti P t = some (zz, vs.length, bb)) : (loadVar t ⟨b, 0, none⟩).run P w = .ok (.agg vs.toArray) w := by
 have hh := (hO.at_ _ (List.mem_of_getElem? hj)).2
 have hs := fun w => run_sizeOf he w
 have hc : ∀ m (hm : m < vs.length), w.cell? (Addr.add ⟨b, 0, none⟩ (0 + m)) = some vs[m] := fun m hm => by
  rw [Addr.add_lit]
  simp only [World.cell?, hh, Option.isSome_none, Bool.false_eq_true, if_false]
  have h1 : vs[m]? = some vs[m] := List.getElem?_eq_getElem hm
  conv at h1 => lhs; rw [← hv]
  rw [List.getElem?_take, if_pos hm, List.getElem?_drop] at h1
  simpa using h1
 have hl := J1F (P := P) (w := w) ⟨b, 0, none⟩ vs.length 0 #[] vs rfl hc
 simp [loadVar, run_isAgg' ht hd, hs, loadCells, hl]
theorem resultsC1 {fn : Func} {r : Nat} {v : Value} {b : Nat} (hr : fn.results = #[.cell r t]) {tmps : Array Value} (hp : tmps.getD r undef = .pointer (some ⟨b, 0, none⟩)) (hl : (loadVar t ⟨b, 0, none⟩).run P w = .ok v w) : (results fn tmps).run P w = .ok v w := by
 simp only [Array.getD_eq_getD_getElem?] at hp
 simp [results, hr, hp, asAddr, hl, Result.andThen]
theorem resultsC2 {fn : Func} {r q : Nat} {v : Value} {b : Nat} (hr : fn.results = #[.cell r t, .tmp q]) {tmps : Array Value} (hp : tmps.getD r undef = .pointer (some ⟨b, 0, none⟩)) (hl : (loadVar t ⟨b, 0, none⟩).run P w = .ok v w) : (results fn tmps).run P w = .ok (.tuple #[v, tmps.getD q undef]) w := by
 simp only [Array.getD_eq_getD_getElem?] at hp
 simp [results, hr, hp, asAddr, hl, Result.andThen]
theorem resultsC3 {fn : Func} {r q u : Nat} {v : Value} {b : Nat} (hr : fn.results = #[.cell r t, .tmp q, .tmp u]) {tmps : Array Value} (hp : tmps.getD r undef = .pointer (some ⟨b, 0, none⟩)) (hl : (loadVar t ⟨b, 0, none⟩).run P w = .ok v w) : (results fn tmps).run P w = .ok (.tuple #[v, tmps.getD q undef, tmps.getD u undef]) w := by
 simp only [Array.getD_eq_getD_getElem?] at hp
 simp [results, hr, hp, asAddr, hl, Result.andThen]
theorem Go1.retC1 {fn : Func} {r : Nat} {v : Value} {b : Nat} (hf : P.funcs[f]? = some fn) (hr : fn.results = #[.cell r t]) (hp : σ r = .pointer (some ⟨b, 0, none⟩)) (hl : (loadVar t ⟨b, 0, none⟩).run P w = .ok v w) (h : R v w) : Go1 P f n (.code .ret :: k) σ w R :=
 fun a ha => .ret hf ha.df (resultsC1 hr (by rw [ha.rd]; exact hp) hl) h
theorem Go1.retC2 {fn : Func} {r q : Nat} {v : Value} {b : Nat} (hf : P.funcs[f]? = some fn) (hr : fn.results = #[.cell r t, .tmp q]) (hp : σ r = .pointer (some ⟨b, 0, none⟩)) (hl : (loadVar t ⟨b, 0, none⟩).run P w = .ok v w) (h : R (.tuple #[v, σ q]) w) : Go1 P f n (.code .ret :: k) σ w R :=
 fun a ha => .ret hf ha.df (resultsC2 hr (by rw [ha.rd]; exact hp) hl) (by rw [ha.rd]; exact h)
theorem Go1.retC3 {fn : Func} {r q u : Nat} {v : Value} {b : Nat} (hf : P.funcs[f]? = some fn) (hr : fn.results = #[.cell r t, .tmp q, .tmp u]) (hp : σ r = .pointer (some ⟨b, 0, none⟩)) (hl : (loadVar t ⟨b, 0, none⟩).run P w = .ok v w) (h : R (.tuple #[v, σ q, σ u]) w) : Go1 P f n (.code .ret :: k) σ w R :=
 fun a ha => .ret hf ha.df (resultsC3 hr (by rw [ha.rd]; exact hp) hl) (by rw [ha.rd, ha.rd]; exact h)
end
section
variable {P : Program} {σ : Nat → Value} {w : World} {t ty e : TypeId} {x : Operand}
theorem J7q {n : Nat} {zv : Value} {s b : Nat} {z2 : Option Value} {s2 b2 : Nat} {parts : List (Nat × Operand)} {vs : List (Nat × Value)} {cs : Array Value} (ht : P.underlying t = some (.array n e)) (he : ti P t = some (some zv, s, b)) (h2 : ti P e = some (z2, s2, b2))
  (hp : parts.map (fun p => (p.1, ev σ p.2)) = vs) (hf : Instr.fill (fun i => some (i * s2, s2)) zv.cells vs = some cs) (w : World) : OpV P (.build t parts.toArray) ty σ w (.agg cs) w := .inl (by
 subst hp
 simp only [execOp, opr, Instr.build, Sem.run_bind, J23 he, Result.andThen_ok, run_underlying ht, run_sizeOf h2]
 simp at hf ⊢
 simp [hf])
theorem J8h {fs : Array Field} {fl : Field} {i : Nat} {cs : Array Value} {v : Value} {d : TypeDesc} (ht : P.underlying t = some (.struct fs)) (hf : fs[i]? = some fl) (hd : P.underlying fl.type = some d) (hs : scB d = true) (hx : ev σ x = .agg cs) (hv : cs[fl.offset]? = some v) (w : World) : OpV P (.field t x i) ty σ w v w := .inl (by
 have hp : (part fl.type cs fl.offset).run P w = .ok v w := by simp [part, J5x hd hs, hv, Result.andThen]
 simp [execOp, opr, hx, Instr.field, run_underlying ht, hf, asAgg, hp, Result.andThen])
end
end Sg
namespace Sg
open Go
section
variable {P : Program} {f n : Nat} {k : List Item} {σ : Nat → Value} {w : World} {R : Value → World → Prop} {t : TypeId}
theorem Go1.retC3V {fn : Func} {r q u : Nat} {v x y : Value} {b : Nat} (hf : P.funcs[f]? = some fn) (hr : fn.results = #[.cell r t, .tmp q, .tmp u]) (hp : σ r = .pointer (some ⟨b, 0, none⟩)) (hl : (loadVar t ⟨b, 0, none⟩).run P w = .ok v w) (hx : σ q = x) (hy : σ u = y) (h : R (.tuple #[v, x, y]) w) : Go1 P f n (.code .ret :: k) σ w R := Go1.retC3 hf hr hp hl (hx ▸ hy ▸ h)
end
end Sg
