/- -/
import Derived.Test.YtbmaaecppfdjfaaGreatDoorCB
import Derived.Laws.CopyRow
import Derived.Laws.Rows
namespace Sg
open Go Go.RowKit
set_option linter.unusedVariables false
set_option linter.unusedSimpArgs false
section
variable {P : Program} {σ : Nat → Value} {w : World} {t ty e : TypeId} {x y : Operand} {A : List Nat} {E : List Ent} {n0 : Nat}
theorem Jaq {g o : Nat} {T : TypeId} {cur : Array Value} {v : Value} {us : List Value} {zz : Option Value} {b : Nat} (hg : w.heap[g]? = some (.cells cur T (0, 0))) (hv : v.cells.toList = us) (h1 : ∀ u ∈ us, u.oneCell' = true) (hfit : o + us.length ≤ cur.size)
  (he : ti P t = some (zz, us.length, b)) (hx : ev σ x = .pointer (some ⟨g, o, none⟩)) (hy : ev σ y = v) : OpV P (.store t x y) ty σ w undef (w.setRow g (cur.toList.take o ++ us ++ cur.toList.drop (o + us.length)).toArray) := .inr (by
 have hs := fun w => run_sizeOf he w
 have hsz : v.cells.size = us.length := by rw [← hv]; simp
 have hst := run_storeCells_at P g o T us 0 cur w hg (by simpa using hfit) h1
 simp only [Nat.add_zero] at hst
 simp [execOp, opr, hx, hy, Instr.storeAt, Instr.sureAddr, storeVar, hs, hsz, hv, hst])
theorem JbN (w : World) (g : Nat) (cs : Array Value) (k : Nat) (h : k ≠ g) : (w.setRow g cs).heap[k]? = w.heap[k]? := by
 simp [World.setRow, Array.getElem?_modify, Ne.symm h]
theorem Je9 {b o : Nat} {cs : Array Value} {T : TypeId} {us : List Value} {cs' : Array Value} (j : Nat) (hO : Owns n0 w E A) (hj : E[j]? = some (.blk b (.cells cs T (0, 0)))) (h1' : us.all Value.oneCell' = true) (hfit : o + us.length ≤ cs.size) (hcs : (cs.toList.take o ++ us ++ cs.toList.drop (o + us.length)).toArray = cs') :
  ∃ w', Stp n0 A w E w' (E.set j (.blk b (.cells cs' T (0, 0)))) ∧ ∀ {P : Program} {σ : Nat → Value} {t ty : TypeId} {x y : Operand} {v : Value} {zz : Option Value} {bb : Nat}, ti P t = some (zz, us.length, bb) →
   ev σ x = .pointer (some ⟨b, o, none⟩) → ev σ y = v → v.cells.toList = us → OpV P (.store t x y) ty σ w undef w' := by
 obtain ⟨hb, hh⟩ := hO.at_ _ (List.mem_of_getElem? hj)
 subst hcs
 have h1 : ∀ u ∈ us, u.oneCell' = true := List.all_eq_true.1 h1'
 refine ⟨w.setRow b (cs.toList.take o ++ us ++ cs.toList.drop (o + us.length)).toArray, Stp.turn hO hj ⟨rfl, rfl, rfl⟩ (by simp) (fun k hk hn => JbN w b _ k (by simpa [Ent.fp] using hn)) (by simp [Ent.fp]) (fun k hk => .inl hk) ⟨hb, setRow_heap w b cs _ T (0, 0) hh⟩, fun he hx hy hv => ?_⟩
 exact Jaq hh hv h1 hfit he hx hy
end
theorem Jgk {l : List Value} (i : Nat) : (Value.agg l.toArray).cells[i]? = l[i]? := by
 show l.toArray[i]? = _
 simp
theorem J07 {α : Type} {a b : α} {l m : List α} (h : a = b) (k : l = m) : a :: l = b :: m := by rw [h, k]
def segs {α : Type} (l : List α) (a : Nat) (us : List α) : List α := l.take a ++ us ++ l.drop (a + us.length)
theorem J8p {α : Type} {l : List α} {a : Nat} {us : List α} (h : a + us.length ≤ l.length) : (segs l a us).length = l.length := by simp [segs]; omega
theorem JdW {α : Type} {l : List α} {a : Nat} {us : List α} (h : a + us.length ≤ l.length) {m : Nat} (hm : m < us.length) : (segs l a us)[a + m]? = us[m]? := by
 have e : (l.take a).length = a := by simp; omega
 unfold segs
 rw [List.append_assoc, List.getElem?_append_right (by omega), e, List.getElem?_append_left (by omega)]
 congr 1; omega
theorem Jcl {α : Type} {l : List α} {a : Nat} {us : List α} (h : a + us.length ≤ l.length) {m : Nat} (hm : m < a ∨ a + us.length ≤ m) : (segs l a us)[m]? = l[m]? := by
 have e : (l.take a).length = a := by simp; omega
 unfold segs
 rcases hm with hm | hm
 ·rw [List.append_assoc, List.getElem?_append_left (by omega), List.getElem?_take, if_pos hm]
 ·rw [List.append_assoc, List.getElem?_append_right (by omega), e, List.getElem?_append_right (by omega), List.getElem?_drop]
  congr 1; omega
theorem JdY {α : Type} {l : List α} {a m : Nat} {us : List α} (h : a + us.length ≤ m) (hm : m ≤ l.length) : (segs l a us).take m = segs (l.take m) a us := by
 have hl : (l.take m).length = m := by simp; omega
 apply List.ext_getElem?
 intro j
 rw [List.getElem?_take]
 by_cases hj : j < m
 ·rw [if_pos hj]
  by_cases h1 : j < a ∨ a + us.length ≤ j
  ·rw [Jcl (by omega) h1, Jcl (by omega) h1, List.getElem?_take, if_pos hj]
  ·obtain ⟨q, rfl⟩ : ∃ q, j = a + q := ⟨j - a, by omega⟩
   rw [JdW (by omega) (by omega), JdW (by omega) (by omega)]
 ·rw [if_neg hj, List.getElem?_eq_none (by rw [J8p (by omega)]; omega)]
def Rp.flat {α : Type} (sz : Nat) (enc : α → List Value) (ok : α → Prop) (pos : 0 < sz) (len : ∀ x, (enc x).length = sz) (one : ∀ x, ∀ v ∈ enc x, v.oneCell' = true) : Rp α where
 sz := sz
 pos := pos
 R _ _ cs x := ok x ∧ ∀ i, i < sz → cs i = (enc x)[i]?
 ch _ h := h
 ext e h := ⟨h.1, fun i hi => (e i hi).trans (h.2 i hi)⟩
 one {A w cs x} h i hi := by
  have hl : i < (enc x).length := by rw [len]; exact hi
  exact ⟨(enc x)[i], by rw [h.2 i hi, List.getElem?_eq_getElem hl], one x _ (List.getElem_mem hl)⟩
def rpP2 (k : IntKind) : Rp (Int × Int) := Rp.flat 2 (fun a => [.int k a.1, .int k a.2]) (fun _ => True) (by decide) (fun _ => rfl) (fun x v hv => by
 simp only [List.mem_cons, List.not_mem_nil, or_false] at hv
 rcases hv with rfl | rfl <;> rfl)
section
variable {P : Program} {σ : Nat → Value} {w : World} {t ty e : TypeId} {x y : Operand} {A : List Nat} {E : List Ent} {n0 : Nat}
variable {α : Type} [Inhabited α] {sz : Nat} {enc : α → List Value} {ok : α → Prop} {ps : 0 < sz} {ln : ∀ x, (enc x).length = sz} {on : ∀ x, ∀ v ∈ enc x, v.oneCell' = true}
theorem ldFlat {p : Option Addr} {c : Nat} {xs : List α} (hs : ISl (Rp.flat sz enc ok ps ln on) A w p c xs) {i : Int} (h0 : 0 ≤ i) (h1 : i < xs.length)
  {d : TypeDesc} (ht : P.underlying t = some d) (hd : scB d = false) {zz : Option Value} {bb : Nat} (he : ti P t = some (zz, sz, bb)) (hx : ev σ x = .pointer (padd p (i.toNat * sz))) (w' : World) (hw : Same w w') : OpV P (.load t x) ty σ w' (.agg (enc (ix xs i)).toArray) w' := by
 obtain ⟨a, ha, hsp, hb, _, hR⟩ := hs.elem h0 h1
 rw [show i.toNat * sz = i.toNat * (Rp.flat sz enc ok ps ln on).sz from rfl, ha] at hx
 refine J9W ht hd (by rw [ln]; exact he) hx fun m hm => ?_
 have h2 := hR.2 m (by rw [← ln (ix xs i)]; exact hm)
 rw [List.getElem?_eq_getElem hm] at h2
 rw [add_lit' a hsp]
 have := Jcr hw hb (a := a) m
 simp only [cel] at this h2
 rw [this, h2]
theorem ldFlatOk {p : Option Addr} {c : Nat} {xs : List α} (hs : ISl (Rp.flat sz enc ok ps ln on) A w p c xs) {i : Int} (h0 : 0 ≤ i) (h1 : i < xs.length) : ok (ix xs i) := by
 obtain ⟨a, ha, hsp, hb, _, hR⟩ := hs.elem h0 h1
 exact hR.1
omit [Inhabited α] in
theorem ostFlat {p : Option Addr} {n c : Nat} {vs : List Value} {xs : List α} (j : Nat) (hO : Owns n0 w E A) (hj : E[j]? = some (.row e sz p n c vs)) (hE : Els (Rp.flat sz enc ok ps ln on) (bl E ++ A) w vs xs) {i : Int} (h0 : 0 ≤ i) (h1 : i < xs.length) (u : α) (hok : ok u) :
  ∃ w' vs', Stp n0 A w E w' (E.set j (.row e sz p n c vs')) ∧ Els (Rp.flat sz enc ok ps ln on) (bl (E.set j (.row e sz p n c vs')) ++ A) w' vs' (st xs i u) ∧ ∀ {P : Program} {σ : Nat → Value} {t ty : TypeId} {x y : Operand} {v : Value} {zz : Option Value} {b : Nat}, ti P t = some (zz, sz, b) →
   ev σ x = .pointer (padd p (i.toNat * sz)) → ev σ y = v → v.cells.toList = enc u → OpV P (.store t x y) ty σ w undef w' := by
 have hh := hO.at_ _ (List.mem_of_getElem? hj)
 have hlen : vs.length = xs.length * sz := hE.len
 have hil : i.toNat < xs.length := by omega
 have h3 : (i.toNat + 1) * sz ≤ xs.length * sz := Nat.mul_le_mul_right sz (by omega)
 rw [Nat.add_mul, Nat.one_mul] at h3
 have hl : i.toNat * sz < vs.length := by omega
 obtain ⟨g, cur, rfl, hg, hb, q1, q2, q3, q4, _⟩ := J3J hh hl
 have hu := ln u
 have hfit : i.toNat * sz + (enc u).length ≤ cur.size := by
  have : vs.length ≤ cur.size := by rw [← q4]; simp; omega
  omega
 have hvl : vs.length ≤ cur.toList.length := by rw [← q4]; simp only [List.length_take]; omega
 have hcl : n * sz ≤ cur.toList.length := by rw [Array.length_toList, q3]; exact Nat.mul_le_mul_right sz q1
 have hnl : n = xs.length := hE.n_eq (r := Rp.flat sz enc ok ps ln on) hh
 have hone : ∀ v ∈ enc u, v.oneCell' = true := on u
 refine ⟨w.setRow g (cur.toList.take (i.toNat * sz) ++ enc u ++ cur.toList.drop (i.toNat * sz + (enc u).length)).toArray, segs vs (i.toNat * sz) (enc u), Stp.turn hO hj ⟨rfl, rfl, rfl⟩ (by simp) (fun k hk hn => JbN w g _ k (by simpa [Ent.fp] using hn)) (by simp [Ent.fp]) (fun k hk => .inl (by simpa [Ent.fp] using hk)) ?_, ?_, fun he hx hy hv => ?_⟩
 ·refine ⟨by rw [J8p (by omega)]; exact hh.1, .inr ⟨g, c, _, rfl, hb, setRow_heap w g cur _ e (0, 0) hg, q1, q2, ?_, ?_⟩⟩
  ·have := J8p (l := cur.toList) (a := i.toNat * sz) (us := enc u) (by simpa using hfit)
   simp only [segs] at this
   simp only [List.size_toArray]
   rw [this, Array.length_toList, q3]
  ·have := JdY (l := cur.toList) (a := i.toNat * sz) (us := enc u) (m := n * sz) (by rw [hnl]; omega) hcl
   rw [q4] at this
   exact this
 ·refine ⟨by rw [J8p (by omega), J04]; exact hlen, by rw [J04]; exact hE.bd, fun k hk => ?_⟩
  simp only [J04] at hk
  have hkk : (k + 1) * sz ≤ xs.length * sz := Nat.mul_le_mul_right sz (by omega)
  rw [Nat.add_mul, Nat.one_mul] at hkk
  simp only [st, List.getElem_set]
  by_cases hki : i.toNat = k
  ·subst hki
   rw [if_pos rfl]
   refine ⟨hok, fun m hm => ?_⟩
   show (segs vs (i.toNat * sz) (enc u))[i.toNat * sz + m]? = _
   rw [JdW (by omega) (by omega)]
  ·rw [if_neg hki]
   obtain ⟨r1, r2⟩ := hE.at_ k hk
   refine ⟨r1, fun m hm => ?_⟩
   have h5 := r2 m hm
   show (segs vs (i.toNat * sz) (enc u))[k * sz + m]? = _
   rw [Jcl (by omega) ?_]
   ·exact h5
   ·rcases Nat.lt_or_ge k i.toNat with h | h
    ·have h6 : (k + 1) * sz ≤ i.toNat * sz := Nat.mul_le_mul_right sz (by omega)
     rw [Nat.add_mul, Nat.one_mul] at h6
     omega
    ·have h6 : (i.toNat + 1) * sz ≤ k * sz := Nat.mul_le_mul_right sz (by omega)
     rw [Nat.add_mul, Nat.one_mul] at h6
     omega
 ·simp only [padd, Option.map_some, Addr.add_lit, Nat.zero_add] at hx
  exact Jaq hg hv hone hfit (by rw [hu]; exact he) hx hy
end
section
variable {P : Program} {σ : Nat → Value} {w : World} {t : TypeId} {A : List Nat} {E : List Ent} {n0 f n : Nat} {k : List Item} {R : Value → World → Prop}
theorem JeZ {b : Nat} {cs : Array Value} {T : TypeId} {fz : Nat × Nat} {vs : List Value} (j : Nat) (hO : Owns n0 w E A) (hj : E[j]? = some (.blk b (.cells cs T fz))) (hv : (cs.toList.drop 0).take vs.length = vs) {d : TypeDesc} (ht : P.underlying t = some d) (hd : scB d = false)
  {zz : Option Value} {bb : Nat} (he : ti P t = some (zz, vs.length, bb)) : (loadVar t ⟨b, 0, none⟩).run P w = .ok (.agg vs.toArray) w := by
 have hh := (hO.at_ _ (List.mem_of_getElem? hj)).2
 have hs := fun w => run_sizeOf he w
 have hc : ∀ m (hm : m < vs.length), w.cell? (Addr.add ⟨b, 0, none⟩ (0 + m)) = some vs[m] := fun m hm => by
  rw [Addr.add_lit]
  simp only [World.cell?, hh, Option.isSome_none, Bool.false_eq_true, if_false]
  have h1 : vs[m]? = some vs[m] := List.getElem?_eq_getElem hm
  conv at h1 => lhs; rw [← hv]
  rw [List.getElem?_take, if_pos hm, List.getElem?_drop] at h1
  simpa using h1
 have hl := J4X (P := P) (w := w) ⟨b, 0, none⟩ vs.length 0 #[] vs rfl hc
 simp [loadVar, run_isAgg' ht hd, hs, loadCells, hl]
theorem resultsC1 {fn : Func} {r : Nat} {v : Value} {b : Nat} (hr : fn.results = #[.cell r t]) {tmps : Array Value} (hp : tmps.getD r undef = .pointer (some ⟨b, 0, none⟩)) (hl : (loadVar t ⟨b, 0, none⟩).run P w = .ok v w) : (results fn tmps).run P w = .ok v w := by
 simp only [Array.getD_eq_getD_getElem?] at hp
 simp [results, hr, hp, asAddr, hl, Result.andThen]
theorem resultsC2 {fn : Func} {r q : Nat} {v : Value} {b : Nat} (hr : fn.results = #[.cell r t, .tmp q]) {tmps : Array Value} (hp : tmps.getD r undef = .pointer (some ⟨b, 0, none⟩)) (hl : (loadVar t ⟨b, 0, none⟩).run P w = .ok v w) : (results fn tmps).run P w = .ok (.tuple #[v, tmps.getD q undef]) w := by
 simp only [Array.getD_eq_getD_getElem?] at hp
 simp [results, hr, hp, asAddr, hl, Result.andThen]
theorem resultsC3 {fn : Func} {r q u : Nat} {v : Value} {b : Nat} (hr : fn.results = #[.cell r t, .tmp q, .tmp u]) {tmps : Array Value} (hp : tmps.getD r undef = .pointer (some ⟨b, 0, none⟩)) (hl : (loadVar t ⟨b, 0, none⟩).run P w = .ok v w) : (results fn tmps).run P w = .ok (.tuple #[v, tmps.getD q undef, tmps.getD u undef]) w := by
 simp only [Array.getD_eq_getD_getElem?] at hp
 simp [results, hr, hp, asAddr, hl, Result.andThen]
theorem Go1.retC1 {fn : Func} {r : Nat} {v : Value} {b : Nat} (hf : P.funcs[f]? = some fn) (hr : fn.results = #[.cell r t]) (hp : σ r = .pointer (some ⟨b, 0, none⟩)) (hl : (loadVar t ⟨b, 0, none⟩).run P w = .ok v w) (h : R v w) : Go1 P f n (.code .ret :: k) σ w R :=
 fun a ha => .ret hf ha.df (resultsC1 hr (by rw [ha.rd]; exact hp) hl) h
theorem Go1.retC2 {fn : Func} {r q : Nat} {v : Value} {b : Nat} (hf : P.funcs[f]? = some fn) (hr : fn.results = #[.cell r t, .tmp q]) (hp : σ r = .pointer (some ⟨b, 0, none⟩)) (hl : (loadVar t ⟨b, 0, none⟩).run P w = .ok v w) (h : R (.tuple #[v, σ q]) w) : Go1 P f n (.code .ret :: k) σ w R :=
 fun a ha => .ret hf ha.df (resultsC2 hr (by rw [ha.rd]; exact hp) hl) (by rw [ha.rd]; exact h)
theorem Go1.retC3 {fn : Func} {r q u : Nat} {v : Value} {b : Nat} (hf : P.funcs[f]? = some fn) (hr : fn.results = #[.cell r t, .tmp q, .tmp u]) (hp : σ r = .pointer (some ⟨b, 0, none⟩)) (hl : (loadVar t ⟨b, 0, none⟩).run P w = .ok v w) (h : R (.tuple #[v, σ q, σ u]) w) : Go1 P f n (.code .ret :: k) σ w R :=
 fun a ha => .ret hf ha.df (resultsC3 hr (by rw [ha.rd]; exact hp) hl) (by rw [ha.rd, ha.rd]; exact h)
end
section
variable {P : Program} {σ : Nat → Value} {w : World} {t ty e : TypeId} {x : Operand}
theorem JcI {n : Nat} {zv : Value} {s b : Nat} {z2 : Option Value} {s2 b2 : Nat} {parts : List (Nat × Operand)} {vs : List (Nat × Value)} {cs : Array Value} (ht : P.underlying t = some (.array n e)) (he : ti P t = some (some zv, s, b)) (h2 : ti P e = some (z2, s2, b2))
  (hp : parts.map (fun p => (p.1, ev σ p.2)) = vs) (hf : Instr.fill (fun i => some (i * s2, s2)) zv.cells vs = some cs) (w : World) : OpV P (.build t parts.toArray) ty σ w (.agg cs) w := .inl (by
 subst hp
 simp only [execOp, opr, Instr.build, Sem.run_bind, J38 he, Result.andThen_ok, run_underlying ht, run_sizeOf h2]
 simp at hf ⊢
 simp [hf])
theorem Je7 {fs : Array Field} {fl : Field} {i : Nat} {cs : Array Value} {v : Value} {d : TypeDesc} (ht : P.underlying t = some (.struct fs)) (hf : fs[i]? = some fl) (hd : P.underlying fl.type = some d) (hs : scB d = true) (hx : ev σ x = .agg cs) (hv : cs[fl.offset]? = some v) (w : World) : OpV P (.field t x i) ty σ w v w := .inl (by
 have hp : (part fl.type cs fl.offset).run P w = .ok v w := by simp [part, Jbb hd hs, hv, Result.andThen]
 simp [execOp, opr, hx, Instr.field, run_underlying ht, hf, asAgg, hp, Result.andThen])
end
end Sg
namespace Sg
open Go
section
variable {P : Program} {f n : Nat} {k : List Item} {σ : Nat → Value} {w : World} {R : Value → World → Prop} {t : TypeId}
theorem Go1.retC1V {fn : Func} {r : Nat} {v : Value} {b : Nat} (hf : P.funcs[f]? = some fn) (hr : fn.results = #[.cell r t]) (hp : σ r = .pointer (some ⟨b, 0, none⟩)) (hl : (loadVar t ⟨b, 0, none⟩).run P w = .ok v w) (h : R v w) : Go1 P f n (.code .ret :: k) σ w R := Go1.retC1 hf hr hp hl h
theorem Go1.retC3V {fn : Func} {r q u : Nat} {v x y : Value} {b : Nat} (hf : P.funcs[f]? = some fn) (hr : fn.results = #[.cell r t, .tmp q, .tmp u]) (hp : σ r = .pointer (some ⟨b, 0, none⟩)) (hl : (loadVar t ⟨b, 0, none⟩).run P w = .ok v w) (hx : σ q = x) (hy : σ u = y) (h : R (.tuple #[v, x, y]) w) : Go1 P f n (.code .ret :: k) σ w R := Go1.retC3 hf hr hp hl (hx ▸ hy ▸ h)
end
end Sg
