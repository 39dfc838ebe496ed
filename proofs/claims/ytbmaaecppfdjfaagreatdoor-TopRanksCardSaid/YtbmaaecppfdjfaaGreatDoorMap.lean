/- -/
import Derived.Test.YtbmaaecppfdjfaaGreatDoorCB
import Derived.Test.YtbmaaecppfdjfaaGreatDoorPA
import Derived.MapKept
import Derived.ChangeKeysEq
import Derived.Carry
namespace Sg
open Go Go.RowKit
set_option linter.unusedVariables false
set_option linter.unusedSimpArgs false
section data
variable {κ ν : Type} [DecidableEq κ]
def fidx : List κ → κ → Option Nat
 | [], _ => none
 | d :: D, a => if a = d then some 0 else (fidx D a).map (· + 1)
end data
structure MK (P : Program) (k : TypeId) {κ : Type} [DecidableEq κ] (kv : κ → Value) : Prop where
 chk : ∀ (e : Bool) (a : κ) (w : World), (Instr.checkKey e 10000 k (kv a)).run P w = .ok () w
 fnd : ∀ (es : List MapEntry) (D : List κ) (a : κ) (w : World), es.map MapEntry.key = D.map kv → (Instr.findKey k (kv a) es).run P w = .ok ((fidx D a).bind fun i => es[i]?.map fun e => (i, e.val)) w
 sam : ∀ a, Instr.sameBits 10000 (kv a) (kv a) = true
theorem JbJ {κ : Type} [DecidableEq κ] {d : TypeDesc} {kv : κ → Value} (hs : ∀ a b, Instr.sameNow d (kv a) (kv b) = some (decide (a = b))) : ∀ (es : List MapEntry) (D : List κ) (a : κ) (i : Nat), es.map MapEntry.key = D.map kv →
    Instr.findNow d (kv a) es i = some ((fidx D a).bind fun j => es[j]?.map fun e => (i + j, e.val))
  | [], [], a, i, _ => rfl
  | [], _ :: _, a, i, h => by simp at h
  | _ :: _, [], a, i, h => by simp at h
  | e :: es, b :: D, a, i, h => by
    simp only [List.map_cons, List.cons.injEq] at h
    unfold Instr.findNow
    rw [h.1, hs]
    by_cases hab : a = b
    · simp [hab, fidx]
    · simp only [hab, decide_false, fidx, if_false]
      rw [JbJ hs es D a (i + 1) h.2]
      cases fidx D a with
      | none => rfl
      | some j =>
        simp only [Option.bind_some, Option.map_some, List.getElem?_cons_succ]
        congr 2
        funext e'
        congr 1
        omega
theorem MK.int {P : Program} {k : TypeId} {q : IntKind} (hk : P.underlying k = some (.int q)) : MK P k (fun a : Int => Value.int q a) where
 chk e a w := Go.MapKept.run_checkKey (d := .int q) (k := Value.int q a) hk (show q = q from rfl) e 9999
 fnd es D a w h := by
  refine Go.MapKept.run_findKey hk ((JbJ (fun a b => ?_) es D a 0 h).trans ?_)
  ·simp only [Instr.sameNow, if_true]
   by_cases hab : a = b <;> simp [hab]
  ·simp only [Nat.zero_add]
 sam a := Go.MapKept.sameBits_self (d := .int q) (k := Value.int q a) (show q = q from rfl) _
theorem Jhr {a b : List UInt8} (h : gstr a = gstr b) : a = b := by
 have := congrArg ByteArray.toList h
 simpa using this
theorem MK.str {P : Program} {k : TypeId} (hk : P.underlying k = some .string) : MK P k (fun a : List UInt8 => Value.string (gstr a)) where
 chk e a w := Go.MapKept.run_checkKey (d := .string) (k := Value.string (gstr a)) hk (show True from trivial) e 9999
 fnd es D a w h := by
  refine Go.MapKept.run_findKey hk ((JbJ (fun a b => ?_) es D a 0 h).trans ?_)
  ·simp only [Instr.sameNow]
   congr 1
   rw [Bool.eq_iff_iff, decide_eq_true_eq, Go.MapKept.bytes_beq]
   exact ⟨Jhr, fun h => by rw [h]⟩
  ·simp only [Nat.zero_add]
 sam a := Go.MapKept.sameBits_self (d := .string) (k := Value.string (gstr a)) (show True from trivial) _
def mapE {κ ν : Type} (kv : κ → Value) (vv : ν → Value) (b : Nat) (D : List (κ × ν)) : AnyE where
 F := [b]
 H n0 w := n0 ≤ b ∧ ∃ es clock, w.heap[b]? = some (.map es clock) ∧ es.toList.map (fun e => (e.key, e.val)) = D.map fun p => (kv p.1, vv p.2)
 lt h c hc := by
  obtain ⟨h0, es, clock, h1, _⟩ := h
  obtain rfl : c = b := by simpa using hc
  exact ⟨h0, (Array.getElem?_eq_some_iff.1 h1).1⟩
 keep h hk := by
  obtain ⟨h0, es, clock, h1, h2⟩ := h
  exact ⟨h0, es, clock, by rw [hk b (by simp)]; exact h1, h2⟩
 base hn h := ⟨Nat.le_trans hn h.1, h.2⟩
section ops
variable {P : Program} {σ : Nat → Value} {w : World} {t ty e k : TypeId} {x y z : Operand} {A : List Nat} {E : List Ent} {n0 : Nat}
variable {κ ν : Type} {kv : κ → Value} {vv : ν → Value}
theorem omakeMap (kv : κ → Value) (vv : ν → Value) (hO : Owns n0 w E A) :
  ∃ w' B, Stp n0 A w E w' (.any (mapE kv vv B []) :: E) ∧ Same w w' ∧ ∀ {P : Program} {σ : Nat → Value} {t ty : TypeId}, OpV P (.makeMap t none) ty σ w (.map (some B)) w' := by
 have hs : Same w (w.alloc (.map #[] 0)) := ⟨rfl, rfl, rfl, (show w.heap.size ≤ (w.heap.push _).size by simp), fun b hb => (Go.MapKept.heap_alloc w _).2 b hb⟩
 refine ⟨w.alloc (.map #[] 0), w.heap.size, Stp.new hO hs (by simp [Ent.fp, mapE]) (fun b hb => by simp [Ent.fp, mapE] at hb; omega) ⟨hO.le, #[], 0, (Go.MapKept.heap_alloc w _).1, by simp⟩, hs, fun {P σ t ty} => .inl ?_⟩
 simp [execOp, opr, run_makeMap]
theorem Jdr {es : List MapEntry} {D : List (κ × ν)} (h : es.map (fun e => (e.key, e.val)) = D.map fun p => (kv p.1, vv p.2)) : es.map MapEntry.key = (D.map (·.1)).map kv := by
 have := congrArg (List.map Prod.fst) h
 simpa [List.map_map, Function.comp_def] using this
theorem getObjMap {b : Nat} {es : Array MapEntry} {clock : Nat} (hb : w.heap[b]? = some (.map es clock)) (P : Program) : (getObj b).run P w = .ok (.map es clock) w := Go.MapKept.run_getObj_map hb
theorem omapLen {B : Nat} {D : List (κ × ν)} (j : Nat) (hO : Owns n0 w E A) (hj : E[j]? = some (.any (mapE kv vv B D))) (ht : P.underlying t = some (.map k e)) (hx : ev σ x = .map (some B)) (w' : World) (hw : Same w w') :
  OpV P (.call { callee := .builtin .len, args := #[x], argTypes := #[t] }) ty σ w' (.int .i64 (D.length : Nat)) w' := .inl (by
 obtain ⟨h0, es, clock, h1, h2⟩ := hO.at_ _ (List.mem_of_getElem? hj)
 have h1' : w'.heap[B]? = some (.map es clock) := by rw [hw.block B (Array.getElem?_eq_some_iff.1 h1).1]; exact h1
 have hlen : es.size = D.length := by have := congrArg List.length h2; simpa using this
 simp [execOp, opr, hx, resolve, invoke, builtin, Builtin.len_, run_underlying ht, getObjMap h1', hlen, goInt, Result.andThen])
variable [DecidableEq κ]
theorem Je8 {es : List MapEntry} {D : List (κ × ν)} (h : es.map (fun e => (e.key, e.val)) = D.map fun p => (kv p.1, vv p.2)) [Inhabited ν] (a : κ) :
    ((fidx (D.map (·.1)) a).bind fun i => es[i]?.map fun e => (i, e.val)).map (·.2) = if mhas D a = true then some (vv (mgt D a)) else none := by
  induction D generalizing es with
  | nil => simp [fidx, mhas]
  | cons p D ih =>
    cases es with
    | nil => simp at h
    | cons e es =>
      simp only [List.map_cons, List.cons.injEq, Prod.mk.injEq] at h
      by_cases hp : a = p.1
      · simp [fidx, mhas, mgt, hp, h.1.2]
      · simp only [List.map_cons, fidx, hp, if_false, mhas, mgt, decide_false, Bool.false_or]
        rw [← ih h.2]
        cases fidx (D.map (·.1)) a with
        | none => rfl
        | some j =>
          simp only [Option.map_some, Option.bind_some, List.getElem?_cons_succ]
          cases es[j]? <;> rfl
theorem olookT [Inhabited ν] (K : MK P k kv) {B : Nat} {D : List (κ × ν)} (j : Nat) (hO : Owns n0 w E A) (hj : E[j]? = some (.any (mapE kv vv B D))) (ht : P.underlying t = some (.map k e)) {a : κ} (hx : ev σ x = .map (some B)) (hy : ev σ y = kv a) (hm : mhas D a = true) (w' : World) (hw : Same w w') :
    OpV P (.lookup t x y true) ty σ w' (.tuple #[vv (mgt D a), .bool true]) w' := .inl (by
  obtain ⟨h0, es, clock, h1, h2⟩ := hO.at_ _ (List.mem_of_getElem? hj)
  have h1' : w'.heap[B]? = some (.map es clock) := by rw [hw.block B (Array.getElem?_eq_some_iff.1 h1).1]; exact h1
  have hf := K.fnd es.toList (D.map (·.1)) a w' (Jdr h2)
  have hh := Je8 h2 a
  rw [if_pos hm] at hh
  cases hq : ((fidx (D.map (·.1)) a).bind fun i => es.toList[i]?.map fun e => (i, e.val)) with
  | none => rw [hq] at hh; cases hh
  | some q =>
    rw [hq] at hh hf
    simp only [Option.map_some, Option.some.injEq] at hh
    obtain ⟨i, v⟩ := q
    simp only at hh
    subst hh
    simp [execOp, opr, hx, hy, Instr.lookup, run_underlying ht, getObjMap h1', K.chk, hf, Result.andThen])
theorem olookF [Inhabited ν] (K : MK P k kv) {B : Nat} {D : List (κ × ν)} (j : Nat) (hO : Owns n0 w E A) (hj : E[j]? = some (.any (mapE kv vv B D))) (ht : P.underlying t = some (.map k e)) {zv : Value} {b s : Nat} (he : ti P e = some (some zv, s, b)) {a : κ} (hx : ev σ x = .map (some B)) (hy : ev σ y = kv a) (hm : ¬ mhas D a = true) (w' : World) (hw : Same w w') :
    OpV P (.lookup t x y true) ty σ w' (.tuple #[zv, .bool false]) w' := .inl (by
  obtain ⟨h0, es, clock, h1, h2⟩ := hO.at_ _ (List.mem_of_getElem? hj)
  have h1' : w'.heap[B]? = some (.map es clock) := by rw [hw.block B (Array.getElem?_eq_some_iff.1 h1).1]; exact h1
  have hf := K.fnd es.toList (D.map (·.1)) a w' (Jdr h2)
  have hh := Je8 h2 a
  rw [if_neg hm] at hh
  cases hq : ((fidx (D.map (·.1)) a).bind fun i => es.toList[i]?.map fun e => (i, e.val)) with
  | some q => rw [hq] at hh; cases hh
  | none =>
    rw [hq] at hf
    have hz : (zeroValue e).run P w' = .ok zv w' := by
      obtain ⟨i, hi, hz, _⟩ := J5P he
      simp [zeroValue, typeInfo, hi, hz]
    simp [execOp, opr, hx, hy, Instr.lookup, run_underlying ht, getObjMap h1', K.chk, hf, hz, Result.andThen])
theorem Ji0 {D : List (κ × ν)} {a : κ} {v : ν} : ∀ {es : List MapEntry}, es.map (fun e => (e.key, e.val)) = D.map (fun p => (kv p.1, vv p.2)) → ∀ i, fidx (D.map (·.1)) a = some i →
    (es.modify i fun e => { e with key := kv a, val := vv v }).map (fun e => (e.key, e.val)) = (mput D a v).map fun p => (kv p.1, vv p.2) := by
  induction D with
  | nil => intro es _ i hi; simp [fidx] at hi
  | cons p D ih =>
    intro es h i hi
    cases es with
    | nil => simp at h
    | cons e es =>
      simp only [List.map_cons, List.cons.injEq, Prod.mk.injEq] at h
      unfold mput
      by_cases hp : a = p.1
      · simp only [List.map_cons, fidx, hp, if_true, Option.some.injEq] at hi
        subst hi
        rw [if_pos hp]
        simp [h.2]
      · rw [if_neg hp]
        simp only [List.map_cons, fidx, hp, if_false, Option.map_eq_some_iff] at hi
        obtain ⟨i', hi', rfl⟩ := hi
        simp only [List.modify_succ_cons, List.map_cons, List.cons.injEq, Prod.mk.injEq]
        exact ⟨h.1, ih h.2 i' hi'⟩
theorem JhD {D : List (κ × ν)} {a : κ} {v : ν} (hn : fidx (D.map (·.1)) a = none) : mput D a v = D ++ [(a, v)] := by
  induction D with
  | nil => rfl
  | cons p D ih =>
    by_cases hp : a = p.1
    · simp [fidx, hp] at hn
    · simp only [List.map_cons, fidx, hp, if_false, Option.map_eq_none_iff] at hn
      unfold mput
      rw [if_neg hp, ih hn]; rfl
theorem JhY {D : List κ} {a : κ} {i : Nat} (h : fidx D a = some i) : i < D.length := by
  induction D generalizing i with
  | nil => simp [fidx] at h
  | cons d D ih =>
    unfold fidx at h
    split at h
    · cases h; simp
    · obtain ⟨j, hj, rfl⟩ := Option.map_eq_some_iff.1 h
      have := ih hj
      simp; omega
theorem Jhp {D : List κ} {a : κ} {i : Nat} (h : fidx D a = some i) : D[i]? = some a := by
  induction D generalizing i with
  | nil => simp [fidx] at h
  | cons d D ih =>
    unfold fidx at h
    split at h
    · rename_i hd; cases h; simp [hd]
    · obtain ⟨j, hj, rfl⟩ := Option.map_eq_some_iff.1 h
      simpa using ih hj
theorem omapUpd (K : MK P k kv) {B : Nat} {D : List (κ × ν)} (j : Nat) (hO : Owns n0 w E A) (hj : E[j]? = some (.any (mapE kv vv B D))) (ht : P.underlying t = some (.map k e)) (a : κ) (v : ν) :
    ∃ w', Stp n0 A w E w' (E.set j (.any (mapE kv vv B (mput D a v)))) ∧ ∀ {σ : Nat → Value} {x y z : Operand} {ty : TypeId}, ev σ x = .map (some B) → ev σ y = kv a → ev σ z = vv v → OpV P (.mapUpdate t x y z) ty σ w undef w' := by
  obtain ⟨h0, es, clock, h1, h2⟩ := hO.at_ _ (List.mem_of_getElem? hj)
  have hf := K.fnd es.toList (D.map (·.1)) a w (Jdr h2)
  have hlen : es.size = D.length := by have := congrArg List.length h2; simpa using this
  have key : ∀ es' clock', es'.toList.map (fun e => (e.key, e.val)) = (mput D a v).map (fun p => (kv p.1, vv p.2)) →
      Stp n0 A w E { w with heap := w.heap.setIfInBounds B (.map es' clock') } (E.set j (.any (mapE kv vv B (mput D a v)))) := by
    intro es' clock' he
    refine Stp.turn hO hj ⟨rfl, rfl, rfl⟩ (by simp) (fun b hb hn => ?_) (by simp [Ent.fp, mapE]) (fun b hb => .inl hb) ⟨h0, es', clock', (Go.MapKept.heap_set h1).1, he⟩
    exact (Go.MapKept.heap_set h1).2 b (fun hh => hn (by simp [Ent.fp, mapE, hh]))
  cases hq : fidx (D.map (·.1)) a with
  | none =>
    rw [hq] at hf
    refine ⟨_, key (es.push { key := kv a, val := vv v, born := clock }) (clock + 1) ?_, fun {σ x y z ty} hx hy hz => .inr ⟨?_, rfl⟩⟩
    · rw [JhD hq]; simp [h2]
    · simp only [Option.bind_none] at hf
      simp [execOp, opr, hx, hy, hz, Instr.mapUpdate, run_underlying ht, getObjMap h1, K.chk, hf, Go.MapKept.run_setObj_map _ h1, Result.andThen]
  | some i =>
    rw [hq] at hf
    have hi : i < es.size := by have := JhY hq; simp at this; omega
    have hkey : es[i].key = kv a := by
      have e1 := Jhp hq
      have e2 := congrArg (fun l => l[i]?) (Jdr h2)
      simp only [List.getElem?_map, e1, Option.map_some] at e2
      simpa [hi] using e2
    refine ⟨_, key (es.modify i fun e => { e with key := kv a, val := vv v }) clock ?_, fun {σ x y z ty} hx hy hz => .inr ⟨?_, rfl⟩⟩
    · have := Ji0 (a := a) (v := v) h2 i hq
      simpa using this
    · simp only [Option.bind_some, Array.getElem?_toList, Array.getElem?_eq_getElem hi, Option.map_some] at hf
      have hkk : (Instr.keyThatStays (kv a) (kv a)).run P w = .ok (kv a) w := by
        simp [Instr.keyThatStays, K.sam]
      simp [execOp, opr, hx, hy, hz, Instr.mapUpdate, run_underlying ht, getObjMap h1, K.chk, hf, hi, hkey, hkk, Go.MapKept.run_setObj_map _ h1, Result.andThen]
end ops
end Sg
