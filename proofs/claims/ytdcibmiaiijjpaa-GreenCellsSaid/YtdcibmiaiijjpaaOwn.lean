/- -/
import Derived.Test.YtdcibmiaiijjpaaAcc
import Derived.Laws.AppendOwnNone
import Derived.Laws.OwnMore
namespace Sg
open Go Go.RowKit
set_option linter.unusedVariables false
set_option linter.unusedSimpArgs false
section
variable {P : Program} {σ : Nat → Value} {w : World} {t t' ty e : TypeId} {x y z : Operand} {A : List Nat} {E : List Ent} {n0 : Nat}
theorem heap_set (w : World) (g j : Nat) (cur : Array Value) (e : TypeId) (v : Value) (hg : w.heap[g]? = some (.cells cur e (0, 0))) :
  (w.setCell ⟨g, j, none⟩ v).heap[g]? = some (.cells (cur.setIfInBounds j v) e (0, 0)) := by
 simp [World.setCell, Array.getElem?_modify, hg]
theorem J3p {d : TypeDesc} {a : Addr} {v u : Value} (ht : P.underlying t = some d) (hd : scB d = true) {zz : Option Value} {b : Nat} (he : ti P t = some (zz, 1, b)) (hx : ev σ x = .pointer (some a)) (hy : ev σ y = v) (hv : v.oneCell' = true)
  (hc : w.cell? a = some u) (hf : w.frozen? a = false) : OpV P (.store t x y) ty σ w undef (w.setCell a v) := .inr (by
 have hs := fun w => run_sizeOf he w
 have hcells : v.cells = #[v] := by cases v <;> simp [Value.oneCell'] at hv <;> rfl
 have hst : (store a v).run P w = .ok () (w.setCell a v) := by rw [run_store P w a v .plain hv]; simp [hc, hf]
 simp [execOp, opr, hx, hy, Instr.storeAt, Instr.sureAddr, storeVar, hs, hcells, storeCells, Addr.add_zero', hst])
theorem J68 {size : Nat} {p : Option Addr} {n c : Nat} {vs : List Value} (j : Nat) (hO : Owns n0 w E A) (hj : E[j]? = some (.row e size p n c vs)) {m : Nat} (hm : m < vs.length) {v : Value} (hv : v.oneCell' = true) :
  ∃ w', Stp n0 A w E w' (E.set j (.row e size p n c (vs.set m v))) ∧ ∀ {P : Program} {σ : Nat → Value} {t ty : TypeId} {x y : Operand} {d : TypeDesc} {zz : Option Value} {b : Nat}, P.underlying t = some d → scB d = true → ti P t = some (zz, 1, b) →
   ev σ x = .pointer (padd p m) → ev σ y = v → OpV P (.store t x y) ty σ w undef w' := by
 have hh := hO.at_ _ (List.mem_of_getElem? hj)
 obtain ⟨g, cur, rfl, hg, hb, h1, h2, h3, h4, hc⟩ := J1s hh hm
 have hfz : w.frozen? ⟨g, m, none⟩ = false := by simp [World.frozen?, hg]
 have hgl : g < w.heap.size := (Array.getElem?_eq_some_iff.1 hg).1
 refine ⟨w.setCell ⟨g, m, none⟩ v, Stp.turn hO hj ⟨rfl, rfl, rfl⟩ (by simp [World.setCell]) (fun b hb' hn => ?_) (by simp [Ent.fp]) (fun b hb' => .inl (by simpa [Ent.fp] using hb')) ?_, fun ht hd he hx hy => ?_⟩
 ·exact Below.heap_setCell w ⟨g, m, none⟩ v b (by simpa [Ent.fp] using hn)
 ·refine ⟨by simpa using hh.1, .inr ⟨g, c, cur.setIfInBounds m v, rfl, hb, heap_set w g m cur e v hg, h1, h2, by simpa using h3, ?_⟩⟩
  rw [Array.toList_setIfInBounds, List.take_set, h4]
 ·simp only [padd, Option.map_some, Addr.add_lit, Nat.zero_add] at hx
  exact J3p ht hd he hx hy hv hc hfz
theorem Els.set {α : Type} {r : Rp α} {vs : List Value} {xs : List α} (h : Els r A w vs xs) (h1 : r.sz = 1) {i : Int} (h0 : 0 ≤ i) (hi : i < xs.length) {v : Value} {u : α} (hR : r.R A w (fun _ => some v) u) : Els r A w (vs.set i.toNat v) (st xs i u) := by
 refine ⟨by simp [h.len], by rw [J02]; exact h.bd, fun k hk => ?_⟩
 simp only [J02] at hk
 simp only [st, List.getElem_set]
 have hlen := h.len
 rw [h1, Nat.mul_one] at hlen
 by_cases hki : i.toNat = k
 ·subst hki
  rw [if_pos rfl]
  refine r.ext (fun j hj => ?_) hR
  obtain rfl : j = 0 := by omega
  simp [h1, hlen, hk]
 ·rw [if_neg hki]
  refine r.ext (fun j hj => ?_) (h.at_ k hk)
  obtain rfl : j = 0 := by omega
  simp only [h1, Nat.mul_one, Nat.add_zero, List.getElem?_set]
  rw [if_neg hki]
theorem ost {α : Type} {r : Rp α} (r1 : r.sz = 1) {p : Option Addr} {n c : Nat} {vs : List Value} {xs : List α} (j : Nat) (hO : Owns n0 w E A) (hj : E[j]? = some (.row e 1 p n c vs)) (hE : Els r (bl E ++ A) w vs xs) {i : Int} (h0 : 0 ≤ i) (hi : i < xs.length)
  {v : Value} {u : α} (hv : v.oneCell' = true) (hR : r.R (bl E ++ A) w (fun _ => some v) u) :
  ∃ w' vs', Stp n0 A w E w' (E.set j (.row e 1 p n c vs')) ∧ Els r (bl (E.set j (.row e 1 p n c vs')) ++ A) w' vs' (st xs i u) ∧ ∀ {P : Program} {σ : Nat → Value} {t ty : TypeId} {x y : Operand} {d : TypeDesc} {zz : Option Value} {b : Nat}, P.underlying t = some d → scB d = true → ti P t = some (zz, 1, b) →
   ev σ x = .pointer (padd p (i.toNat * 1)) → ev σ y = v → OpV P (.store t x y) ty σ w undef w' := by
 have hl := hE.len
 rw [r1, Nat.mul_one] at hl
 obtain ⟨w', hs, hop⟩ := J68 (m := i.toNat) j hO hj (by omega) hv
 exact ⟨w', _, hs, (hE.set r1 h0 hi hR).ch hs.ch, fun ht hd he hx hy => hop ht hd he (by rw [Nat.mul_one] at hx; exact hx) hy⟩
theorem J40 {size : Nat} {p : Option Addr} {n c : Nat} {vs : List Value} (h : w.ownsRow n0 e size (.slice p n c) n vs) {a : Addr} (ha : p = some a) : a.spot = none ∧ a.block < w.heap.size ∧ ∀ j, j < vs.length → cel w a j = vs[j]? := by
 subst ha
 rcases h.2 with ⟨hv, hn⟩ | ⟨g, cap, cur, hv, hb, hg, _⟩
 ·cases hv
 ·cases hv
  refine ⟨rfl, (Array.getElem?_eq_some_iff.1 hg).1, fun j hj => ?_⟩
  obtain ⟨g', cur', hp, _, _, _, _, _, _, hc⟩ := J1s h hj
  cases hp
  simp only [cel, Nat.zero_add, hc, List.getElem?_eq_getElem hj]
theorem freeze {α : Type} {r : Rp α} {p : Option Addr} {n c : Nat} {vs : List Value} {xs : List α} (j : Nat) (hO : Owns n0 w E A) (hj : E[j]? = some (.row e r.sz p n c vs)) (hE : Els r (bl E ++ A) w vs xs) :
  Owns n0 w (E.eraseIdx j) A ∧ Ch (bl E ++ A) w (bl (E.eraseIdx j) ++ A) w ∧ ISl r (bl (E.eraseIdx j) ++ A) w p c xs ∧ n = xs.length := by
 have hh := hO.at_ _ (List.mem_of_getElem? hj)
 have hn := hE.n_eq hh
 have hch := Owns.J5v (A := A) w E j
 have hE' := hE.ch hch
 refine ⟨hO.drop j, hch, ⟨by rw [← hn]; exact (J20 hh).1, hE.bd, fun hp => ?_, fun a ha => ?_⟩, hn⟩
 ·subst hp
  rcases hh.2 with ⟨hv, _⟩ | ⟨g, cap, cur, hv, _⟩
  ·cases hv; rfl
  ·cases hv
 ·intro k hk
  obtain ⟨h1, h2, h3⟩ := J40 hh ha
  refine ⟨h1, h2, ?_, ?_⟩
  ·have hjl : j < E.length := (List.getElem?_eq_some_iff.1 hj).1
   have hje : E[j] = .row e r.sz p n c vs := (List.getElem?_eq_some_iff.1 hj).2
   have hmem : a.block ∈ (Ent.row e r.sz p n c vs).fp := by subst ha; simp [Ent.fp]
   have hin : a.block ∈ bl E := J39.2 ⟨_, List.mem_of_getElem? hj, hmem⟩
   have hEeq : E = E.take j ++ .row e r.sz p n c vs :: E.drop (j + 1) := by rw [← hje]; simp
   have hnd := hO.nd
   have hb1 : bl E = bl (E.take j) ++ ((Ent.row e r.sz p n c vs).fp ++ bl (E.drop (j + 1))) := (congrArg bl hEeq).trans (by simp [bl])
   rw [hb1] at hnd
   obtain ⟨n1, n2, n3⟩ := List.nodup_append.1 hnd
   obtain ⟨n4, n5, n6⟩ := List.nodup_append.1 n2
   intro hx
   rcases List.mem_append.1 hx with hx | hx
   ·have : bl (E.eraseIdx j) = bl (E.take j) ++ bl (E.drop (j + 1)) := by rw [List.eraseIdx_eq_take_drop_succ]; simp [bl]
    rw [this] at hx
    rcases List.mem_append.1 hx with hx | hx
    ·exact n3 _ hx _ (List.mem_append_left _ hmem) rfl
    ·exact n6 _ hmem _ hx rfl
   ·exact hO.out _ hin hx
  ·refine r.ext (fun i hi => ?_) (hE'.at_ k hk)
   have hlt : k * r.sz + i < vs.length := by
    rw [hE.len]
    have : (k + 1) * r.sz ≤ xs.length * r.sz := Nat.mul_le_mul_right _ hk
    rw [Nat.add_mul, Nat.one_mul] at this
    omega
   exact h3 _ hlt
theorem J2k (z : Value) (s n : Nat) (hz : z.cells.size = s) (hs : 0 < s) (k : Nat) (hk : k < n) (i : Nat) (hi : i < s) : (madeCells z.cells (n * s)).toList[k * s + i]? = z.cells[i]? := by
 have h1 : k * s + i < n * s := by
  have : (k + 1) * s ≤ n * s := Nat.mul_le_mul_right _ hk
  rw [Nat.add_mul, Nat.one_mul] at this; omega
 have h2 : (k * s + i) % s = i := by rw [Nat.add_comm, Nat.add_mul_mod_self_right, Nat.mod_eq_of_lt hi]
 simp [madeCells, h1, hz, h2, hi]
theorem Stp.grown {size : Nat} {p p' : Option Addr} {n n' c c' : Nat} {vs vs' : List Value} {w' : World} (j : Nat) (hO : Owns n0 w E A) (hj : E[j]? = some (.row e size p n c vs)) (hg : w.grownBy w' (Value.ownBlock (.slice p n c)))
    (hown : w'.ownsRow n0 e size (.slice p' n' c') n' vs') (hnew : ∀ a, p' = some a → p' = p ∨ w.heap.size ≤ a.block) : Stp n0 A w E w' (E.set j (.row e size p' n' c' vs')) := by
  refine Stp.turn hO hj ⟨hg.os, hg.tape, hg.output⟩ hg.size (fun b hb hnb => hg.block b hb fun hx => hnb ?_) ?_ (fun b hb => ?_) hown
  · cases p with
    | none => simp [Value.ownBlock] at hx
    | some a => simp [Value.ownBlock] at hx; simp [Ent.fp, hx]
  · cases p' <;> simp [Ent.fp]
  · cases p' with
    | none => simp [Ent.fp] at hb
    | some a =>
      simp only [Ent.fp, List.mem_singleton] at hb
      subst hb
      rcases hnew a rfl with h | h
      · left; rw [← h]; simp [Ent.fp]
      · exact .inr h
theorem Same.grown {w w' : World} (hg : w.grownBy w' none) : Same w w' := ⟨hg.os, hg.tape, hg.output, hg.size, fun k hk => hg.block k hk (by simp)⟩
theorem Els.made {α : Type} {r : Rp α} {w' : World} {z : Value} {d : α} (hz : ∀ (A : List Nat) (w : World), r.R A w (fun i => z.cells[i]?) d) (hs : z.cells.size = r.sz) (n : Nat) (hn : n ≤ mx) : Els r A w' (madeCells z.cells (n * r.sz)).toList (List.replicate n d) := by
 refine ⟨by simp [size_madeCells], by simpa using hn, fun k hk => ?_⟩
 simp only [List.length_replicate] at hk
 simp only [List.getElem_replicate]
 exact r.ext (fun i hi => J2k z r.sz n hs r.pos k hk i hi) (hz A w')
theorem omake {α : Type} {r : Rp α} {z : Value} {d : α} {by_ : Nat} (ht : P.underlying t = some (.slice e)) (he : ti P e = some (some z, r.sz, by_)) (hz : ∀ (A : List Nat) (w : World), r.R A w (fun i => z.cells[i]?) d) (hs : z.cells.size = r.sz)
  (hO : Owns n0 w E A) {n : Int} (h0 : 0 ≤ n) (hb0 : n ≤ 1099511627776) (hby : by_ ≤ 128) :
  ∃ w' p vs, Stp n0 A w E w' (.row e r.sz p n.toNat n.toNat vs :: E) ∧ Els r (bl (.row e r.sz p n.toNat n.toNat vs :: E) ++ A) w' vs (List.replicate n.toNat d) ∧ Same w w' ∧
   ∀ {σ : Nat → Value} {x y : Operand} {ty : TypeId}, ev σ x = .int .i64 n → ev σ y = .int .i64 n → OpV P (.makeSlice t x y) ty σ w (.slice p n.toNat n.toNat) w' := by
 obtain ⟨m, rfl⟩ := Int.eq_ofNat_of_zero_le h0
 have hn' : (m : Int) ≤ 140737488355328 := by omega
 have hn : (m : Int) * by_ ≤ 140737488355328 := by
  have h1 : m * by_ ≤ 1099511627776 * 128 := Nat.mul_le_mul (by omega) hby
  rw [← Int.natCast_mul]; omega
 obtain ⟨i, hi, hz1, hz2, hz3⟩ := J2Y he
 have hb : i.bytes * m ≤ 281474976710656 := by
  rw [hz3]
  have h : ((by_ * m : Nat) : Int) ≤ 140737488355328 := by rw [Int.natCast_mul, Int.mul_comm]; exact hn
  omega
 obtain ⟨w', hr, hown, hg⟩ := run_make_full (P := P) w n0 t e i z r.sz ht hi hz1 hz2 .i64 .i64 m hb (by simp only [maxLen]; omega) hO.le
 refine ⟨w', some ⟨w.heap.size, 0, none⟩, _, Stp.new hO (Same.grown hg) (by simp [Ent.fp]) (fun b hb => by simp [Ent.fp] at hb; omega) hown, ?_, Same.grown hg, fun hx hy => .inl ?_⟩
 ·exact Els.made hz hs m (by simp only [mx]; omega)
 ·simp [execOp, opr, hx, hy, hr]
theorem Stp.nil {r : Nat} (hO : Owns n0 w E A) : Stp n0 A w E w (.row e r none 0 0 [] :: E) :=
 Stp.new hO (Same.refl w) (by simp [Ent.fp]) (fun b hb => by simp [Ent.fp] at hb) (World.ownsRow_nil w n0 e r)
theorem Els.append {α : Type} {r : Rp α} {vs us : List Value} {xs ys : List α} (h : Els r A w vs xs) (k : Els r A w us ys) (hb : xs.length + ys.length ≤ mx) : Els r A w (vs ++ us) (xs ++ ys) := by
 refine ⟨by simp [h.len, k.len, Nat.add_mul], by simpa using hb, fun m hm => ?_⟩
 simp only [List.length_append] at hm
 by_cases hx : m < xs.length
 ·rw [List.getElem_append_left hx]
  refine r.ext (fun i hi => ?_) (h.at_ m hx)
  rw [List.getElem?_append_left]
  rw [h.len]
  have : (m + 1) * r.sz ≤ xs.length * r.sz := Nat.mul_le_mul_right _ hx
  rw [Nat.add_mul, Nat.one_mul] at this; omega
 ·rw [List.getElem_append_right (by omega)]
  refine r.ext (fun i hi => ?_) (k.at_ (m - xs.length) (by omega))
  rw [List.getElem?_append_right]
  ·congr 1
   rw [h.len, Nat.sub_mul]
   have : xs.length * r.sz ≤ m * r.sz := Nat.mul_le_mul_right _ (by omega)
   omega
  ·rw [h.len]
   have : xs.length * r.sz ≤ m * r.sz := Nat.mul_le_mul_right _ (by omega)
   omega
theorem ISl.cells {α : Type} {r : Rp α} {a : Addr} {c : Nat} {xs : List α} (h : ISl r A w (some a) c xs) : ∃ vs : List Value, Els r A w vs xs ∧ (∀ j u, vs[j]? = some u → w.cell? (a.add j) = some u) ∧ ∀ u ∈ vs, u.oneCell' = true := by
 have hat := h.at_ a rfl
 have hcell : ∀ j, j < xs.length * r.sz → ∃ v, cel w a j = some v ∧ v.oneCell' = true := by
  intro j hj
  have hk : j / r.sz < xs.length := by rw [Nat.div_lt_iff_lt_mul r.pos]; exact hj
  obtain ⟨_, _, _, h4⟩ := hat _ hk
  obtain ⟨v, hv, h1⟩ := r.one h4 (j % r.sz) (Nat.mod_lt _ r.pos)
  exact ⟨v, by rw [← hv]; congr 1; rw [Nat.mul_comm]; exact (Nat.div_add_mod j r.sz).symm, h1⟩
 refine ⟨(List.range (xs.length * r.sz)).map fun j => (cel w a j).getD undef, ⟨by simp, h.bd, fun k hk => ?_⟩, fun j u hu => ?_, fun u hu => ?_⟩
 ·obtain ⟨_, _, _, h4⟩ := hat k hk
  refine r.ext (fun i hi => ?_) h4
  have hlt : k * r.sz + i < xs.length * r.sz := by
   have : (k + 1) * r.sz ≤ xs.length * r.sz := Nat.mul_le_mul_right _ hk
   rw [Nat.add_mul, Nat.one_mul] at this; omega
  obtain ⟨v, hv, _⟩ := hcell _ hlt
  simp [hlt, hv]
 ·have hj : j < xs.length * r.sz := by have := (List.getElem?_eq_some_iff.1 hu).1; simpa using this
  have hpos : 0 < xs.length := by
   rcases Nat.eq_zero_or_pos xs.length with h0 | h0
   ·rw [h0] at hj; omega
   ·exact h0
  obtain ⟨h1, _, _, _⟩ := hat 0 hpos
  rw [add_lit' a h1]
  obtain ⟨v, hv, _⟩ := hcell j hj
  simp [hj, hv] at hu
  rw [← hu]
  exact hv
 ·simp only [List.mem_map, List.mem_range] at hu
  obtain ⟨j, hj, rfl⟩ := hu
  obtain ⟨v, hv, h⟩ := hcell j hj
  rw [hv]; exact h
theorem oapp {α : Type} {r : Rp α} {z : Value} {by_ : Nat} (ht : P.underlying t = some (.slice e)) (he : ti P e = some (some z, r.sz, by_)) (hzs : z.cells.size = r.sz)
    {p : Option Addr} {n c : Nat} {vs : List Value} {xs : List α} (j : Nat) (hO : Owns n0 w E A) (hj : E[j]? = some (.row e r.sz p n c vs)) (hE : Els r (bl E ++ A) w vs xs)
    {q : Option Addr} {m d : Nat} {ys : List α} (hs : ISl r (bl E ++ A) w q d ys) (hm : m = ys.length) (hb0 : xs.length + ys.length ≤ 1099511627776) (hby : by_ ≤ 128) :
    ∃ w' p' c' vs', Stp n0 A w E w' (E.set j (.row e r.sz p' (n + m) c' vs')) ∧ Els r (bl (E.set j (.row e r.sz p' (n + m) c' vs')) ++ A) w' vs' (xs ++ ys) ∧
      ∀ {σ : Nat → Value} {x y : Operand} {ty : TypeId}, ev σ x = .slice p n c → ev σ y = .slice q m d → OpV P (.call { callee := .builtin .append, args := #[x, y], argTypes := #[t, t] }) ty σ w (.slice p' (n + m) c') w' := by
  obtain ⟨i, hi, hz1, hz2, hz3⟩ := J2Y he
  have hh := hO.at_ _ (List.mem_of_getElem? hj)
  have hn := hE.n_eq hh
  have hb : (xs.length + ys.length) * by_ ≤ 140737488355328 := by
    have h1 : (xs.length + ys.length) * by_ ≤ 1099511627776 * 128 := Nat.mul_le_mul hb0 hby
    omega
  have hl : xs.length + ys.length ≤ 140737488355328 := by omega
  subst hm
  cases q with
  | none =>
    have hd := hs.nil rfl
    have hys : ys = [] := List.eq_nil_of_length_eq_zero (by have := hs.cap; omega)
    subst hys
    refine ⟨w, p, c, vs, ?_, ?_, fun hx hy => .inl ?_⟩
    · have he2 : E.set j (.row e r.sz p (n + ([] : List α).length) c vs) = E := by
        have hjl : j < E.length := (List.getElem?_eq_some_iff.1 hj).1
        have hje : E[j] = .row e r.sz p n c vs := (List.getElem?_eq_some_iff.1 hj).2
        show E.set j (.row e r.sz p n c vs) = E
        rw [← hje]; simp
      rw [he2]
      exact Stp.same hO (Same.refl w)
    · have he2 : E.set j (.row e r.sz p (n + ([] : List α).length) c vs) = E := by
        have hjl : j < E.length := (List.getElem?_eq_some_iff.1 hj).1
        have hje : E[j] = .row e r.sz p n c vs := (List.getElem?_eq_some_iff.1 hj).2
        show E.set j (.row e r.sz p n c vs) = E
        rw [← hje]; simp
      rw [he2, List.append_nil]
      exact hE
    · subst hd
      have hle := (J20 hh).1
      simp [execOp, opr, hx, hy, resolve, invoke, builtin, Builtin.append_, run_underlying ht, Go.sizeOf, typeInfo, hi, Builtin.lenOf, Builtin.firstCells, hle]
      cases p <;> simp [storeCells]
  | some a =>
    obtain ⟨us, hU, hcells, hone⟩ := hs.cells
    obtain ⟨v', w', hr, hown, hg, _⟩ := run_append_own (P := P) w n0 t t e i z r.sz by_ ht hi hz1 hz2 hz3 hzs r.pos (.slice p n c) n vs hh a ys.length d us hU.len hcells hone
      (by rw [hn]; simp only [maxLen]; omega) (by rw [hn]; exact hb) hO.le
    obtain ⟨p', c', rfl⟩ : ∃ p' c', v' = .slice p' (n + ys.length) c' := by
      rcases hown.2 with ⟨rfl, h0⟩ | ⟨g, cap, cur, rfl, _⟩
      · exact ⟨none, 0, by rw [h0]⟩
      · exact ⟨_, _, rfl⟩
    have hst : Stp n0 A w E w' (E.set j (.row e r.sz p' (n + ys.length) c' (vs ++ us))) := by
      refine Stp.grown j hO hj hg hown fun b hpb => ?_
      rcases hh.2 with ⟨hv, h0⟩ | ⟨g, cap, cur, hv, hbg, hgg, hnc, hcm, hcs, htake⟩
      · cases hv
        obtain ⟨v2, w2, hr2, hown2, _, _⟩ := run_append_own (P := P) w w.heap.size t t e i z r.sz by_ ht hi hz1 hz2 hz3 hzs r.pos (.slice none 0 0) 0 [] (World.ownsRow_nil w _ e r.sz) a ys.length d us hU.len hcells hone
          (by simp only [maxLen]; omega) (by refine Nat.le_trans (Nat.mul_le_mul_right _ ?_) hb; omega) (Nat.le_refl _)
        rw [hr] at hr2
        cases hr2
        rcases hown2.2 with ⟨hv2, _⟩ | ⟨g2, _, _, hv2, hb2, _⟩
        · have h := (Value.slice.inj hv2).1; rw [h] at hpb; cases hpb
        · have h := (Value.slice.inj hv2).1; rw [h] at hpb; cases hpb; exact .inr hb2
      · cases hv
        by_cases hroom : n + ys.length ≤ c
        · have hfit : n * i.size + us.length ≤ cur.size := by rw [hU.len, hcs, hz2, ← Nat.add_mul]; exact Nat.mul_le_mul_right _ hroom
          have hr2 := run_append_room (P := P) w t t e i ht hi g n c cur hgg a ys.length d us (by rw [hz2]; exact hU.len) hcells hone hroom hfit
          rw [hr] at hr2
          cases hr2
          exact .inl rfl
        · have holds : ∀ j u, vs[j]? = some u → w.cell? ((⟨g, 0, none⟩ : Addr).add j) = some u := World.ownsRow.cells hh (g := g) rfl
          have hr2 := run_append_grow (P := P) w t t e i z ht hi hz1 ⟨g, 0, none⟩ n c vs (by rw [hz2]; exact hh.1) holds a ys.length d us (by rw [hz2]; exact hU.len) hcells (by omega) (by omega) (growslice_fits (by omega) (by rw [hz3, hn]; exact hb))
          rw [hr] at hr2
          cases hr2
          cases hpb
          exact .inr (Nat.le_refl _)
    refine ⟨w', p', c', vs ++ us, hst, (hE.append hU (by simp only [mx]; omega)).ch hst.ch, fun {σ x y ty} hx hy => .inl ?_⟩
    have hr' : (Builtin.append_ #[t, t] ty #[.slice p n c, .slice (some a) ys.length d]).run P w = .ok (.slice p' (n + ys.length) c') w' := hr
    simp [execOp, opr, hx, hy, resolve, invoke, builtin, hr']
end
end Sg
namespace Sg
open Go Go.RowKit
section
variable {P : Program} {σ : Nat → Value} {w : World} {t t' ty e : TypeId} {x y z : Operand} {A : List Nat} {E : List Ent} {n0 : Nat}
theorem Els.neq {α : Type} {r : Rp α} {Av : List Nat} {p : Option Addr} {n c : Nat} {vs : List Value} {xs : List α} (hE : Els r Av w vs xs) (hO : Owns n0 w E A) (j : Nat) (hj : E[j]? = some (.row e r.sz p n c vs)) : n = xs.length :=
 hE.n_eq (hO.at_ _ (List.mem_of_getElem? hj))
theorem ltn {n m : Nat} (hn : n = m) {i : Int} (h : i < (m : Int)) : i < (n : Int) := by omega
theorem len0 {n m : Nat} (hn : n = m) {k : Nat} (h : m = k) : n = k := hn.trans h
theorem Els.psome {α : Type} {r : Rp α} {Av : List Nat} {p : Option Addr} {n c : Nat} {vs : List Value} {xs : List α} (hE : Els r Av w vs xs) (hO : Owns n0 w E A) (j : Nat) (hj : E[j]? = some (.row e r.sz p n c vs)) {i : Int} (h0 : 0 ≤ i) (h : i < (xs.length : Int)) : p.isSome = true := by
 have hh := hO.at_ _ (List.mem_of_getElem? hj)
 have hn := hE.n_eq hh
 rcases hh.2 with ⟨hv, hn⟩ | ⟨g, cap, cur, hv, _⟩
 ·omega
 ·cases hv; rfl
theorem J2v {p : Option Addr} {n m c : Nat} (ht : P.underlying t = some (.slice e)) (hx : ev σ x = .slice p n c) (hn : n = m) (w : World) :
  OpV P (.call { callee := .builtin .len, args := #[x], argTypes := #[t] }) ty σ w (.int .i64 m) w := hn ▸ J27 ht hx w
theorem Go1.loopW {f n : Nat} {k : List Item} {R : Value → World → Prop} {S : Type} {c : Code} {body : S → (S → Prop) → Prop} {s0 : S} (Pre : S → (Nat → Value) → World → Prop) (H : LoopWP body s0) (h0 : Pre s0 σ w)
  (round : ∀ (X : S → Prop) (s : S), body s X → (∀ s', X s' → ∀ σ' w', Pre s' σ' w' → Go1 P f n (.inLoop c :: k) σ' w' R) → ∀ σ w, Pre s σ w → Go1 P f n (.code c :: .inLoop c :: k) σ w R) :
  Go1 P f n (.code (.loop c) :: k) σ w R := by
 have key := H (fun s => ∀ σ w, Pre s σ w → Go1 P f n (.code c :: .inLoop c :: k) σ w R) fun s hb => round _ s hb fun s' hX σ' w' hP => Go1.again (hX σ' w' hP)
 exact fun a ha => .step (fun _ => step_loop) (key σ w h0 a ha)
theorem Go1.cut {f n : Nat} {k : List Item} {R : Value → World → Prop} (ls : List (Nat × Value)) (h : agrees σ ls) (k' : ∀ σ', agrees σ' ls → Go1 P f n k (setAll σ' ls) w R) : Go1 P f n k σ w R := by
 have := k' σ h
 rwa [J11 σ ls h] at this
theorem Els.cons {α : Type} {r : Rp α} (r1 : r.sz = 1) {v : Value} {vs : List Value} {u : α} {xs : List α} (hR : r.R A w (fun _ => some v) u) (h : Els r A w vs xs) (hb : xs.length + 1 ≤ mx) : Els r A w (v :: vs) (u :: xs) := by
  refine ⟨by simp [h.len, r1], by simpa using hb, fun k hk => ?_⟩
  cases k with
  | zero => exact r.ext (fun i hi => by obtain rfl : i = 0 := by omega
                                        simp) hR
  | succ k =>
    refine r.ext (fun i hi => ?_) (h.at_ k (by simpa using hk))
    obtain rfl : i = 0 := by omega
    simp [r1]
theorem J2O {α : Type} {r : Rp α} (r1 : r.sz = 1) {z : Value} {by_ : Nat} (ht : P.underlying t = some (.slice e)) (he : ti P e = some (some z, r.sz, by_)) {n : Nat} {parts : List (Nat × Value)} {vs : List Value} {xs : List α}
  (hO : Owns n0 w E A) (hn : n ≤ 1000) (hf : Instr.fill (fun i => some (i * 1, 1)) ((Array.range (n * 1)).map (z.cells[· % z.cells.size]!)) parts = some vs.toArray) (hE : Els r (bl E ++ A) w vs xs) (hl : vs.length = n) :
  ∃ w' p, Stp n0 A w E w' (.row e 1 p n n vs :: E) ∧ Els r (bl (.row e 1 p n n vs :: E) ++ A) w' vs xs ∧ Same w w' ∧ ∀ {σ : Nat → Value} {ps : List (Nat × Operand)} {ty : TypeId}, (ps.map fun p => (p.1, ev σ p.2)) = parts → OpV P (.buildSlice t n ps.toArray) ty σ w (.slice p n n) w' := by
 obtain ⟨i, hi, hz1, hz2, hz3⟩ := J2Y he
 have hs : Same w (w.alloc (.cells vs.toArray e (0, 0))) := ⟨rfl, rfl, rfl, by simp, fun k hk => Below.heap_alloc _ _ _ hk⟩
 have hst : Stp n0 A w E (w.alloc (.cells vs.toArray e (0, 0))) (.row e 1 (some ⟨w.heap.size, 0, none⟩) n n vs :: E) := by
  refine Stp.new hO hs (by simp [Ent.fp]) (fun b hb => by simp [Ent.fp] at hb; omega) ?_
  have := World.ownsRow_lit (base := n0) (e := e) (size := 1) w vs.toArray n hO.le (by simp only [maxLen]; omega) (by simp [hl])
  simp only at this
  exact this
 refine ⟨_, _, hst, hE.ch hst.ch, hs, fun hp => .inl ?_⟩
 have hz : i.size = 1 := by rw [hz2, r1]
 have h24 : ¬ (16777216 < n) := by omega
 by_cases hn0 : n = 0
 ·subst hn0
  have hv : vs = [] := List.eq_nil_of_length_eq_zero hl
  subst hv
  simp only [Nat.zero_mul] at hf
  simp [execOp, opr, hp, Instr.buildSlice, run_underlying ht, Go.sizeOf, typeInfo, hi, hz, newRow]
  simp only [Nat.mul_one] at hf
  have hf' : Instr.fill (fun i => some (i, 1)) (Array.map (fun _ => default) (Array.range 0)) parts = some #[] := by rw [Array.range_zero', Array.map_empty] at hf ⊢; exact hf
  simp only [hf']
  simp only [Sem.run_map, run_newObj, Result.andThen_ok]
  rfl
 ·simp only [Nat.mul_one] at hf
  simp [execOp, opr, hp, Instr.buildSlice, run_underlying ht, Go.sizeOf, typeInfo, zeroValue, hi, hz, hz1, h24, hn0, newRow]
  simp only [hf]
  simp only [Sem.run_map, run_newObj, Result.andThen_ok]
  rfl
theorem opB {op : Op} {b b' : Bool} {w' : World} (h : OpV P op ty σ w (.bool b) w') (hb : b = b') : OpV P op ty σ w (.bool b') w' := hb ▸ h
theorem J5T {k k' : IntKind} {a b : Int} (hx : ev σ x = .int k a) (hy : ev σ y = .int k' b) (h : a < b) {ts : Array TypeId} (w : World) : OpV P (.call { callee := .builtin .max, args := #[x, y], argTypes := ts }) ty σ w (.int k b) w := .inl (by
 have h' : b > a := h
 simp [execOp, opr, hx, hy, resolve, invoke, builtin, Builtin.max_, Builtin.max2, h'])
theorem J5R {k k' : IntKind} {a b : Int} (hx : ev σ x = .int k a) (hy : ev σ y = .int k' b) (h : ¬ a < b) {ts : Array TypeId} (w : World) : OpV P (.call { callee := .builtin .max, args := #[x, y], argTypes := ts }) ty σ w (.int k a) w := .inl (by
 have h' : ¬ b > a := h
 simp [execOp, opr, hx, hy, resolve, invoke, builtin, Builtin.max_, Builtin.max2, h'])
theorem ndT {p : Prop} [Decidable p] (h : p) : (!decide p) = false := by simp [h]
theorem ndF {p : Prop} [Decidable p] (h : ¬ p) : (!decide p) = true := by simp [h]
theorem J59 {a : Addr} (hx : ev σ x = .pointer (some a)) (w : World) : OpV P (.nilCheck x) ty σ w (.pointer (some a)) w := .inl (by simp [execOp, opr, hx])
theorem J03 {fs : Array Field} {fl : Field} {b o i s : Nat} {zz : Option Value} {bb : Nat} (ht : P.underlying t = some (.struct fs)) (hf : fs[i]? = some fl) (he : ti P fl.type = some (zz, s, bb)) (hx : ev σ x = .pointer (some ⟨b, o, none⟩)) (hs : s ≠ 0) (w : World) :
  OpV P (.fieldAddr t x i) ty σ w (.pointer (some ⟨b, o + fl.offset, none⟩)) w := .inl (by
 have h1 := fun w => run_sizeOf he w
 simp [execOp, opr, hx, Instr.fieldAt, Instr.sureAddr, run_underlying ht, hf, fieldPlace, h1, hs, Addr.add_lit])
theorem oblk {b i : Nat} {cs : Array Value} {T : TypeId} {fz : Nat × Nat} (j : Nat) (hO : Owns n0 w E A) (hj : E[j]? = some (.blk b (.cells cs T fz))) {v : Value} (hv : cs[i]? = some v) {d : TypeDesc} (ht : P.underlying t = some d) (hd : scB d = true)
  (hx : ev σ x = .pointer (some ⟨b, i, none⟩)) (w' : World) (hw : Same w w') : OpV P (.load t x) ty σ w' v w' := by
 have hh := (hO.at_ _ (List.mem_of_getElem? hj)).2
 refine J2c ht hd hx ?_
 rw [World.cell?_of_block (w := w) (hw.block b (Array.getElem?_eq_some_iff.1 hh).1)]
 simp [World.cell?, hh, hv]
theorem J66 {b i : Nat} {cs : Array Value} {T : TypeId} {fz : Nat × Nat} {vs : List Value} (j : Nat) (hO : Owns n0 w E A) (hj : E[j]? = some (.blk b (.cells cs T fz))) (hv : (cs.toList.drop i).take vs.length = vs) {d : TypeDesc} (ht : P.underlying t = some d) (hd : scB d = false)
  {zz : Option Value} {bb : Nat} (he : ti P t = some (zz, vs.length, bb)) (hx : ev σ x = .pointer (some ⟨b, i, none⟩)) (w' : World) (hw : Same w w') : OpV P (.load t x) ty σ w' (.agg vs.toArray) w' := by
 have hh := (hO.at_ _ (List.mem_of_getElem? hj)).2
 refine J4f ht hd he hx fun m hm => ?_
 rw [Addr.add_lit, World.cell?_of_block (w := w) (hw.block b (Array.getElem?_eq_some_iff.1 hh).1)]
 simp only [World.cell?, hh, Option.isSome_none, Bool.false_eq_true, if_false]
 have h1 : vs[m]? = some vs[m] := List.getElem?_eq_getElem hm
 conv at h1 => lhs; rw [← hv]
 rw [List.getElem?_take, if_pos hm, List.getElem?_drop] at h1
 simpa using h1
theorem oblkSt {b i : Nat} {cs : Array Value} {T : TypeId} (j : Nat) (hO : Owns n0 w E A) (hj : E[j]? = some (.blk b (.cells cs T (0, 0)))) {u v : Value} (hu : cs[i]? = some u) (hv : v.oneCell' = true) :
  ∃ w', Stp n0 A w E w' (E.set j (.blk b (.cells (cs.setIfInBounds i v) T (0, 0)))) ∧ ∀ {P : Program} {σ : Nat → Value} {t ty : TypeId} {x y : Operand} {d : TypeDesc} {zz : Option Value} {bb : Nat}, P.underlying t = some d → scB d = true → ti P t = some (zz, 1, bb) →
   ev σ x = .pointer (some ⟨b, i, none⟩) → ev σ y = v → OpV P (.store t x y) ty σ w undef w' := by
 obtain ⟨hb, hh⟩ := hO.at_ _ (List.mem_of_getElem? hj)
 refine ⟨w.setCell ⟨b, i, none⟩ v, Stp.turn hO hj ⟨rfl, rfl, rfl⟩ (by simp [World.setCell]) (fun k hk hn => Below.heap_setCell w ⟨b, i, none⟩ v k (by simpa [Ent.fp] using hn)) (by simp [Ent.fp]) (fun k hk => .inl hk) ⟨hb, heap_set w b i cs T v hh⟩, fun ht hd he hx hy => ?_⟩
 exact J3p ht hd he hx hy hv (u := u) (by simp [World.cell?, hh, hu]) (by simp [World.frozen?, hh])
theorem J2a {b i : Nat} {cs cs' : Array Value} {T : TypeId} (j : Nat) (hO : Owns n0 w E A) (hj : E[j]? = some (.blk b (.cells cs T (0, 0)))) {u v : Value} (hu : cs[i]? = some u) (hv : v.oneCell' = true) (h : cs.setIfInBounds i v = cs') :
  ∃ w', Stp n0 A w E w' (E.set j (.blk b (.cells cs' T (0, 0)))) ∧ ∀ {P : Program} {σ : Nat → Value} {t ty : TypeId} {x y : Operand} {d : TypeDesc} {zz : Option Value} {bb : Nat}, P.underlying t = some d → scB d = true → ti P t = some (zz, 1, bb) →
   ev σ x = .pointer (some ⟨b, i, none⟩) → ev σ y = v → OpV P (.store t x y) ty σ w undef w' := by
 subst h; exact oblkSt j hO hj hu hv
theorem Ch.start (A : List Nat) (w : World) : Ch A w (bl [] ++ A) w := Ch.refl A w
def Body (P : Program) (g : FuncId) : Prop := ∃ fn, P.funcs[g]? = some fn ∧ fn.body.isNone = false ∧ (fn.name == "runtime.NumGoroutine") = false
theorem J3A {g : FuncId} (h : Body P g) (args : Array Value) (w : World) : (callFunc g args).run P w = .ok (.enter g args) w := by
 obtain ⟨fn, h1, h2, h3⟩ := h
 have h3' : ¬ fn.name = "runtime.NumGoroutine" := by simpa using h3
 cases hb : fn.body with
 | none => simp [hb] at h2
 | some c => simp [callFunc, h1, h3', hb]
theorem J05 {g : FuncId} {xs : List Operand} {l : List Value} {ts : Array TypeId} {R1 : Value → World → Prop} (hb : Body P g) (hl : xs.map (ev σ) = l) (hc : CallsV P g l.toArray w R1) :
  OpC P (.call { callee := .value (.func g), args := xs.toArray, argTypes := ts }) ty σ w R1 := by
 refine ⟨g, l.toArray, ?_, hc⟩
 subst hl
 simp [execOp, opr, resolve, ev, Deferred.ofValue, invoke, J3A hb]
end
end Sg
