/- -/
import Derived.Test.YtdcibmiaiijjpaaMem
import Derived.Laws.StructEq
namespace Sg
open Go Go.RowKit
set_option linter.unusedVariables false
set_option linter.unusedSimpArgs false
def scB : TypeDesc → Bool
 | .struct _ | .array _ _ => false
 | _ => true
section
variable {P : Program} {σ : Nat → Value} {w : World} {t t' ty e : TypeId} {x y z : Operand} {A : List Nat} {E : List Ent} {n0 : Nat}
theorem J4Z {d : TypeDesc} (ht : P.underlying t = some d) (hd : scB d = true) (w : World) : (isAgg t).run P w = .ok false w := by
 cases d <;> simp [scB] at hd <;> simp [isAgg, run_underlying ht]
theorem run_isAgg' {d : TypeDesc} (ht : P.underlying t = some d) (hd : scB d = false) (w : World) : (isAgg t).run P w = .ok true w := by
 cases d <;> simp [scB] at hd <;> simp [isAgg, run_underlying ht]
theorem J2c {d : TypeDesc} {a : Addr} {v : Value} (ht : P.underlying t = some d) (hd : scB d = true) (hx : ev σ x = .pointer (some a)) (hc : w.cell? a = some v) : OpV P (.load t x) ty σ w v w := .inl (by
 simp [execOp, opr, hx, Instr.loadAt, Instr.sureAddr, loadVar, J4Z ht hd, hc])
theorem J1q (a : Addr) : ∀ (n i : Nat) (acc : Array Value) (vs : List Value), vs.length = n → (∀ j (h : j < vs.length), w.cell? (a.add (i + j)) = some vs[j]) → (loadCellsFrom a i n acc).run P w = .ok (acc ++ vs.toArray) w
  | 0, i, acc, vs, hl, _ => by
    have : vs = [] := List.eq_nil_of_length_eq_zero hl
    subst this; simp [loadCellsFrom]
  | n + 1, i, acc, v :: vs, hl, h => by
    have h0 := h 0 (by simp)
    simp only [Nat.add_zero, List.getElem_cons_zero] at h0
    have ih := J1q a n (i + 1) (acc.push v) vs (by simpa using hl) fun j hj => by
      have := h (j + 1) (by simpa using hj)
      rw [show i + 1 + j = i + (j + 1) by omega]; simpa using this
    simp [loadCellsFrom, h0, ih]
theorem J4f {d : TypeDesc} {a : Addr} {vs : List Value} {zz : Option Value} {b : Nat} (ht : P.underlying t = some d) (hd : scB d = false) (he : ti P t = some (zz, vs.length, b)) (hx : ev σ x = .pointer (some a))
  (hc : ∀ j (h : j < vs.length), w.cell? (a.add j) = some vs[j]) : OpV P (.load t x) ty σ w (.agg vs.toArray) w := .inl (by
 have hs := fun w => run_sizeOf he w
 have hl := J1q (P := P) (w := w) a vs.length 0 #[] vs rfl (by simpa using hc)
 simp [execOp, opr, hx, Instr.loadAt, Instr.sureAddr, loadVar, run_isAgg' ht hd, hs, loadCells, hl])
theorem add_lit' (a : Addr) (h : a.spot = none) (j : Nat) : a.add j = ⟨a.block, a.off + j, none⟩ := by
 obtain ⟨b, o, s⟩ := a; simp only at h; subst h; exact Addr.add_lit b o j
theorem ISl.elem {α : Type} [Inhabited α] {r : Rp α} {p : Option Addr} {c : Nat} {xs : List α} (h : ISl r A w p c xs) {i : Int} (h0 : 0 ≤ i) (h1 : i < xs.length) :
  ∃ a, padd p (i.toNat * r.sz) = some a ∧ a.spot = none ∧ a.block < w.heap.size ∧ a.block ∉ A ∧ r.R A w (cel w a) (ix xs i) := by
 obtain ⟨a, rfl⟩ := Option.isSome_iff_exists.1 (h.some_ h0 h1)
 have hk : i.toNat < xs.length := by omega
 obtain ⟨s1, s2, s3, s4⟩ := h.at_ a rfl i.toNat hk
 refine ⟨⟨a.block, a.off + i.toNat * r.sz, none⟩, by simp [padd, add_lit' a s1], rfl, s2, s3, ?_⟩
 rw [ix_eq hk]
 refine r.ext (fun j _ => ?_) s4
 simp [cel, Nat.add_assoc]
theorem cel0 {w : World} {a : Addr} (h : a.spot = none) : cel w a 0 = w.cell? a := by
 obtain ⟨b, o, s⟩ := a; simp only at h; subst h; rfl
theorem J4z {w w' : World} (h : Same w w') {a : Addr} (hb : a.block < w.heap.size) (i : Nat) : cel w' a i = cel w a i :=
 World.cell?_of_block (w := w) (w' := w') (h.block a.block hb)
theorem ld1 {α : Type} [Inhabited α] {r : Rp α} {p : Option Addr} {c : Nat} {xs : List α} (hs : ISl r A w p c xs) {i : Int} (h0 : 0 ≤ i) (h1 : i < xs.length)
  {v : Value} (hr : ∀ cs, r.R A w cs (ix xs i) → cs 0 = some v) {d : TypeDesc} (ht : P.underlying t = some d) (hd : scB d = true)
  (hx : ev σ x = .pointer (padd p (i.toNat * r.sz))) (w' : World) (hw : Same w w') : OpV P (.load t x) ty σ w' v w' := by
 obtain ⟨a, ha, hsp, hb, _, hR⟩ := hs.elem h0 h1
 rw [ha] at hx
 exact J2c ht hd hx (by rw [← cel0 hsp, J4z hw hb]; exact hr _ hR)
theorem ldInt {k : IntKind} {p : Option Addr} {c : Nat} {xs : List Int} (hs : ISl (Rp.int k) A w p c xs) {i : Int} (h0 : 0 ≤ i) (h1 : i < xs.length)
  {d : TypeDesc} (ht : P.underlying t = some d) (hd : scB d = true) (hx : ev σ x = .pointer (padd p (i.toNat * 1))) (w' : World) (hw : Same w w') : OpV P (.load t x) ty σ w' (.int k (ix xs i)) w' :=
 ld1 hs h0 h1 (fun _ h => h) ht hd hx w' hw
theorem ldBool {p : Option Addr} {c : Nat} {xs : List Bool} (hs : ISl Rp.bool A w p c xs) {i : Int} (h0 : 0 ≤ i) (h1 : i < xs.length)
  {d : TypeDesc} (ht : P.underlying t = some d) (hd : scB d = true) (hx : ev σ x = .pointer (padd p (i.toNat * 1))) (w' : World) (hw : Same w w') : OpV P (.load t x) ty σ w' (.bool (ix xs i)) w' :=
 ld1 hs h0 h1 (fun _ h => h) ht hd hx w' hw
theorem ldSl {α : Type} {r : Rp α} {p : Option Addr} {c : Nat} {xs : List (List α)} (hs : ISl r.sl A w p c xs) {i : Int} (h0 : 0 ≤ i) (h1 : i < xs.length) :
  ∃ q d, ISl r A w q d (ix xs i) ∧ ∀ {P : Program} {σ : Nat → Value} {t ty : TypeId} {x : Operand} {td : TypeDesc}, P.underlying t = some td → scB td = true → ev σ x = .pointer (padd p (i.toNat * 1)) → ∀ w', Same w w' → OpV P (.load t x) ty σ w' (.slice q (ix xs i).length d) w' := by
 obtain ⟨a, ha, hsp, hb, _, q, d, hq, hI⟩ := hs.elem h0 h1
 refine ⟨q, d, hI, fun ht hd hx w' hw => ?_⟩
 rw [show (Rp.sl r).sz = 1 from rfl] at ha
 rw [ha] at hx
 exact J2c ht hd hx (by rw [← cel0 hsp, J4z hw hb]; exact hq)
theorem J1s {size : Nat} {p : Option Addr} {n c : Nat} {vs : List Value} (h : w.ownsRow n0 e size (.slice p n c) n vs) {j : Nat} (hj : j < vs.length) :
  ∃ g cur, p = some ⟨g, 0, none⟩ ∧ w.heap[g]? = some (.cells cur e (0, 0)) ∧ n0 ≤ g ∧ n ≤ c ∧ c ≤ maxLen ∧ cur.size = c * size ∧ cur.toList.take (n * size) = vs ∧ w.cell? ⟨g, j, none⟩ = some vs[j] := by
 rcases h.2 with ⟨hv, hn⟩ | ⟨g, cap, cur, hv, hb, hg, h1, h2, h3, h4⟩
 ·have := h.1; subst hn; simp at this; simp [this] at hj
 ·cases hv
  refine ⟨g, cur, rfl, hg, hb, h1, h2, h3, h4, ?_⟩
  have hj' : j < (cur.toList.take (n * size)).length := by rw [h4]; exact hj
  simp only [World.cell?, hg, Option.isSome_none, Bool.false_eq_true, if_false]
  have e1 : vs[j] = (cur.toList.take (n * size))[j] := by simp only [h4]
  rw [e1, List.getElem_take]
  simp only [List.length_take, Array.length_toList] at hj'
  simp [show j < cur.size by omega]
theorem Els.val {α : Type} [Inhabited α] {r : Rp α} {vs : List Value} {xs : List α} (h : Els r A w vs xs) {i : Int} (h0 : 0 ≤ i) (h1 : i < xs.length) :
  i.toNat * r.sz < vs.length ∧ r.R A w (fun j => vs[i.toNat * r.sz + j]?) (ix xs i) := by
 have hk : i.toNat < xs.length := by omega
 refine ⟨?_, by rw [ix_eq hk]; exact h.at_ _ hk⟩
 rw [h.len]; exact Nat.mul_lt_mul_of_pos_right hk r.pos
theorem J20 {size : Nat} {p : Option Addr} {n c : Nat} {vs : List Value} (h : w.ownsRow n0 e size (.slice p n c) n vs) : n ≤ c ∧ vs.length = n * size := by
 refine ⟨?_, h.1⟩
 rcases h.2 with ⟨hv, hn⟩ | ⟨g, cap, cur, hv, hb, hg, h1, h2, h3, h4⟩
 ·cases hv; exact Nat.le_refl _
 ·cases hv; exact h1
theorem Els.n_eq {α : Type} {r : Rp α} {p : Option Addr} {n c : Nat} {vs : List Value} {xs : List α} (hE : Els r A w vs xs) (h : w.ownsRow n0 e r.sz (.slice p n c) n vs) : n = xs.length := by
 have h1 := hE.len; rw [h.1] at h1
 exact Nat.eq_of_mul_eq_mul_right r.pos h1
theorem oldV {α : Type} [Inhabited α] {r : Rp α} {p : Option Addr} {n c : Nat} {vs : List Value} {xs : List α} (j : Nat) (hO : Owns n0 w E A) (hj : E[j]? = some (.row e r.sz p n c vs)) (hE : Els r (bl E ++ A) w vs xs)
  {i : Int} (h0 : 0 ≤ i) (h1 : i < xs.length) {v : Value} (hv : vs[i.toNat * r.sz + 0]? = some v) {d : TypeDesc} (ht : P.underlying t = some d) (hd : scB d = true)
  (hx : ev σ x = .pointer (padd p (i.toNat * r.sz))) (w' : World) (hw : Same w w') : OpV P (.load t x) ty σ w' v w' := by
 have hh := hO.at_ _ (List.mem_of_getElem? hj)
 obtain ⟨hl, hR⟩ := hE.val h0 h1
 obtain ⟨g, cur, rfl, hg, _, _, _, _, _, hc⟩ := J1s hh hl
 simp only [Nat.add_zero, List.getElem?_eq_getElem hl, Option.some.injEq] at hv
 simp only [padd, Option.map_some, Addr.add_lit, Nat.zero_add] at hx
 refine J2c ht hd hx ?_
 rw [World.cell?_of_block (w := w) (hw.block g (Array.getElem?_eq_some_iff.1 hg).1), hc, hv]
theorem old1 {α : Type} [Inhabited α] {r : Rp α} {p : Option Addr} {n c : Nat} {vs : List Value} {xs : List α} (j : Nat) (hO : Owns n0 w E A) (hj : E[j]? = some (.row e r.sz p n c vs)) (hE : Els r (bl E ++ A) w vs xs)
  {i : Int} (h0 : 0 ≤ i) (h1 : i < xs.length) {v : Value} (hr : ∀ cs, r.R (bl E ++ A) w cs (ix xs i) → cs 0 = some v) {d : TypeDesc} (ht : P.underlying t = some d) (hd : scB d = true)
  (hx : ev σ x = .pointer (padd p (i.toNat * r.sz))) (w' : World) (hw : Same w w') : OpV P (.load t x) ty σ w' v w' :=
 oldV j hO hj hE h0 h1 (hr _ (hE.val h0 h1).2) ht hd hx w' hw
theorem oldInt {k : IntKind} {p : Option Addr} {n c : Nat} {vs : List Value} {xs : List Int} (j : Nat) (hO : Owns n0 w E A) (hj : E[j]? = some (.row e 1 p n c vs)) (hE : Els (Rp.int k) (bl E ++ A) w vs xs)
  {i : Int} (h0 : 0 ≤ i) (h1 : i < xs.length) {d : TypeDesc} (ht : P.underlying t = some d) (hd : scB d = true)
  (hx : ev σ x = .pointer (padd p (i.toNat * 1))) (w' : World) (hw : Same w w') : OpV P (.load t x) ty σ w' (.int k (ix xs i)) w' :=
 old1 (r := Rp.int k) j hO hj hE h0 h1 (fun _ h => h) ht hd hx w' hw
end
end Sg
