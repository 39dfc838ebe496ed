/- -/
import Derived.Test.YtdcibmiaiijjpaaTree
import Derived.Lib.SliceRun
namespace Sg
open Go Go.RowKit
set_option linter.unusedVariables false
set_option linter.unusedSimpArgs false
section
variable {P : Program} {σ : Nat → Value} {w : World} {t t' ty e : TypeId} {x y z : Operand} {A : List Nat} {E : List Ent} {n0 : Nat}
def tailp (p : Option Addr) (l c : Nat) : Option Addr := if c = l then p else padd p (l * 1)
theorem J3w {p : Option Addr} {m c : Nat} {h : Int} {kk : IntKind} {zz : Option Value} {bb : Nat} (ht : P.underlying t = some (.slice e)) (he : ti P e = some (zz, 1, bb)) (hx : ev σ x = .slice p m c) (hy : ev σ y = .int kk h) (h0 : 0 ≤ h) (h1 : h ≤ m) (w : World) :
  OpV P (.slice t x (some y) none none) ty σ w (.slice (tailp p h.toNat c) (m - h.toNat) (c - h.toNat)) w := .inl (by
 have hs := fun w => run_sizeOf he w
 have h2 : h ≤ (m : Int) := h1
 have e1 : (Option.map (fun a : Addr => a.add (h.toNat * 1)) p) = padd p (h.toNat * 1) := rfl
 by_cases hc : c = h.toNat
 ·simp [execOp, opr, hx, hy, Instr.sliceAt, Instr.slice, Instr.sliceBounds, Instr.sliceBound, run_underlying ht, asIntOf, h0, h2, hs, tailp, hc]
 ·simp [execOp, opr, hx, hy, Instr.sliceAt, Instr.slice, Instr.sliceBounds, Instr.sliceBound, run_underlying ht, asIntOf, h0, h2, hs, tailp, hc, padd])
theorem J6r {p : Option Addr} {g : Nat} (hp : p = some ⟨g, 0, none⟩) (a b : Nat) : padd (padd p a) b = padd p (a + b) := by
 subst hp; simp [padd, Addr.add_lit]
theorem J3L {α : Type} {r : Rp α} {Av : List Nat} {p : Option Addr} {n c : Nat} {vs : List Value} {xs : List α} (j : Nat) (hO : Owns n0 w E A) (hj : E[j]? = some (.row e r.sz p n c vs)) (hE : Els r Av w vs xs) {l k : Int} (l0 : 0 ≤ l) (k0 : 0 ≤ k) (h : l + k < xs.length) :
  padd (tailp p l.toNat c) (k.toNat * 1) = padd p ((l + k).toNat * 1) ∧ (tailp p l.toNat c).isSome = true := by
 have hh := hO.at_ _ (List.mem_of_getElem? hj)
 have hn := hE.n_eq hh
 rcases hh.2 with ⟨hv, h2⟩ | ⟨g, cap, cur, hv, _, _, hnc, _⟩
 ·omega
 ·cases hv
  have : c ≠ l.toNat := by omega
  unfold tailp
  rw [if_neg this]
  refine ⟨?_, rfl⟩
  rw [J6r (g := g) rfl]
  congr 1; omega
theorem tlInt {k' : IntKind} {p : Option Addr} {n c : Nat} {vs : List Value} {xs : List Int} (j : Nat) (hO : Owns n0 w E A) (hj : E[j]? = some (.row e 1 p n c vs)) (hE : Els (Rp.int k') (bl E ++ A) w vs xs) {l k : Int} (l0 : 0 ≤ l) (k0 : 0 ≤ k) (h : l + k < xs.length)
  {d : TypeDesc} (ht : P.underlying t = some d) (hd : scB d = true) (hx : ev σ x = .pointer (padd (tailp p l.toNat c) (k.toNat * 1))) (w' : World) (hw : Same w w') : OpV P (.load t x) ty σ w' (.int k' (ix xs (l + k))) w' := by
 rw [(J3L (r := Rp.int k') j hO hj hE l0 k0 h).1] at hx
 exact oldInt j hO hj hE (by omega) h ht hd hx w' hw
def sets (cur : Array Value) (o : Nat) : List Value → Array Value
 | [] => cur
 | v :: r => sets (cur.setIfInBounds o v) (o + 1) r
theorem J4V : ∀ (vals : List Value) (cur : Array Value) (o : Nat), (sets cur o vals).size = cur.size
 | [], _, _ => rfl
 | v :: r, cur, o => by rw [sets, J4V r]; simp
theorem J4Y : ∀ (vals : List Value) (cur : Array Value) (o : Nat), o + vals.length ≤ cur.size → (sets cur o vals).toList = cur.toList.take o ++ vals ++ cur.toList.drop (o + vals.length)
  | [], cur, o, _ => by simp [sets]
  | v :: r, cur, o, h => by
    simp only [List.length_cons] at h
    rw [sets, J4Y r _ (o + 1) (by simp; omega)]
    have ho : o < cur.toList.length := by simp; omega
    rw [Array.toList_setIfInBounds]
    have e1 : (cur.toList.set o v).take (o + 1) = cur.toList.take o ++ [v] := by
      rw [List.take_set, List.take_succ_eq_append_getElem ho, List.set_append_right _ _ (by simp; omega)]
      have h5 : o - min o cur.size = 0 := by omega
      simp [h5]
    have e2 : (cur.toList.set o v).drop (o + 1 + r.length) = cur.toList.drop (o + (v :: r).length) := by
      rw [List.drop_set, if_pos (by omega)]
      congr 1; simp; omega
    rw [e1, e2]
    simp
theorem J32 (g : Nat) (e : TypeId) : ∀ (vals : List Value) (o : Nat) (w : World) (cur : Array Value), w.heap[g]? = some (.cells cur e (0, 0)) → (w.setCells g o vals).heap[g]? = some (.cells (sets cur o vals) e (0, 0))
 | [], _, _, _, h => h
 | v :: r, o, w, cur, h => J32 g e r (o + 1) _ _ (heap_set w g o cur e v h)
theorem J3n (b : Nat) : ∀ (vs : List Value) (o : Nat) (w : World), (w.setCells b o vs).heap.size = w.heap.size
 | [], _, _ => rfl
 | v :: r, o, w => by rw [World.setCells, J3n b r]; simp [World.setCell]
theorem J3j (b : Nat) : ∀ (vs : List Value) (o : Nat) (w : World), (w.setCells b o vs).os = w.os ∧ (w.setCells b o vs).tape = w.tape ∧ (w.setCells b o vs).output = w.output
 | [], _, _ => ⟨rfl, rfl, rfl⟩
 | v :: r, o, w => by rw [World.setCells]; exact J3j b r (o + 1) _
theorem J3z (b : Nat) : ∀ (vs : List Value) (o : Nat) (w : World) (k : Nat), k ≠ b → (w.setCells b o vs).heap[k]? = w.heap[k]?
 | [], _, _, _, _ => rfl
 | v :: r, o, w, k, h => by rw [World.setCells, J3z b r _ _ k h]; exact Below.heap_setCell w ⟨b, o, none⟩ v k (by simpa using h)
theorem oclear {α : Type} {r : Rp α} (hf : Fl r) (r1 : r.sz = 1) {d : α} {z : Value} {bb : Nat} (ht : P.underlying t = some (.slice e)) (he : ti P e = some (some z, 1, bb)) (hz : z.cells = #[z]) (hz1 : z.oneCell' = true) (hd : ∀ A w, r.R A w (fun _ => some z) d)
  {p : Option Addr} {n c : Nat} {vs : List Value} {xs : List α} (j : Nat) (hO : Owns n0 w E A) (hj : E[j]? = some (.row e 1 p n c vs)) (hE : Els r (bl E ++ A) w vs xs) {l : Int} (l0 : 0 ≤ l) (l1 : l ≤ xs.length) :
  ∃ w' vs', Stp n0 A w E w' (E.set j (.row e 1 p n c vs')) ∧ Els r (bl (E.set j (.row e 1 p n c vs')) ++ A) w' vs' (xs.take l.toNat ++ List.replicate (xs.length - l.toNat) d) ∧
   ∀ {σ : Nat → Value} {x : Operand} {ty : TypeId}, ev σ x = .slice (tailp p l.toNat c) (n - l.toNat) (c - l.toNat) → OpV P (.call { callee := .builtin .clear, args := #[x], argTypes := #[t] }) ty σ w (.tuple #[]) w' := by
 obtain ⟨m, rfl⟩ := Int.eq_ofNat_of_zero_le l0
 simp only [Int.toNat_natCast] at *
 have hh := hO.at_ _ (List.mem_of_getElem? hj)
 have hn : n = xs.length := by rw [← r1] at hj; exact hE.n_eq (r := r) (hO.at_ _ (List.mem_of_getElem? hj))
 have hvl := hE.len
 rw [r1, Nat.mul_one] at hvl
 have hm : m ≤ n := by omega
 by_cases hmn : m = n
 ·subst hmn
  refine ⟨w, vs, ?_, ?_, fun hx => .inl ?_⟩
  ·have hje := (List.getElem?_eq_some_iff.1 hj)
   obtain ⟨hjl, hje⟩ := hje
   rw [← hje, List.set_getElem_self]
   exact Stp.same hO (Same.refl w)
  ·obtain ⟨hjl, hje⟩ := (List.getElem?_eq_some_iff.1 hj)
   rw [← hje, List.set_getElem_self, hn]
   simpa using hE
  ·rename_i σ' x' ty
   simp only [Nat.sub_self] at hx
   have hcl : ∀ q k, (Builtin.clear_ #[t] ty #[.slice q 0 k]).run P w = .ok (.tuple #[]) w := fun q k => by
    cases q <;> simp [Builtin.clear_, run_underlying ht]
   simp [execOp, opr, hx, resolve, invoke, builtin, hcl]
 ·rcases hh.2 with ⟨hv, h2⟩ | ⟨g, cap, cur, hv, hb, hg, h1, h2, h3, h4⟩
  ·omega
  ·cases hv
   have hcm : c ≠ m := by omega
   have e0 : tailp (some ⟨g, 0, none⟩) m c = some ⟨g, m, none⟩ := by unfold tailp; rw [if_neg hcm]; simp [padd, Addr.add_lit]
   have hsz : m + (n - m) ≤ cur.size := by omega
   have hcur : (sets cur m (List.replicate (n - m) z)).toList.take (n * 1) = vs.take m ++ List.replicate (n - m) z := by
    rw [J4Y _ _ _ (by simpa using hsz)]
    simp only [List.length_replicate, Nat.mul_one] at h4 ⊢
    have h6 : (cur.toList.take m ++ List.replicate (n - m) z).length = n := by simp; omega
    rw [List.take_append_of_le_length (by omega), List.take_of_length_le (by omega), ← h4, List.take_take, Nat.min_eq_left hm]
   refine ⟨w.setCells g m (List.replicate (n - m) z), vs.take m ++ List.replicate (n - m) z, Stp.turn hO hj (J3j _ _ _ _) (by rw [J3n]; exact Nat.le_refl _) (fun b _ hnb => J3z g _ _ _ b (by simpa [Ent.fp] using hnb)) (by simp [Ent.fp]) (fun b hb => .inl (by simpa [Ent.fp] using hb)) ?_, ?_, fun hx => .inl ?_⟩
   ·refine ⟨by simp; omega, .inr ⟨g, c, _, rfl, hb, J32 g e _ _ w cur hg, h1, h2, by rw [J4V]; exact h3, hcur⟩⟩
   ·refine ⟨by simp [r1]; omega, by simp; have := hE.bd; omega, fun k hk => ?_⟩
    simp only [List.length_append, List.length_take, List.length_replicate] at hk
    by_cases hkm : k < m
    ·rw [List.getElem_append_left (by simp; omega), List.getElem_take]
     refine r.ext (fun i hi => ?_) (hf (hE.at_ k (by omega)))
     obtain rfl : i = 0 := by omega
     rw [r1, Nat.mul_one, Nat.add_zero, List.getElem?_append_left (by simp; omega), List.getElem?_take, if_pos hkm]
    ·rw [List.getElem_append_right (by simp; omega), List.getElem_replicate]
     refine r.ext (fun i hi => ?_) (hd _ _)
     obtain rfl : i = 0 := by omega
     rw [r1, Nat.mul_one, Nat.add_zero, List.getElem?_append_right (by simp; omega), List.getElem?_replicate, if_pos (by simp; omega)]
   ·rename_i σ' x' ty
    rw [e0] at hx
    have hcell : ∀ q, q < n - m → (w.cell? ⟨g, m + q, none⟩).isSome = true := fun q hq => by simp [World.cell?, hg]; omega
    have hcl := Lib.run_clear_slice (P := P) w t e ty z ht (fun w => J1M he w) hz hz1 g m (n - m) (c - m) (by omega) hcell (fun q hq => by simp [World.frozen?, hg])
    simp [execOp, opr, hx, resolve, invoke, builtin, hcl]
theorem freezeHead {α : Type} {r : Rp α} {p : Option Addr} {n c : Nat} {vs : List Value} {xs : List α} (j : Nat) (hO : Owns n0 w E A) (hj : E[j]? = some (.row e r.sz p n c vs)) (hE : Els r (bl E ++ A) w vs xs) (k : Nat) :
  Owns n0 w (E.eraseIdx j) A ∧ Ch (bl E ++ A) w (bl (E.eraseIdx j) ++ A) w ∧ ISl r (bl (E.eraseIdx j) ++ A) w p c (xs.take k) :=
 let ⟨h1, h2, h3, _⟩ := freeze j hO hj hE
 ⟨h1, h2, h3.take k⟩
theorem lenle {n m : Nat} (hn : n = m) {i : Int} (h : i ≤ (m : Int)) : i ≤ (n : Int) := by omega
theorem tailLt {n m : Nat} (hn : n = m) {l k : Int} (l0 : 0 ≤ l) (h : l + k < (m : Int)) : k < ((n - l.toNat : Nat) : Int) := by omega
end
end Sg
