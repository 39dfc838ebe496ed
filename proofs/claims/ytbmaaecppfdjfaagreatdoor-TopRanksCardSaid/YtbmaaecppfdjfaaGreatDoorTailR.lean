/- -/
import Derived.Test.YtbmaaecppfdjfaaGreatDoorCB
import Derived.Test.YtbmaaecppfdjfaaGreatDoorStr
import Derived.Test.YtbmaaecppfdjfaaGreatDoorMix
import Derived.Test.YtbmaaecppfdjfaaGreatDoorRx
namespace Sg
open Go Go.RowKit
set_option linter.unusedVariables false
set_option linter.unusedSimpArgs false
section
variable {P : Program} {σ : Nat → Value} {w : World} {t t' ty e : TypeId} {x y z : Operand} {A : List Nat} {E : List Ent} {n0 : Nat}
def tailpR (sz : Nat) (p : Option Addr) (l c : Nat) : Option Addr := if c = l then p else padd p (l * sz)
theorem J8A {sz : Nat} {p : Option Addr} {m c : Nat} {h : Int} {kk : IntKind} {zz : Option Value} {bb : Nat} (ht : P.underlying t = some (.slice e)) (he : ti P e = some (zz, sz, bb)) (hx : ev σ x = .slice p m c) (hy : ev σ y = .int kk h) (h0 : 0 ≤ h) (h1 : h ≤ m) (w : World) :
  OpV P (.slice t x (some y) none none) ty σ w (.slice (tailpR sz p h.toNat c) (m - h.toNat) (c - h.toNat)) w := .inl (by
 have hs := fun w => run_sizeOf he w
 have h2 : h ≤ (m : Int) := h1
 have e1 : (Option.map (fun a : Addr => a.add (h.toNat * sz)) p) = padd p (h.toNat * sz) := rfl
 by_cases hc : c = h.toNat
 ·simp [execOp, opr, hx, hy, Instr.sliceAt, Instr.slice, Instr.sliceBounds, Instr.sliceBound, run_underlying ht, asIntOf, h0, h2, hs, tailpR, hc]
 ·simp [execOp, opr, hx, hy, Instr.sliceAt, Instr.slice, Instr.sliceBounds, Instr.sliceBound, run_underlying ht, asIntOf, h0, h2, hs, tailpR, hc, padd])
theorem JeK (cs : Array Value) (n : Nat) : (Builtin.zeroCells cs n).toList.length = n * cs.size := by simp [Builtin.zeroCells]
theorem JiH (cs : Array Value) (n k i : Nat) (hk : k < n) (hi : i < cs.size) : (Builtin.zeroCells cs n).toList[k * cs.size + i]? = cs[i]? := by
 have hle : (k + 1) * cs.size ≤ n * cs.size := Nat.mul_le_mul_right _ (by omega)
 rw [Nat.add_mul, Nat.one_mul] at hle
 have e : (k * cs.size + i) % cs.size = i := by
  rw [Nat.add_comm, Nat.add_mul_mod_self_right, Nat.mod_eq_of_lt hi]
 unfold Builtin.zeroCells
 rw [Array.getElem?_toList, Array.getElem?_map, Array.getElem?_range, if_pos (by omega)]
 simp only [Option.map_some, e]
 rw [getElem!_pos cs i hi, Array.getElem?_eq_getElem hi]
theorem Ji9 {cs : Array Value} {n : Nat} (h : ∀ v ∈ cs, v.oneCell' = true) (hp : 0 < cs.size) : ∀ v ∈ (Builtin.zeroCells cs n).toList, v.oneCell' = true := by
 intro v hv
 unfold Builtin.zeroCells at hv
 rw [Array.toList_map, List.mem_map] at hv
 obtain ⟨i, _, rfl⟩ := hv
 have hi : i % cs.size < cs.size := Nat.mod_lt _ hp
 rw [getElem!_pos cs _ hi]
 exact h _ (Array.getElem_mem hi)
theorem JfK (w : World) (t e ty : TypeId) (z : Value) (ht : P.underlying t = some (.slice e)) (hv : ∀ w, (zeroValue e).run P w = .ok z w) (h1 : ∀ v ∈ z.cells, v.oneCell' = true) (hp : 0 < z.cells.size) (b o n c : Nat) (hn : 0 < n)
  (hc : ∀ j, j < n * z.cells.size → (w.cell? ⟨b, o + j, none⟩).isSome = true) (hf : ∀ j, j < n * z.cells.size → w.frozen? ⟨b, o + j, none⟩ = false) :
  (Builtin.clear_ #[t] ty #[.slice (some ⟨b, o, none⟩) n c]).run P w = .ok (.tuple #[]) (w.setCells b o (Builtin.zeroCells z.cells n).toList) := by
 have hst := run_storeCells_cells (P := P) b o (Builtin.zeroCells z.cells n).toList 0 w (by rw [JeK]; simpa using hc) (by rw [JeK]; simpa using hf) (Ji9 h1 hp)
 simp only [Nat.add_zero] at hst
 obtain ⟨m, rfl⟩ : ∃ m, n = m + 1 := ⟨n - 1, by omega⟩
 simp [Builtin.clear_, run_underlying ht, hv, hst]
theorem oclearR {α : Type} {r : Rp α} {d : α} {z : Value} {bb : Nat} (ht : P.underlying t = some (.slice e)) (he : ti P e = some (some z, r.sz, bb)) (hz : z.cells.size = r.sz) (hz1 : ∀ v ∈ z.cells, v.oneCell' = true) (hd : ∀ A w, r.R A w (fun i => z.cells[i]?) d)
  {p : Option Addr} {n c : Nat} {vs : List Value} {xs : List α} (j : Nat) (hO : Owns n0 w E A) (hj : E[j]? = some (.row e r.sz p n c vs)) (hE : Els r (bl E ++ A) w vs xs) {l : Int} (l0 : 0 ≤ l) (l1 : l ≤ xs.length) :
  ∃ w' vs', Stp n0 A w E w' (E.set j (.row e r.sz p n c vs')) ∧ Els r (bl (E.set j (.row e r.sz p n c vs')) ++ A) w' vs' (xs.take l.toNat ++ List.replicate (xs.length - l.toNat) d) ∧
   ∀ {σ : Nat → Value} {x : Operand} {ty : TypeId}, ev σ x = .slice (tailpR r.sz p l.toNat c) (n - l.toNat) (c - l.toNat) → OpV P (.call { callee := .builtin .clear, args := #[x], argTypes := #[t] }) ty σ w (.tuple #[]) w' := by
 obtain ⟨m, rfl⟩ := Int.eq_ofNat_of_zero_le l0
 simp only [Int.toNat_natCast] at *
 have hh := hO.at_ _ (List.mem_of_getElem? hj)
 have hn : n = xs.length := hE.n_eq (r := r) hh
 have hvl := hE.len
 have hps := r.pos
 have hm : m ≤ n := by omega
 by_cases hmn : m = n
 ·subst hmn
  refine ⟨w, vs, ?_, ?_, fun hx => .inl ?_⟩
  ·obtain ⟨hjl, hje⟩ := (List.getElem?_eq_some_iff.1 hj)
   rw [← hje, List.set_getElem_self]
   exact Stp.same hO (Same.refl w)
  ·obtain ⟨hjl, hje⟩ := (List.getElem?_eq_some_iff.1 hj)
   rw [← hje, List.set_getElem_self, hn]
   simpa using hE
  ·rename_i σ' x' ty
   simp only [Nat.sub_self] at hx
   have hcl : ∀ q k, (Builtin.clear_ #[t] ty #[.slice q 0 k]).run P w = .ok (.tuple #[]) w := fun q k => by
    cases q <;> simp [Builtin.clear_, run_underlying ht]
   simp [execOp, opr, hx, resolve, invoke, builtin, hcl]
 ·rcases hh.2 with ⟨hv, h2⟩ | ⟨g, cap, cur, hv, hb, hg, h1, h2, h3, h4⟩
  ·omega
  ·cases hv
   have hcm : c ≠ m := by omega
   have e0 : tailpR r.sz (some ⟨g, 0, none⟩) m c = some ⟨g, m * r.sz, none⟩ := by unfold tailpR; rw [if_neg hcm]; simp [padd, Addr.add_lit]
   have hmul : m * r.sz + (n - m) * r.sz = n * r.sz := by rw [← Nat.add_mul]; congr 1; omega
   have hcap : n * r.sz ≤ c * r.sz := Nat.mul_le_mul_right _ h1
   have hzl := JeK z.cells (n - m)
   rw [hz] at hzl
   have hsz : m * r.sz + (Builtin.zeroCells z.cells (n - m)).toList.length ≤ cur.size := by omega
   have hvn : vs.length = n * r.sz := by rw [hvl, hn]
   have hcur : (sets cur (m * r.sz) (Builtin.zeroCells z.cells (n - m)).toList).toList.take (n * r.sz) = vs.take (m * r.sz) ++ (Builtin.zeroCells z.cells (n - m)).toList := by
    rw [JcE _ _ _ hsz]
    have h6 : (cur.toList.take (m * r.sz) ++ (Builtin.zeroCells z.cells (n - m)).toList).length = n * r.sz := by
     rw [List.length_append, hzl, List.length_take, Array.length_toList]; omega
    rw [List.take_append_of_le_length (by omega), List.take_of_length_le (by omega), ← h4, List.take_take, Nat.min_eq_left (by omega)]
   have hst : Stp n0 A w E (w.setCells g (m * r.sz) (Builtin.zeroCells z.cells (n - m)).toList) (E.set j (.row e r.sz (some ⟨g, 0, none⟩) n c (vs.take (m * r.sz) ++ (Builtin.zeroCells z.cells (n - m)).toList))) := by
    refine Stp.turn hO hj (J8E _ _ _ _) (by rw [J8L]; exact Nat.le_refl _) (fun b _ hnb => J9v g _ _ _ b (by simpa [Ent.fp] using hnb)) (by simp [Ent.fp]) (fun b hb => .inl (by simpa [Ent.fp] using hb)) ?_
    exact ⟨by rw [List.length_append, List.length_take, hzl]; omega, .inr ⟨g, c, _, rfl, hb, J8n g e _ _ w cur hg, h1, h2, by rw [JcV]; exact h3, hcur⟩⟩
   refine ⟨_, _, hst, ?_, fun hx => .inl ?_⟩
   ·refine ⟨?_, by simp; have := hE.bd; omega, fun k hk => ?_⟩
    ·rw [List.length_append, List.length_take, hzl, List.length_append, List.length_take, List.length_replicate]
     rw [show min m xs.length + (xs.length - m) = n from by omega]; omega
    simp only [List.length_append, List.length_take, List.length_replicate] at hk
    by_cases hkm : k < m
    ·have hk1 : (k + 1) * r.sz ≤ m * r.sz := Nat.mul_le_mul_right _ hkm
     rw [Nat.add_mul, Nat.one_mul] at hk1
     rw [List.getElem_append_left (by simp; omega), List.getElem_take]
     refine r.ext (fun i hi => ?_) (r.ch hst.ch (hE.at_ k (by omega)))
     rw [List.getElem?_append_left (by rw [List.length_take]; omega), List.getElem?_take, if_pos (by omega)]
    ·rw [List.getElem_append_right (by simp; omega), List.getElem_replicate]
     have hk1 : m * r.sz ≤ k * r.sz := Nat.mul_le_mul_right _ (by omega)
     refine r.ext (fun i hi => ?_) (hd _ _)
     rw [List.getElem?_append_right (by rw [List.length_take]; omega), List.length_take, Nat.min_eq_left (by omega)]
     have e1 : k * r.sz + i - m * r.sz = (k - m) * r.sz + i := by rw [Nat.sub_mul]; omega
     rw [e1]
     have := JiH z.cells (n - m) (k - m) i (by omega) (by omega)
     rw [hz] at this
     exact this
   ·rename_i σ' x' ty
    rw [e0] at hx
    have hzs : (n - m) * z.cells.size = (n - m) * r.sz := by rw [hz]
    have hcell : ∀ q, q < (n - m) * z.cells.size → (w.cell? ⟨g, m * r.sz + q, none⟩).isSome = true := fun q hq => by
     rw [hzs] at hq
     have : m * r.sz + q < cur.size := by omega
     simp [World.cell?, hg, this]
    have hcl := JfK (P := P) w t e ty z ht (fun w => J38 he w) hz1 (by omega) g (m * r.sz) (n - m) (c - m) (by omega) hcell (fun q hq => by simp [World.frozen?, hg])
    simp [execOp, opr, hx, resolve, invoke, builtin, hcl]
theorem ISl.dropR {α : Type} {r : Rp α} {B : List Nat} {p : Option Addr} {c sz : Nat} {xs : List α} (hsz : r.sz = sz) (h : ISl r B w p c xs) (l : Nat) : ISl r B w (tailpR sz p l c) (c - l) (xs.drop l) := by
  subst hsz
  have h1 := h.cap
  have h2 := h.bd
  refine ⟨by simp; omega, by simp; omega, fun hp => ?_, fun a ha k hk => ?_⟩
  · have : p = none := by
      unfold tailpR at hp
      split at hp
      · exact hp
      · cases p with
        | none => rfl
        | some a => simp [padd] at hp
    have := h.nil this
    omega
  · simp only [List.length_drop] at hk
    unfold tailpR at ha
    rw [if_neg (by omega)] at ha
    cases p with
    | none => simp [padd] at ha
    | some a0 =>
      obtain ⟨g1, g2, g3, g4⟩ := h.at_ a0 rfl (l + k) (by omega)
      obtain ⟨b, o, q⟩ := a0
      simp only at g1 g2 g3
      subst g1
      simp only [padd, Option.map_some, Addr.add_lit, Option.some.injEq] at ha
      subst ha
      refine ⟨rfl, g2, g3, ?_⟩
      rw [List.getElem_drop]
      refine r.ext (fun i hi => ?_) g4
      show w.cell? _ = w.cell? _
      congr 2
      simp only [Nat.add_mul]; omega
theorem dropLen {α : Type} {n l : Nat} {xs : List α} (h : n = xs.length) : n - l = (xs.drop l).length := by simp [h]
theorem J6U (A : List Nat) (w : World) : rpExpr.R A w (fun i => (Value.agg #[.int .i64 0, .int .i64 0, .slice none 0 0]).cells[i]?) default := J09.2 ⟨rfl, rfl, none, 0, rfl, ISl.null _ _ _⟩
end
section
variable {P : Program} {w : World} {A : List Nat} {E : List Ent} {n0 : Nat} {t e : TypeId}
theorem obuE {z : Value} {by_ : Nat} {x : Expr} {op lt : Int} {m c : Nat} {p : Option Addr} (ht : P.underlying t = some (.slice e)) (he : ti P e = some (some z, rpExpr.sz, by_)) (hO : Owns n0 w E A) (hk : ISl rpExpr (bl E ++ A) w p c x.Kids)
  (h1 : op = x.Op := by exact rfl) (h2 : lt = x.Letter := by exact rfl) (h3 : m = x.Kids.length := by exact rfl) (hf : Instr.fill (fun i => some (i * rpExpr.sz, rpExpr.sz)) ((Array.range (1 * rpExpr.sz)).map (z.cells[· % z.cells.size]!)) [(0, .agg #[.int .i64 op, .int .i64 lt, .slice p m c])] = some [.int .i64 op, .int .i64 lt, .slice p m c].toArray := by kernel_rfl) :
  ∃ w' q, Stp n0 A w E w' (.row e rpExpr.sz q 1 1 [.int .i64 op, .int .i64 lt, .slice p m c] :: E) ∧ Els rpExpr (bl (.row e rpExpr.sz q 1 1 [.int .i64 op, .int .i64 lt, .slice p m c] :: E) ++ A) w' [.int .i64 op, .int .i64 lt, .slice p m c] [x] ∧ Same w w' ∧
   ∀ {σ : Nat → Value} {ps : List (Nat × Operand)} {ty : TypeId}, (ps.map fun p => (p.1, ev σ p.2)) = [(0, .agg #[.int .i64 op, .int .i64 lt, .slice p m c])] → OpV P (.buildSlice t 1 ps.toArray) ty σ w (.slice q 1 1) w' := by
 subst h1 h2 h3
 exact obuildN ht he hO (by decide) (by decide) hf (Els.consR (us := [.int .i64 x.Op, .int .i64 x.Letter, .slice p x.Kids.length c]) rfl (J09.2 ⟨rfl, rfl, p, c, rfl, hk⟩) (Els.nil _ _ _) (by simp [mx])) rfl
end
end Sg
