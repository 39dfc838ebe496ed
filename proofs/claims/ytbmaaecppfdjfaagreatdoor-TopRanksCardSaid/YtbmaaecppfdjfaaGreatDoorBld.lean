/- -/
import Derived.Test.YtbmaaecppfdjfaaGreatDoorStr
import Derived.Test.YtbmaaecppfdjfaaGreatDoorPA
import Derived.Test.YtbmaaecppfdjfaaGreatDoorCB
import Derived.Lib.Builder
import Derived.Lib.UnsafeStr
namespace Sg
open Go Go.RowKit
set_option linter.unusedVariables false
set_option linter.unusedSimpArgs false
def selfP (b : Nat) (d : Bool) : Value := if d then .pointer (some ⟨b, 0, none⟩) else .pointer none
section
variable {P : Program} {σ : Nat → Value} {w : World} {t t' t2 u ty e : TypeId} {x y : Operand} {A : List Nat} {E : List Ent} {n0 : Nat}
theorem Jdj {d : Bool} {b : Nat} (ht : P.underlying t = some (.pointer (P.pointee t))) (hx : ev σ x = selfP b d) (hy : ev σ y = .pointer none) (w : World) : OpV P (.binOp .eql t x y t') ty σ w (.bool (!d)) w := .inl (by
 have h : ∀ a : Option Addr, binOp .eql t (.pointer a) (.pointer none) = (do pure (.bool (← Op.equal t (.pointer a) (.pointer none)))) := fun _ => rfl
 have hq : ∀ a : Option Addr, (Op.equal t (.pointer a) (.pointer none)).run P w = .ok a.isNone w := fun a => run_equal_pointer_nil w t a ht
 cases d
 ·have hx' : ev σ x = .pointer none := hx
  simp only [execOp, opr, hx', hy, eqGuard_at_pointer, h, Sem.run_bind, Sem.run_pure, Result.andThen_ok, hq]
  rfl
 ·have hx' : ev σ x = .pointer (some ⟨b, 0, none⟩) := hx
  simp only [execOp, opr, hx', hy, eqGuard_at_pointer, h, Sem.run_bind, Sem.run_pure, Result.andThen_ok, hq]
  rfl)
theorem Jg1 {d : Bool} {b k : Nat} (ht : P.underlying t = some (.pointer u)) (hz : (P.info? u).map (·.size) = some k) (hd : d = true) (hx : ev σ x = selfP b d) (hy : ev σ y = .pointer (some ⟨b, 0, none⟩)) (w : World) : OpV P (.binOp .neq t x y t') ty σ w (.bool false) w := .inl (by
 subst hd
 obtain ⟨j, hu, _⟩ := Option.map_eq_some_iff.1 hz
 have hx' : ev σ x = .pointer (some ⟨b, 0, none⟩) := hx
 have := Lib.run_neq_ptr_same (P := P) w ⟨b, 0, none⟩ ht hu
 simp only [execOp, opr, hx', hy, eqGuard_at_pointer, Sem.run_bind, Sem.run_pure, Result.andThen_ok, this])
theorem Jev {b m : Nat} {cs : Array Value} {T : TypeId} (k : Nat) (hO : Owns n0 w E A) (hk : E[k]? = some (.blk b (.cells cs T (0, 0)))) (hc : 0 < cs.size) (ht : P.underlying t = some (.pointer u)) (ht2 : P.underlying t2 = some .unsafePointer) (hz : (P.info? u).map (·.size) = some m) (hm : m ≠ 0)
  (hx : ev σ x = .pointer (some ⟨b, 0, none⟩)) : OpV P (.convert t t2 x) ty σ w (.pointer (some ⟨b, 0, none⟩)) w := .inl (by
 obtain ⟨_, hb⟩ := hO.at_ _ (List.mem_of_getElem? hk)
 obtain ⟨j, hu, hj⟩ := Option.map_eq_some_iff.1 hz
 have := Lib.run_to_unsafe (P := P) w ⟨b, 0, none⟩ ht ht2 hu (by rw [hj]; exact hm) (e := T) (cells := cs.size) (by simp [World.shape?, hb]) hc
 simp [execOp, opr, hx, this])
theorem Jdz {b m : Nat} {cs : Array Value} {T : TypeId} (k : Nat) (hO : Owns n0 w E A) (hk : E[k]? = some (.blk b (.cells cs T (0, 0)))) (ht : P.underlying t = some (.pointer u)) (ht2 : P.underlying t2 = some .unsafePointer) (hz : (P.info? u).map (·.size) = some m)
  (hl : liesAt P P.depth T (cs.size / P.cellsOf T) 0 u 1 = true)
  (hx : ev σ x = .pointer (some ⟨b, 0, none⟩)) : OpV P (.convert t2 t x) ty σ w (.pointer (some ⟨b, 0, none⟩)) w := .inl (by
 obtain ⟨_, hb⟩ := hO.at_ _ (List.mem_of_getElem? hk)
 obtain ⟨j, hu, _⟩ := Option.map_eq_some_iff.1 hz
 have := Lib.run_from_unsafe (P := P) w ⟨b, 0, none⟩ ht2 ht hu (e := T) (cells := cs.size) (by simp [World.shape?, hb]) hl
 simp [execOp, opr, hx, this])
theorem JeI {f : FuncId} {fn : Func} {v : Value} {ts : Array TypeId} (hf : P.funcs[f]? = some fn) (hn : (fn.name == "runtime.NumGoroutine") = false) (hb : fn.body.isNone = true) (hn2 : Extern.findNext fn = none) (he : Extern.find fn = some Extern.AbiNoEscape.same)
  (hx : ev σ x = v) (w : World) : OpV P (.call { callee := .value (.func f), args := #[x], argTypes := ts }) ty σ w v w := .inl (by
 have := run_callFunc_extern hf hn hb hn2 he #[v] w
 rw [Lib.run_noEscape] at this
 simp [execOp, opr, hx, resolve, show ev σ (.func f) = .func (.func f) #[] #[] from rfl, Deferred.ofValue, invoke, this])
theorem JgQ {p : Option Addr} {n c sz bb : Nat} {zz : Option Value} (ht : P.underlying t = some (.slice e)) (he : ti P e = some (zz, sz, bb)) (hs : P.underlying t2 = some .string) (hx : ev σ x = .slice p n c) (hnc : n ≤ c) (hy : ev σ y = .string (gstr [])) (w : World) :
  OpV P (.call { callee := .builtin .append, args := #[x, y], argTypes := #[t, t2] }) ty σ w (.slice p n c) w := .inl (by
 have h := fun w => run_sizeOf he w
 have h0 : (gstr []).size = 0 := rfl
 have hf : ∀ (w : World), (Builtin.firstCells sz 0 (.string (gstr []))).run P w = .ok #[] w := fun w => by
  simp [Builtin.firstCells]
 cases p with
 | none => simp [execOp, opr, hx, hy, resolve, invoke, builtin, Builtin.append_, run_underlying ht, run_underlying hs, h, Builtin.lenOf, h0, hnc, hf]
 | some a => simp [execOp, opr, hx, hy, resolve, invoke, builtin, Builtin.append_, run_underlying ht, run_underlying hs, h, Builtin.lenOf, h0, hnc, hf, storeCells])
theorem JiQ {g n c : Nat} (hc : c ≠ 0) (hx : ev σ x = .slice (some ⟨g, 0, none⟩) n c) (w : World) : OpV P (.call { callee := .builtin .unsafeSliceData, args := #[x], argTypes := #[t] }) ty σ w (.pointer (some ⟨g, 0, none⟩)) w := .inl (by
 have := Lib.run_unsafeSliceData_row (P := P) w #[t] ty ⟨g, 0, none⟩ n c hc
 simp [execOp, opr, hx, resolve, invoke, builtin, this])
theorem Jde (g n : Nat) (w : World) (k : Nat) (h : k ≠ g) : (w.freeze ⟨g, 0, none⟩ n).heap[k]? = w.heap[k]? := by
 unfold World.freeze
 split
 ·rfl
 ·simp only [Array.getElem?_modify]
  rw [if_neg (by omega)]
theorem JaD (g n : Nat) (w : World) : (w.freeze ⟨g, 0, none⟩ n).heap.size = w.heap.size := by
 unfold World.freeze
 split <;> simp
theorem JeD (g n : Nat) (w : World) : (w.freeze ⟨g, 0, none⟩ n).os = w.os ∧ (w.freeze ⟨g, 0, none⟩ n).tape = w.tape ∧ (w.freeze ⟨g, 0, none⟩ n).output = w.output := by
 unfold World.freeze
 split <;> exact ⟨rfl, rfl, rfl⟩
theorem Jh8 {p : Option Addr} {n c : Nat} {vs : List Value} {xs : List Int} (j : Nat) (hO : Owns n0 w E A) (hj : E[j]? = some (.row e 1 p n c vs)) (hE : Els (Rp.int .u8) (bl E ++ A) w vs xs) (hne : xs ≠ []) : ∃ g, p = some ⟨g, 0, none⟩ ∧ c ≠ 0 ∧ n = xs.length := by
 have hh := hO.at_ _ (List.mem_of_getElem? hj)
 have hn : n = xs.length := hE.n_eq (r := Rp.int .u8) hh
 have hl : xs.length ≠ 0 := by simpa using hne
 rcases hh.2 with ⟨hv, h2⟩ | ⟨g, cap, cur, hv, hb, hg, h1, h2, h3, h4⟩
 ·omega
 ·cases hv; exact ⟨g, rfl, by omega, hn⟩
theorem ocUS {g n c : Nat} {vs : List Value} {xs : List Int} (j : Nat) (hO : Owns n0 w E A) (hj : E[j]? = some (.row e 1 (some ⟨g, 0, none⟩) n c vs)) (hE : Els (Rp.int .u8) (bl E ++ A) w vs xs) (hne : xs ≠ []) (hby : isBytes xs)
  (ht : P.underlying t = some (.pointer e)) (hc : P.cellsOf e = 1) :
  ∃ w', Stp n0 A w E w' (E.eraseIdx j) ∧ ∀ {σ : Nat → Value} {x y : Operand} {ty : TypeId}, ev σ x = .pointer (some ⟨g, 0, none⟩) → ev σ y = .int .i64 (xs.length : Int) → OpV P (.call { callee := .builtin .unsafeString, args := #[x, y], argTypes := #[t, t2] }) ty σ w (.string (gstr (bytesOf xs))) w' := by
 have hh := hO.at_ _ (List.mem_of_getElem? hj)
 have hn : n = xs.length := hE.n_eq (r := Rp.int .u8) hh
 have hl : xs.length ≠ 0 := by simpa using hne
 have hbl : (bytesOf xs).length = xs.length := by simp [bytesOf]
 have hvl : vs.length = xs.length := by have := hE.len; simpa [Rp.int] using this
 rcases hh.2 with ⟨hv, h2⟩ | ⟨g', cap, cur, hv, hb, hg, h1, h2, h3, h4⟩
 ·cases hv
 ·cases hv
  have hcells : ∀ k x, (bytesOf xs)[k]? = some x → w.cell? ((⟨g, 0, none⟩ : Addr).add k) = some (.int .u8 x.toNat) := by
   intro k x hx
   have hk : k < xs.length := by
    have := (List.getElem?_eq_some_iff.1 hx).1
    omega
   have h5 := hE.at_ k hk
   simp only [Rp.int, Nat.mul_one, Nat.add_zero] at h5
   have h6 : xs[k] = (x.toNat : Int) := by
    have h7 := congrArg (fun l => l[k]?) hby
    simp only [List.getElem?_map, hx, Option.map_some] at h7
    rw [List.getElem?_eq_getElem hk] at h7
    exact (Option.some.inj h7).symm
   rw [h6] at h5
   have h8 : cur[k]? = some (.int .u8 x.toNat) := by
    rw [← Array.getElem?_toList]
    rw [← h4, List.getElem?_take, if_pos (by omega)] at h5
    exact h5
   simp [Addr.add_lit, World.cell?, hg, h8]
  have hrun := Lib.run_unsafeString_row (P := P) w t t2 0 e ht hc g cur.size (by simp [World.shape?, hg]) (bytesOf xs) (by intro h; rw [h] at hbl; simp at hbl; omega) (by omega) (by have := hE.bd; unfold mx at this; omega) hcells
  have hdrop := hO.drop j
  refine ⟨w.freeze ⟨g, 0, none⟩ (bytesOf xs).length, ⟨?_, ?_⟩, fun hx hy => .inl ?_⟩
  ·have hgn : ∀ b ∈ bl (E.eraseIdx j), b ≠ g := fun b hb' he => by
    subst he
    exact hO.apart j hj b (by simp [Ent.fp]) (List.mem_append_left _ hb')
   exact ⟨by rw [JaD]; exact hdrop.le, fun b hb' => by rw [JaD]; exact hdrop.bd b hb', hdrop.nd, hdrop.out, fun q hq => Ent.keep (hdrop.at_ q hq) fun b hb' => Jde g _ w b (hgn b (List.mem_flatMap.2 ⟨q, hq, hb'⟩))⟩
  ·have hsm := JeD g (bytesOf xs).length w
   refine ⟨hsm.1, hsm.2.1, hsm.2.2, ⟨by rw [JaD]; exact Nat.le_refl _, fun b hb' hnb => ⟨Jde g _ w b fun he => hnb ?_, fun hx => hnb ((Jf6 (List.eraseIdx_sublist E j)).subset hx)⟩⟩⟩
   subst he
   exact List.mem_flatMap.2 ⟨_, List.mem_of_getElem? hj, by simp [Ent.fp]⟩
  ·rename_i σ' x' y' ty'
   have hrun' := hrun
   rw [hbl] at hrun'
   have e0 : (Builtin.unsafeString_ #[t, t2] ty' #[.pointer (some ⟨g, 0, none⟩), .int .i64 (xs.length : Int)]) = (Builtin.unsafeString_ #[t, t2] 0 #[.pointer (some ⟨g, 0, none⟩), .int .i64 (xs.length : Int)]) := rfl
   simp [execOp, opr, hx, hy, resolve, invoke, builtin, e0, hrun', gstr, hbl]
theorem JiW {e' : TypeId} {sz : Nat} {p : Option Addr} {n c : Nat} {vs : List Value} (j : Nat) (hO : Owns n0 w E A) (hj : E[j]? = some (.row e' sz p n c vs)) : n ≤ c := by
 have hh := hO.at_ _ (List.mem_of_getElem? hj)
 rcases hh.2 with ⟨hv, h2⟩ | ⟨g, cap, cur, hv, hb, hg, h1, h2, h3, h4⟩
 ·omega
 ·cases hv; exact h1
theorem Jhz {xs : List Int} (h : xs.length ≤ mx) : (bytesOf xs).length ≤ mx := by simpa [bytesOf] using h
theorem JfL {n B : Nat} {k : IntKind} {i : Int} {zz : Option Value} {bb : Nat} (ht : P.underlying t = some (.array n e)) (he : ti P e = some (zz, 1, bb)) (hx : ev σ x = .pointer (some ⟨B, 0, none⟩)) (hy : ev σ y = .int k i)
  (h0 : 0 ≤ i) (h1 : i < n) (w : World) : OpV P (.indexAddr t x y) ty σ w (.pointer (padd (some ⟨B, 0, none⟩) (i.toNat * 1))) w := .inl (by
 have hs := fun w => run_sizeOf he w
 simp [execOp, opr, hx, hy, Instr.indexAt, Instr.sureAddr, run_underlying ht, asIntOf, h0, h1, hs, Addr.add_lit, padd])
end
end Sg
