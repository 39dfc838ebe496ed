/- -/
import Derived.Test.YtlneebpmblkllaaAgg
import Derived.Test.YtlneebpmblkllaaTree
import Derived.Test.YtlneebpmblkllaaPStr
import Derived.Laws.Runes
import Derived.Laws.DeepStrings4
import Derived.Laws.StructEq
import Derived.Laws.BytesArg
namespace Sg
open Go Go.RowKit
set_option linter.unusedVariables false
set_option linter.unusedSimpArgs false
theorem J9m : ∀ a b : Str, Op.bytesLess a b = slt a b
  | _, [] => by simp [Op.bytesLess, slt]
  | [], _ :: _ => by simp [Op.bytesLess, slt]
  | a :: x, b :: y => by
    rw [Op.bytesLess, slt, J9m x y, Bool.beq_eq_decide_eq]
section
variable {P : Program} {σ : Nat → Value} {t t' ty e : TypeId} {x y z : Operand}
theorem J8q {a b : Str} (hx : ev σ x = .string (gstr a)) (hy : ev σ y = .string (gstr b)) (w : World) : OpV P (.binOp .lss t x y t') ty σ w (.bool (slt a b)) w := .inl (by
 simp [execOp, opr, hx, hy, eqGuard_lss, binOp_string_lss, J9m])
theorem J4m {k : IntKind} {n : Int} {d : TypeDesc} (hs : P.underlying t = some d) (hd : P.underlying t' = some .string) (hx : ev σ x = .int k n) (h0 : 0 ≤ n) (h1 : n < 128) (w : World) :
  OpV P (.convert t t' x) ty σ w (.string (gstr (chr n))) w := .inl (by
 have hv : Utf8.valid n = true := by
  unfold Utf8.valid
  simp only [Bool.and_eq_true, Bool.or_eq_true, decide_eq_true_eq, Bool.not_eq_true', decide_eq_false_iff_not]
  omega
 have he : Utf8.encode n = gstr (chr n) := by
  have : n.toNat < 128 := by omega
  simp [Utf8.encode, hv, this, gstr, chr]
 simp [execOp, opr, hx, run_convert_int_string w t t' k n (by rw [hs]; rfl) hd, he])
theorem J8Q {l : Str} {i : Int} {kk : IntKind} (ht : P.underlying t = some .string) (hx : ev σ x = .string (gstr l)) (hy : ev σ y = .int kk i) (h0 : 0 ≤ i) (h1 : i ≤ l.length) (w : World) :
  OpV P (.slice t x (some y) none none) ty σ w (.string (gstr (l.drop i.toNat))) w := .inl (by
 have := run_slice_string_l (P := P) w t (gstr l) ht kk i h0 (by simpa using h1)
 rw [J74, List.take_of_length_le (by simp)] at this
 simp [execOp, opr, hx, hy, Instr.sliceAt, run_underlying ht, this])
section
variable {w : World} {A : List Nat} {E : List Ent} {n0 : Nat}
theorem ldBytes {p : Option Addr} {c : Nat} {xs : List Int} (hs : ISl (Rp.int .u8) A w p c xs) (ht : P.underlying t = some (.slice e)) (he : P.underlying e = some (.int .u8)) (hd : P.underlying t' = some .string)
    (hx : ev σ x = .slice p xs.length c) (w' : World) (hw : Same w w') : OpV P (.convert t t' x) ty σ w' (.string (gstr (byt xs))) w' := .inl (by
  cases p with
  | none =>
    have h1 := hs.cap
    have h2 := hs.nil rfl
    have h3 : xs = [] := List.eq_nil_of_length_eq_zero (by omega)
    subst h3
    have := run_convert_bytes_nil (P := P) w' t e ht he ([] : List Int).length c t' hd
    simp only [execOp, opr, hx, Sem.run_bind, this, Result.andThen_ok, Sem.run_pure]
    rfl
  | some a =>
    by_cases h3 : xs = []
    · subst h3
      have := run_bytesToString (P := P) w' a 0 c [] (by simp [loadCells, loadCellsFrom, Sem.run_pure])
      have h4 := run_convert_bytes_string w' t t' e (some a) 0 c ht he hd
      rw [this] at h4
      simp only [List.length_nil] at hx
      simp only [execOp, opr, hx, Sem.run_bind, h4, Result.andThen_ok, Sem.run_pure]
      rfl
    · have hl : 0 < xs.length := List.length_pos_iff.2 h3
      obtain ⟨hsp, hb, _, _⟩ := hs.at_ a rfl 0 hl
      obtain ⟨b, off, sp⟩ := a
      simp only at hsp hb
      subst hsp
      have := run_convert_bytes_arg (P := P) w' t e ht he b off xs.length c xs rfl (fun i hi => by
        obtain ⟨_, _, _, hR⟩ := hs.at_ _ rfl i hi
        have h6 : cel w ⟨b, off, none⟩ (i * 1 + 0) = some (.int .u8 xs[i]) := hR
        simp only [cel, Nat.mul_one, Nat.add_zero] at h6
        rw [World.cell?_of_block (w := w) (hw.block b hb), h6]
        simp [List.getD_eq_getElem?_getD, hi]) t' hd
      simp only [execOp, opr, hx, Sem.run_bind, this, Result.andThen_ok, Sem.run_pure]
      rfl)
theorem oldBytes {p : Option Addr} {n c : Nat} {vs : List Value} {xs : List Int} (j : Nat) (hO : Owns n0 w E A) {e1 : TypeId} (hj : E[j]? = some (.row e1 1 p n c vs)) (hE : Els (Rp.int .u8) (bl E ++ A) w vs xs)
  (ht : P.underlying t = some (.slice e)) (he : P.underlying e = some (.int .u8)) (hd : P.underlying t' = some .string) (hx : ev σ x = .slice p n c) (w' : World) (hw : Same w w') : OpV P (.convert t t' x) ty σ w' (.string (gstr (byt xs))) w' := by
 obtain ⟨h1, h2⟩ := rowlend (r := Rp.int .u8) j hO hj hE
 rw [h2] at hx
 exact ldBytes h1 ht he hd hx w' hw
end
end
section
variable {P : Program} {w : World} {A : List Nat} {E : List Ent} {n0 : Nat} {t e : TypeId}
theorem obuildN {α : Type} {r : Rp α} {z : Value} {by_ : Nat} (ht : P.underlying t = some (.slice e)) (he : ti P e = some (some z, r.sz, by_)) {n : Nat} {parts : List (Nat × Value)} {vs : List Value} {xs : List α}
  (hO : Owns n0 w E A) (hn : n ≤ 1000) (hn2 : n * r.sz ≤ 1000) (hf : Instr.fill (fun i => some (i * r.sz, r.sz)) ((Array.range (n * r.sz)).map (z.cells[· % z.cells.size]!)) parts = some vs.toArray) (hE : Els r (bl E ++ A) w vs xs) (hl : vs.length = n * r.sz) :
  ∃ w' p, Stp n0 A w E w' (.row e r.sz p n n vs :: E) ∧ Els r (bl (.row e r.sz p n n vs :: E) ++ A) w' vs xs ∧ Same w w' ∧ ∀ {σ : Nat → Value} {ps : List (Nat × Operand)} {ty : TypeId}, (ps.map fun p => (p.1, ev σ p.2)) = parts → OpV P (.buildSlice t n ps.toArray) ty σ w (.slice p n n) w' := by
 obtain ⟨i, hi, hz1, hz2, hz3⟩ := J2z he
 have hs : Same w (w.alloc (.cells vs.toArray e (0, 0))) := ⟨rfl, rfl, rfl, by simp, fun k hk => Below.heap_alloc _ _ _ hk⟩
 have hst : Stp n0 A w E (w.alloc (.cells vs.toArray e (0, 0))) (.row e r.sz (some ⟨w.heap.size, 0, none⟩) n n vs :: E) := by
  refine Stp.new hO hs (by simp [Ent.fp]) (fun b hb => by simp [Ent.fp] at hb; omega) ?_
  have := World.ownsRow_lit (base := n0) (e := e) (size := r.sz) w vs.toArray n hO.le (by simp only [maxLen]; omega) (by simp [hl])
  simp only at this
  exact this
 refine ⟨_, _, hst, hE.ch hst.ch, hs, fun hp => .inl ?_⟩
 have h24 : ¬ (16777216 < n) := by omega
 have h25 : ¬ (16777216 < n * r.sz) := by omega
 by_cases hn0 : n = 0
 ·subst hn0
  have hv : vs = [] := List.eq_nil_of_length_eq_zero (by simpa using hl)
  subst hv
  simp only [Nat.zero_mul] at hf
  simp [execOp, opr, hp, Instr.buildSlice, run_underlying ht, Go.sizeOf, typeInfo, hi, hz2, newRow]
  have hf' : Instr.fill (fun i => some (i * r.sz, r.sz)) (Array.map (fun _ => default) (Array.range 0)) parts = some #[] := by rw [Array.range_zero', Array.map_empty] at hf ⊢; exact hf
  simp only [hf']
  simp only [Sem.run_map, run_newObj, Result.andThen_ok]
  rfl
 ·simp [execOp, opr, hp, Instr.buildSlice, run_underlying ht, Go.sizeOf, typeInfo, zeroValue, hi, hz2, hz1, h24, h25, hn0, newRow]
  simp only [hf]
  simp only [Sem.run_map, run_newObj, Result.andThen_ok]
  rw [if_neg (by have := Nat.mul_pos (Nat.pos_of_ne_zero hn0) r.pos; omega)]
  rfl
theorem Els.flat1 {α : Type} {sz : Nat} {enc : α → List Value} {ok : α → Prop} {ps : 0 < sz} {ln : ∀ x, (enc x).length = sz} {on : ∀ x, ∀ v ∈ enc x, v.oneCell' = true} (x : α) (h : ok x) : Els (Rp.flat sz enc ok ps ln on) A w (enc x) [x] := by
 refine ⟨by rw [ln]; simp [Rp.flat], by simp [mx], fun k hk => ?_⟩
 obtain rfl : k = 0 := by simp at hk; omega
 refine ⟨h, fun i hi => ?_⟩
 simp
theorem oElimN {α : Type} {a : Prop} {f : α → Prop} (h : Option.elim (none : Option α) a f) : a := h
theorem oElimS {α : Type} {a : Prop} {f : α → Prop} {d : α} (h : Option.elim (some d) a f) : f d := h
end
section
variable {P : Program} {σ : Nat → Value} {w : World} {t ty : TypeId} {x : Operand} {A : List Nat}
variable {α : Type} [Inhabited α] {sz : Nat} {enc : α → List Value} {ok : α → Prop} {ps : 0 < sz} {ln : ∀ x, (enc x).length = sz} {on : ∀ x, ∀ v ∈ enc x, v.oneCell' = true}
theorem ISl.spot {p : Option Addr} {c : Nat} {xs : List α} (hs : ISl (Rp.flat sz enc ok ps ln on) A w p c xs) {i : Int} (h0 : 0 ≤ i) (h1 : i < xs.length) : ∃ a, padd p (i.toNat * sz) = some a ∧ a.spot = none := by
 obtain ⟨a, ha, hsp, _, _, _⟩ := hs.elem h0 h1
 exact ⟨a, ha, hsp⟩
omit [Inhabited α] in
theorem J3d {fs : Array Field} {fl : Field} {p : Option Addr} {i s : Nat} {zz : Option Value} {bb : Nat} (ht : P.underlying t = some (.struct fs)) (hf : fs[i]? = some fl) (he : ti P fl.type = some (zz, s, bb)) (hx : ev σ x = .pointer p) (hp : ∃ a, p = some a ∧ a.spot = none) (hs : s ≠ 0) (w : World) :
  OpV P (.fieldAddr t x i) ty σ w (.pointer (padd p fl.offset)) w := by
 obtain ⟨⟨b, o, sp⟩, rfl, hsp⟩ := hp
 simp only at hsp
 subst hsp
 have := J57 (ty := ty) ht hf he hx hs w
 simpa [padd, Addr.add_lit] using this
end
end Sg
