/- -/
import Derived.Test.YtbmaaecppfdjfaaGreatDoorAgg
import Derived.Test.YtbmaaecppfdjfaaGreatDoorCB
import Derived.Test.YtbmaaecppfdjfaaGreatDoorPA
import Derived.Laws.Runes
import Derived.Laws.DeepStrings4
import Derived.Laws.StructEq
import Derived.Laws.BytesArg
namespace Sg
open Go Go.RowKit
set_option linter.unusedVariables false
set_option linter.unusedSimpArgs false
theorem JhI : ∀ a b : Str, Op.bytesLess a b = slt a b
  | _, [] => by simp [Op.bytesLess, slt]
  | [], _ :: _ => by simp [Op.bytesLess, slt]
  | a :: x, b :: y => by
    rw [Op.bytesLess, slt, JhI x y, Bool.beq_eq_decide_eq]
section
variable {P : Program} {σ : Nat → Value} {t t' ty e : TypeId} {x y z : Operand}
theorem Jgi {a b : Str} (hx : ev σ x = .string (gstr a)) (hy : ev σ y = .string (gstr b)) (w : World) : OpV P (.binOp .lss t x y t') ty σ w (.bool (slt a b)) w := .inl (by
 simp [execOp, opr, hx, hy, eqGuard_lss, binOp_string_lss, JhI])
theorem Jb0 {k : IntKind} {n : Int} {d : TypeDesc} (hs : P.underlying t = some d) (hd : P.underlying t' = some .string) (hx : ev σ x = .int k n) (h0 : 0 ≤ n) (h1 : n < 128) (w : World) :
  OpV P (.convert t t' x) ty σ w (.string (gstr (chr n))) w := .inl (by
 have hv : Utf8.valid n = true := by
  unfold Utf8.valid
  simp only [Bool.and_eq_true, Bool.or_eq_true, decide_eq_true_eq, Bool.not_eq_true', decide_eq_false_iff_not]
  omega
 have he : Utf8.encode n = gstr (chr n) := by
  have : n.toNat < 128 := by omega
  simp [Utf8.encode, hv, this, gstr, chr]
 simp [execOp, opr, hx, run_convert_int_string w t t' k n (by rw [hs]; rfl) hd, he])
section
variable {w : World} {A : List Nat} {E : List Ent} {n0 : Nat}
theorem ldBytes {p : Option Addr} {c : Nat} {xs : List Int} (hs : ISl (Rp.int .u8) A w p c xs) (ht : P.underlying t = some (.slice e)) (he : P.underlying e = some (.int .u8)) (hd : P.underlying t' = some .string)
    (hx : ev σ x = .slice p xs.length c) (w' : World) (hw : Same w w') : OpV P (.convert t t' x) ty σ w' (.string (gstr (byt xs))) w' := .inl (by
  cases p with
  | none =>
    have h1 := hs.cap
    have h2 := hs.nil rfl
    have h3 : xs = [] := List.eq_nil_of_length_eq_zero (by omega)
    subst h3
    have := run_convert_bytes_nil (P := P) w' t e ht he ([] : List Int).length c t' hd
    simp only [execOp, opr, hx, Sem.run_bind, this, Result.andThen_ok, Sem.run_pure]
    rfl
  | some a =>
    by_cases h3 : xs = []
    · subst h3
      have := run_bytesToString (P := P) w' a 0 c [] (by simp [loadCells, loadCellsFrom, Sem.run_pure])
      have h4 := run_convert_bytes_string w' t t' e (some a) 0 c ht he hd
      rw [this] at h4
      simp only [List.length_nil] at hx
      simp only [execOp, opr, hx, Sem.run_bind, h4, Result.andThen_ok, Sem.run_pure]
      rfl
    · have hl : 0 < xs.length := List.length_pos_iff.2 h3
      obtain ⟨hsp, hb, _, _⟩ := hs.at_ a rfl 0 hl
      obtain ⟨b, off, sp⟩ := a
      simp only at hsp hb
      subst hsp
      have := run_convert_bytes_arg (P := P) w' t e ht he b off xs.length c xs rfl (fun i hi => by
        obtain ⟨_, _, _, hR⟩ := hs.at_ _ rfl i hi
        have h6 : cel w ⟨b, off, none⟩ (i * 1 + 0) = some (.int .u8 xs[i]) := hR
        simp only [cel, Nat.mul_one, Nat.add_zero] at h6
        rw [World.cell?_of_block (w := w) (hw.block b hb), h6]
        simp [List.getD_eq_getElem?_getD, hi]) t' hd
      simp only [execOp, opr, hx, Sem.run_bind, this, Result.andThen_ok, Sem.run_pure]
      rfl)
theorem oldBytes {p : Option Addr} {n c : Nat} {vs : List Value} {xs : List Int} (j : Nat) (hO : Owns n0 w E A) {e1 : TypeId} (hj : E[j]? = some (.row e1 1 p n c vs)) (hE : Els (Rp.int .u8) (bl E ++ A) w vs xs)
  (ht : P.underlying t = some (.slice e)) (he : P.underlying e = some (.int .u8)) (hd : P.underlying t' = some .string) (hx : ev σ x = .slice p n c) (w' : World) (hw : Same w w') : OpV P (.convert t t' x) ty σ w' (.string (gstr (byt xs))) w' := by
 obtain ⟨h1, h2⟩ := rowlend (r := Rp.int .u8) j hO hj hE
 rw [h2] at hx
 exact ldBytes h1 ht he hd hx w' hw
end
theorem eqFields2 {f1 f2 : Field} {w : World} {a b c d : Str} {n : Nat} (n1 : f1.name ≠ "_") (n2 : f2.name ≠ "_") (o1 : f1.offset = 0) (o2 : f2.offset = 1) (t1 : P.underlying f1.type = some .string) (t2 : P.underlying f2.type = some .string) :
  (Op.eqFields (n + 1) #[.string (gstr a), .string (gstr b)] #[.string (gstr c), .string (gstr d)] [f1, f2]).run P w = .ok (decide (a = c ∧ b = d)) w := by
 have hp : ∀ (f : Field) (cs : Array Value) (k : Nat) (v : Value), P.underlying f.type = some .string → cs[k]? = some v → (part f.type cs k).run P w = .ok v w := fun f cs k v hf hv => by
  simp [part, Jbb hf rfl, hv, Result.andThen]
 have q1 := run_equalIn_string (P := P) w n f1.type (gstr a) (gstr c) t1
 have q2 := run_equalIn_string (P := P) w n f2.type (gstr b) (gstr d) t2
 simp only [JeF, JdI] at q1 q2
 have k1 := hp f1 #[.string (gstr a), .string (gstr b)] 0 (.string (gstr a)) t1 rfl
 have k2 := hp f1 #[.string (gstr c), .string (gstr d)] 0 (.string (gstr c)) t1 rfl
 have k3 := hp f2 #[.string (gstr a), .string (gstr b)] 1 (.string (gstr b)) t2 rfl
 have k4 := hp f2 #[.string (gstr c), .string (gstr d)] 1 (.string (gstr d)) t2 rfl
 unfold Op.eqFields
 rw [if_pos n1, o1, Sem.run_bind, k1, Result.andThen_ok, Sem.run_bind, k2, Result.andThen_ok, Sem.run_bind, q1, Result.andThen_ok]
 by_cases h1 : a = c
 ·rw [if_neg (by simp [h1])]
  unfold Op.eqFields
  rw [if_pos n2, o2, Sem.run_bind, k3, Result.andThen_ok, Sem.run_bind, k4, Result.andThen_ok, Sem.run_bind, q2, Result.andThen_ok]
  by_cases h2 : b = d
  ·rw [if_neg (by simp [h2])]
   simp [Op.eqFields, h1, h2, Sem.run_pure]
  ·rw [if_pos (by simp [h2])]
   simp [h1, h2, Sem.run_pure]
 ·rw [if_pos (by simp [h1])]
  simp [h1, Sem.run_pure]
theorem Jf8 {f1 f2 : Field} {a b c d : Str} (ht : P.underlying t = some (.struct #[f1, f2])) (hp : P.stoodInHeld t = false) (hg : P.eqGuardType P.depth t = false) (n1 : f1.name ≠ "_") (n2 : f2.name ≠ "_") (o1 : f1.offset = 0) (o2 : f2.offset = 1) (t1 : P.underlying f1.type = some .string) (t2 : P.underlying f2.type = some .string)
  (hx : ev σ x = .agg #[.string (gstr a), .string (gstr b)]) (hy : ev σ y = .agg #[.string (gstr c), .string (gstr d)]) (w : World) : OpV P (.binOp .neq t x y t') ty σ w (.bool (!decide (a = c ∧ b = d))) w := .inl (by
 have hf : P.fieldsOf t = #[f1, f2] := by simp [Program.fieldsOf, ht]
 have q := run_equalIn_struct (P := P) w 9999 t #[.string (gstr a), .string (gstr b)] #[.string (gstr c), .string (gstr d)] (by rw [hf]; exact ht) hp
 rw [hf, eqFields2 n1 n2 o1 o2 t1 t2] at q
 simp only [execOp, opr, hx, hy, Sem.run_bind, run_eqGuard_agg w _ t x y _ _ hg, Result.andThen_ok, run_neq_struct, q, Sem.run_pure])
end
section
variable {P : Program} {w : World} {A : List Nat} {E : List Ent} {n0 : Nat} {t e : TypeId}
theorem obuildN {α : Type} {r : Rp α} {z : Value} {by_ : Nat} (ht : P.underlying t = some (.slice e)) (he : ti P e = some (some z, r.sz, by_)) {n : Nat} {parts : List (Nat × Value)} {vs : List Value} {xs : List α}
  (hO : Owns n0 w E A) (hn : n ≤ 1000) (hn2 : n * r.sz ≤ 1000) (hf : Instr.fill (fun i => some (i * r.sz, r.sz)) ((Array.range (n * r.sz)).map (z.cells[· % z.cells.size]!)) parts = some vs.toArray) (hE : Els r (bl E ++ A) w vs xs) (hl : vs.length = n * r.sz) :
  ∃ w' p, Stp n0 A w E w' (.row e r.sz p n n vs :: E) ∧ Els r (bl (.row e r.sz p n n vs :: E) ++ A) w' vs xs ∧ Same w w' ∧ ∀ {σ : Nat → Value} {ps : List (Nat × Operand)} {ty : TypeId}, (ps.map fun p => (p.1, ev σ p.2)) = parts → OpV P (.buildSlice t n ps.toArray) ty σ w (.slice p n n) w' := by
 obtain ⟨i, hi, hz1, hz2, hz3⟩ := J5P he
 have hs : Same w (w.alloc (.cells vs.toArray e (0, 0))) := ⟨rfl, rfl, rfl, by simp, fun k hk => Below.heap_alloc _ _ _ hk⟩
 have hst : Stp n0 A w E (w.alloc (.cells vs.toArray e (0, 0))) (.row e r.sz (some ⟨w.heap.size, 0, none⟩) n n vs :: E) := by
  refine Stp.new hO hs (by simp [Ent.fp]) (fun b hb => by simp [Ent.fp] at hb; omega) ?_
  have := World.ownsRow_lit (base := n0) (e := e) (size := r.sz) w vs.toArray n hO.le (by simp only [maxLen]; omega) (by simp [hl])
  simp only at this
  exact this
 refine ⟨_, _, hst, hE.ch hst.ch, hs, fun hp => .inl ?_⟩
 have h24 : ¬ (16777216 < n) := by omega
 have h25 : ¬ (16777216 < n * r.sz) := by omega
 by_cases hn0 : n = 0
 ·subst hn0
  have hv : vs = [] := List.eq_nil_of_length_eq_zero (by simpa using hl)
  subst hv
  simp only [Nat.zero_mul] at hf
  simp [execOp, opr, hp, Instr.buildSlice, run_underlying ht, Go.sizeOf, typeInfo, hi, hz2, newRow]
  have hf' : Instr.fill (fun i => some (i * r.sz, r.sz)) (Array.map (fun _ => default) (Array.range 0)) parts = some #[] := by rw [Array.range_zero', Array.map_empty] at hf ⊢; exact hf
  simp only [hf']
  simp only [Sem.run_map, run_newObj, Result.andThen_ok]
  rfl
 ·simp [execOp, opr, hp, Instr.buildSlice, run_underlying ht, Go.sizeOf, typeInfo, zeroValue, hi, hz2, hz1, h24, h25, hn0, newRow]
  simp only [hf]
  simp only [Sem.run_map, run_newObj, Result.andThen_ok]
  rw [if_neg (by have := Nat.mul_pos (Nat.pos_of_ne_zero hn0) r.pos; omega)]
  rfl
theorem Els.flat1 {α : Type} {sz : Nat} {enc : α → List Value} {ok : α → Prop} {ps : 0 < sz} {ln : ∀ x, (enc x).length = sz} {on : ∀ x, ∀ v ∈ enc x, v.oneCell' = true} (x : α) (h : ok x) : Els (Rp.flat sz enc ok ps ln on) A w (enc x) [x] := by
 refine ⟨by rw [ln]; simp [Rp.flat], by simp [mx], fun k hk => ?_⟩
 obtain rfl : k = 0 := by simp at hk; omega
 refine ⟨h, fun i hi => ?_⟩
 simp
theorem oElimN {α : Type} {a : Prop} {f : α → Prop} (h : Option.elim (none : Option α) a f) : a := h
theorem oElimS {α : Type} {a : Prop} {f : α → Prop} {d : α} (h : Option.elim (some d) a f) : f d := h
end
section
variable {P : Program} {σ : Nat → Value} {w : World} {t ty : TypeId} {x : Operand} {A : List Nat}
variable {α : Type} [Inhabited α] {sz : Nat} {enc : α → List Value} {ok : α → Prop} {ps : 0 < sz} {ln : ∀ x, (enc x).length = sz} {on : ∀ x, ∀ v ∈ enc x, v.oneCell' = true}
theorem ISl.spot {p : Option Addr} {c : Nat} {xs : List α} (hs : ISl (Rp.flat sz enc ok ps ln on) A w p c xs) {i : Int} (h0 : 0 ≤ i) (h1 : i < xs.length) : ∃ a, padd p (i.toNat * sz) = some a ∧ a.spot = none := by
 obtain ⟨a, ha, hsp, _, _, _⟩ := hs.elem h0 h1
 exact ⟨a, ha, hsp⟩
end
end Sg
