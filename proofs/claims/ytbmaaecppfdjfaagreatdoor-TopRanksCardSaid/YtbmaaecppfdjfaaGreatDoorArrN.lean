/- -/
import Derived.Test.YtbmaaecppfdjfaaGreatDoorArr
import Derived.Test.YtbmaaecppfdjfaaGreatDoorPA
import Derived.Test.YtbmaaecppfdjfaaGreatDoorAgg
import Derived.Laws.Cover3
namespace Sg
open Go Go.RowKit
set_option linter.unusedVariables false
set_option linter.unusedSimpArgs false
def icells (q : IntKind) (l : List Int) : List Value := l.map (Value.int q)
theorem Jdm {q : IntKind} {l : List Int} {i : Nat} (h : i < l.length) : (icells q l).toArray[i]? = some (.int q (ix l (i : Int))) := by
 simp [icells, List.getElem?_eq_getElem h, ix_lt h]
theorem Jap {P : Program} {e : TypeId} {q : IntKind} (he : P.underlying e = some (.int q)) {l : List Int} {i : Nat} (h : i < l.length) (w : World) : (part e (icells q l).toArray i).run P w = .ok (.int q (ix l (i : Int))) w :=
 J9D he rfl (Jdm h) w
theorem JbX {P : Program} {e : TypeId} {q : IntKind} (he : P.underlying e = some (.int q)) (hc : P.cellsOf e = 1) {l m : List Int} (hl : l.length = m.length) (w : World) : ∀ is : List Nat, (∀ i ∈ is, i < l.length) →
    (Op.eqItems 9999 e 1 (icells q l).toArray (icells q m).toArray is).run P w = .ok (decide (∀ i ∈ is, ix l (i : Int) = ix m (i : Int))) w
  | [], _ => by simp [Op.eqItems]
  | i :: is, h => by
    have e1 : ∀ (x y : Int) (w : World), (Op.equalIn 9999 e (.int q x) (.int q y)).run P w = .ok (x == y) w := fun x y w => run_equalIn_int w 9998 e q q x y he
    have hi := h i (by simp)
    simp only [Op.eqItems, Sem.run_bind, Nat.mul_one, Jap he hi, Jap he (show i < m.length by omega), Result.andThen_ok, e1]
    by_cases hx : ix l (i : Int) = ix m (i : Int)
    · simp only [hx, beq_self_eq_true, Bool.not_true, Bool.false_eq_true, if_false]
      rw [JbX he hc hl w is fun j hj => h j (List.mem_cons_of_mem _ hj)]
      congr 1
      simp [hx]
    · simp [hx]
theorem Jii {P : Program} {k e : TypeId} {q : IntKind} {n : Nat} {z : Option Value} {bb : Nat} (hk : P.underlying k = some (.array n e)) (he : P.underlying e = some (.int q)) (hi : ti P e = some (z, 1, bb)) (a b : AN n) (w : World) :
  (Op.equal k (.agg (icells q a.1).toArray) (.agg (icells q b.1).toArray)).run P w = .ok (decide (a = b)) w := by
 obtain ⟨i, hi1, hs⟩ : ∃ i, P.info? e = some i ∧ i.size = 1 := by
  unfold ti at hi
  cases h : P.info? e with
  | none => simp [h] at hi
  | some i => simp [h] at hi; exact ⟨i, rfl, hi.2.1⟩
 have hc : P.cellsOf e = 1 := by simp [Program.cellsOf, hi1, hs]
 have : (Op.equal k (.agg (icells q a.1).toArray) (.agg (icells q b.1).toArray)) = Op.equalIn (9999 + 1) k (.agg (icells q a.1).toArray) (.agg (icells q b.1).toArray) := rfl
 rw [this, run_equalIn_array w 9999 _ _ hk hi1, hc, JbX he hc (a.2.trans b.2.symm) w _ fun i hi => by rw [a.2]; simpa using hi]
 congr 1
 apply decide_eq_decide.2
 constructor
 ·intro h
  refine Subtype.ext (J0e (a.2.trans b.2.symm) fun j hj => h j ?_)
  rw [a.2] at hj
  simpa using hj
 ·rintro rfl _ _
  rfl
theorem MK.arrN {P : Program} {k e : TypeId} {q : IntKind} {n : Nat} {z : Option Value} {bb : Nat} (hk : P.underlying k = some (.array n e)) (he : P.underlying e = some (.int q)) (hi : ti P e = some (z, 1, bb)) : MK P k (fun a : AN n => Value.agg (icells q a.1).toArray) where
  chk em a w := by
    have hsz : ∀ w, (Go.sizeOf e).run P w = .ok 1 w := fun w => run_sizeOf hi w
    have c : ∀ (x : Int) (w : World), (Instr.checkKey em 9999 e (.int q x)).run P w = .ok () w := fun x w => Go.MapKept.run_checkKey (d := .int q) (k := Value.int q x) he (show q = q from rfl) em 9998
    unfold Instr.checkKey
    simp only [Sem.run_bind, run_underlying hk, Result.andThen_ok]
    have key : ∀ is : List Nat, (∀ i ∈ is, i < n) → ((forIn is PUnit.unit fun i (_ : PUnit) => do
        Instr.checkKey em 9999 e (← part e (icells q a.1).toArray (i * (← Go.sizeOf e)))
        pure (ForInStep.yield PUnit.unit) : Sem PUnit)).run P w = .ok PUnit.unit w := by
      intro is
      induction is with
      | nil => intro _; simp
      | cons i is ih =>
        intro h
        have hi := h i (by simp)
        simp only [List.forIn_cons, Sem.run_bind, hsz, Result.andThen_ok, Nat.mul_one, Jap he (show i < a.1.length by rw [a.2]; exact hi), c, Sem.run_pure]
        exact ih fun j hj => h j (List.mem_cons_of_mem _ hj)
    simp only [Std.Legacy.Range.forIn_eq_forIn_range', Std.Legacy.Range.size, Nat.sub_zero, Nat.add_one_sub_one, Nat.div_one]
    have := key (List.range' 0 n) fun i hi => by simpa using hi
    simp [Sem.run_bind, Result.andThen] at this ⊢
    rw [this]
  fnd es D a w h := by
    unfold Instr.findKey
    simp only [Sem.run_bind, run_underlying hk, Result.andThen_ok]
    cases es with
    | nil =>
      cases D with
      | nil => simp [Instr.findNow, fidx]
      | cons _ _ => simp at h
    | cons e0 es =>
      have hn : Instr.findNow (.array n e) (.agg (icells q a.1).toArray) (e0 :: es) 0 = none := by
        simp [Instr.findNow, Instr.sameNow]
      rw [hn]
      refine (J8l (kv := fun a : AN n => Value.agg (icells q a.1).toArray) (fun a b w => Jii hk he hi a b w) (e0 :: es) D a 0 w h).trans ?_
      simp only [Nat.zero_add]
  sam a := by
    have h : ∀ l : List Int, ∀ x y : Value, (x, y) ∈ (icells q l).zip (icells q l) → Instr.sameBits 9999 x y = true := by
      intro l
      induction l with
      | nil => intro x y h; simp [icells] at h
      | cons b l ih =>
        intro x y h
        simp only [icells, List.map_cons, List.zip_cons_cons, List.mem_cons, Prod.mk.injEq] at h
        rcases h with ⟨rfl, rfl⟩ | h
        · simp [Instr.sameBits]
        · exact ih x y h
    simpa [Instr.sameBits] using h a.1
section
variable {P : Program} {σ : Nat → Value} {w : World} {t ty e T : TypeId} {x y : Operand} {A : List Nat} {E : List Ent} {n0 B : Nat} {q : IntKind} {L : List Int}
theorem JeW {n : Nat} {k : IntKind} {i : Int} {zz : Option Value} {bb : Nat} (ht : P.underlying t = some (.array n e)) (he : ti P e = some (zz, 1, bb)) (hx : ev σ x = .pointer (some ⟨B, 0, none⟩)) (hy : ev σ y = .int k i)
  (h0 : 0 ≤ i) (h1 : i < n) (w : World) : OpV P (.indexAddr t x y) ty σ w (.pointer (some ⟨B, i.toNat, none⟩)) w := .inl (by
 have hs := fun w => run_sizeOf he w
 simp [execOp, opr, hx, hy, Instr.indexAt, Instr.sureAddr, run_underlying ht, asIntOf, h0, h1, hs, Addr.add_lit])
theorem Jgm {i : Int} {v : Int} (h0 : 0 ≤ i) : (icells q L).toArray.setIfInBounds i.toNat (.int q v) = (icells q (st L i v)).toArray := by
 apply Array.ext'
 simp [icells, st]
theorem oarrSt (j : Nat) (hO : Owns n0 w E A) (hj : E[j]? = some (.blk B (.cells (icells q L).toArray T (0, 0)))) {i v : Int} (h0 : 0 ≤ i) (h1 : i < L.length) :
  ∃ w', Stp n0 A w E w' (E.set j (.blk B (.cells (icells q (st L i v)).toArray T (0, 0)))) ∧ ∀ {P : Program} {σ : Nat → Value} {t ty : TypeId} {x y : Operand} {d : TypeDesc} {zz : Option Value} {bb : Nat}, P.underlying t = some d → scB d = true → ti P t = some (zz, 1, bb) →
   ev σ x = .pointer (some ⟨B, i.toNat, none⟩) → ev σ y = .int q v → OpV P (.store t x y) ty σ w undef w' := by
 obtain ⟨w', h1, h2⟩ := JcF (i := i.toNat) (v := .int q v) j hO hj (u := .int q (ix L i)) (by
  obtain ⟨k, rfl⟩ := Int.eq_ofNat_of_zero_le h0
  exact Jdm (by omega)) rfl (Jgm h0)
 exact ⟨w', h1, h2⟩
theorem arrLt {n : Nat} {i : Int} (hL : L.length = n) (h : i < (n : Int)) : i < (L.length : Int) := by rw [hL]; exact h
theorem oarrStA {M : List Int} (j : Nat) (hO : Owns n0 w E A) (hj : E[j]? = some (.blk B (.cells (icells q L).toArray T (0, 0)))) (hl : L.length = M.length) :
  ∃ w', Stp n0 A w E w' (E.set j (.blk B (.cells (icells q M).toArray T (0, 0)))) ∧ ∀ {P : Program} {σ : Nat → Value} {t ty : TypeId} {x y : Operand} {zz : Option Value} {bb : Nat}, ti P t = some (zz, M.length, bb) →
   ev σ x = .pointer (some ⟨B, 0, none⟩) → ev σ y = .agg (icells q M).toArray → OpV P (.store t x y) ty σ w undef w' := by
 obtain ⟨w', h1, h2⟩ := Je9 (us := icells q M) (o := 0) (cs' := (icells q M).toArray) j hO hj (by simp [icells, Value.oneCell']) (by simp [icells, hl]) (by simp [icells, hl])
 exact ⟨w', h1, fun he hx hy => h2 (by simpa [icells] using he) hx hy (by simp [Value.cells])⟩
theorem oarrLd {n : Nat} (j : Nat) (hO : Owns n0 w E A) (hj : E[j]? = some (.blk B (.cells (icells q L).toArray T (0, 0)))) (hL : L.length = n) {d : TypeDesc} (ht : P.underlying t = some d) (hd : scB d = false)
  {zz : Option Value} {bb : Nat} (he : ti P t = some (zz, n, bb)) (hx : ev σ x = .pointer (some ⟨B, 0, none⟩)) (w' : World) (hw : Same w w') : OpV P (.load t x) ty σ w' (.agg (icells q (toAN n L).1).toArray) w' := by
 rw [Jdv hL]
 exact J1d (vs := icells q L) (i := 0) j hO hj (by simp) ht hd (by simpa [icells, hL] using he) hx w' hw
end
section
variable {P : Program} {σ : Nat → Value} {w : World} {t t' ty k e : TypeId} {x y : Operand}
theorem olookN {κ : Type} [DecidableEq κ] {kv : κ → Value} (K : MK P k kv) (ht : P.underlying t = some (.map k e)) {zv : Value} {b s : Nat} (he : ti P e = some (some zv, s, b)) {a : κ} (hx : ev σ x = .map none) (hy : ev σ y = kv a) (w : World) :
  OpV P (.lookup t x y true) ty σ w (.tuple #[zv, .bool false]) w := .inl (by
 have hf := K.fnd [] [] a w rfl
 have hz : (zeroValue e).run P w = .ok zv w := by
  obtain ⟨i, hi, hz, _⟩ := J5P he
  simp [zeroValue, typeInfo, hi, hz]
 simp [fidx] at hf
 simp [execOp, opr, hx, hy, Instr.lookup, run_underlying ht, K.chk, hf, hz, Result.andThen])
theorem Jeg {p : Option Nat} (ht : P.underlying t = some (.map k e)) (hx : ev σ x = .map p) (hy : ev σ y = .map none) (w : World) : OpV P (.binOp .eql t x y t') ty σ w (.bool p.isNone) w := .inl (by
 have h : binOp .eql t (.map p) (.map none) = (do pure (.bool (← Op.equal t (.map p) (.map none)))) := rfl
 simp only [execOp, opr, hx, hy, eqGuard_at_map, h, Sem.run_bind, Sem.run_pure, Result.andThen_ok, run_equal_map_nil w t k e p ht])
end
end Sg
