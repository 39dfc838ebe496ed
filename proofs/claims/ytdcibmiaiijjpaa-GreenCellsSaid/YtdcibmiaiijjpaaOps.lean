/- -/
import Derived.Test.YtdcibmiaiijjpaaDraw
import Derived.Test.YtdcibmiaiijjpaaPure
import Derived.Laws.World
import Derived.Laws.Entries
import Derived.Laws.Slices
import Derived.Laws.AppendOwn
import Derived.Laws.MakeOwn
import Derived.Laws.Strings
import Derived.Laws.BytesString
import Derived.Laws.Cover3
import Derived.Laws.Small
import Derived.Lib.Strings
namespace Sg
open Go
set_option linter.unusedVariables false
set_option linter.unusedSimpArgs false
theorem wrap_i64 {r : Int} (h : I64 r) : IntKind.i64.wrap r = r := by
 obtain ⟨h1, h2⟩ := h
 have e1 : (2 ^ 64 : Int) = 18446744073709551616 := by decide
 have e2 : (2 ^ (64 - 1) : Int) = 9223372036854775808 := by decide
 simp only [IntKind.wrap, IntKind.bits, IntKind.signed, e1, e2, Bool.true_and, decide_eq_true_eq]
 split <;> omega
def ti (P : Program) (t : TypeId) : Option (Option Value × Nat × Nat) := (P.info? t).map fun i => (i.zero, i.size, i.bytes)
theorem J2Y {P : Program} {t : TypeId} {z : Value} {s b : Nat} (h : ti P t = some (some z, s, b)) : ∃ i, P.info? t = some i ∧ i.zero = some z ∧ i.size = s ∧ i.bytes = b := by
 unfold ti at h
 cases hi : P.info? t with
 | none => simp [hi] at h
 | some i => simp [hi] at h; exact ⟨i, rfl, h.1, h.2.1, h.2.2⟩
section
variable {P : Program} {σ : Nat → Value} {w : World} {t t' ty e : TypeId} {x y z : Operand}
theorem J00 {v : Value} (hx : ev σ x = v) (w : World) : OpV P (.move x) ty σ w v w := .inl (by simp [execOp, opr, hx])
theorem J04 {v : Value} (hx : ev σ x = v) (w : World) : OpV P (.assign x) ty σ w v w := .inl (by simp [execOp, opr, hx])
theorem J1t {v : Value} {b : Bool} (hc : ev σ z = .bool b) (hb : b = true) (hx : ev σ x = v) (w : World) : OpV P (.pick z x y) ty σ w v w := .inl (by simp [execOp, opr, hc, hx, hb, asBool])
theorem J0m {v : Value} {b : Bool} (hc : ev σ z = .bool b) (hb : b = false) (hx : ev σ y = v) (w : World) : OpV P (.pick z x y) ty σ w v w := .inl (by simp [execOp, opr, hc, hx, hb, asBool])
theorem J27 {p : Option Addr} {n c : Nat} (ht : P.underlying t = some (.slice e)) (hx : ev σ x = .slice p n c) (w : World) :
  OpV P (.call { callee := .builtin .len, args := #[x], argTypes := #[t] }) ty σ w (.int .i64 n) w := .inl (by
 simp [execOp, opr, hx, resolve, invoke, builtin, Builtin.len_, run_underlying ht, goInt])
section
variable {k k' : IntKind} {a b r : Int}
theorem J06 (hx : ev σ x = .int k a) (hy : ev σ y = .int k b) (hr : k.wrap (a + b) = r) (w : World) : OpV P (.binOp .add t x y t') ty σ w (.int k r) w := .inl (by
 simp [execOp, opr, hx, hy, eqGuard_add, binOp_add, Op.intArith, hr])
theorem J62 (hx : ev σ x = .int k a) (hy : ev σ y = .int k b) (hr : k.wrap (a - b) = r) (w : World) : OpV P (.binOp .sub t x y t') ty σ w (.int k r) w := .inl (by
 simp [execOp, opr, hx, hy, eqGuard_sub, binOp_sub, Op.intArith, hr])
theorem J7h (hx : ev σ x = .int k a) (hy : ev σ y = .int k b) (h0 : b ≠ 0) (hr : k.wrap (a.tdiv b) = r) (w : World) : OpV P (.binOp .quo t x y t') ty σ w (.int k r) w := .inl (by
 simp [execOp, opr, hx, hy, eqGuard_quo, binOp_quo, Op.intDiv, hr, h0])
theorem J0s (hx : ev σ x = .int k a) (hy : ev σ y = .int k b) (w : World) : OpV P (.binOp .lss t x y t') ty σ w (.bool (decide (a < b))) w := .inl (by
 simp [execOp, opr, hx, hy, eqGuard_lss, binOp_lss])
theorem J6K (hx : ev σ x = .int k a) (hy : ev σ y = .int k b) (w : World) : OpV P (.binOp .leq t x y t') ty σ w (.bool (decide (a ≤ b))) w := .inl (by
 simp [execOp, opr, hx, hy, eqGuard_leq, binOp_leq])
theorem J6H (hx : ev σ x = .int k a) (hy : ev σ y = .int k b) (w : World) : OpV P (.binOp .gtr t x y t') ty σ w (.bool (decide (b < a))) w := .inl (by
 simp [execOp, opr, hx, hy, eqGuard_gtr, binOp_gtr])
theorem J5x (hx : ev σ x = .int k a) (hy : ev σ y = .int k b) (w : World) : OpV P (.binOp .geq t x y t') ty σ w (.bool (decide (b ≤ a))) w := .inl (by
 simp [execOp, opr, hx, hy, eqGuard_geq, binOp_geq])
theorem J15 (hx : ev σ x = .int k a) (hy : ev σ y = .int k b) (w : World) : OpV P (.binOp .eql t x y t') ty σ w (.bool (decide (a = b))) w := .inl (by
 simp [execOp, opr, hx, hy, eqGuard_at_int, binOp_eql]; by_cases h : a = b <;> simp [h])
theorem J3y (hx : ev σ x = .int k a) (hy : ev σ y = .int k b) (w : World) : OpV P (.binOp .neq t x y t') ty σ w (.bool (!decide (a = b))) w := .inl (by
 simp [execOp, opr, hx, hy, eqGuard_at_int, binOp_neq]; by_cases h : a = b <;> simp [h])
theorem J5u (hx : ev σ x = .int k a) (hy : ev σ y = .int k' b) (h0 : 0 ≤ b) (hr : k.wrap (a * 2 ^ (min b.toNat k.bits)) = r) (w : World) : OpV P (.binOp .shl t x y t') ty σ w (.int k r) w := .inl (by
 have h : ¬ b < 0 := by omega
 simp [execOp, opr, hx, hy, eqGuard_shl, binOp_shl, Op.shift, h, hr])
theorem J3U (hx : ev σ x = .int k a) (hy : ev σ y = .int k' b) (h0 : 0 ≤ b) (hr : a.fdiv (2 ^ (min b.toNat k.bits)) = r) (w : World) : OpV P (.binOp .shr t x y t') ty σ w (.int k r) w := .inl (by
 have h : ¬ b < 0 := by omega
 simp [execOp, opr, hx, hy, eqGuard_shr, binOp_shr, Op.shift, h, hr])
theorem J4o (hx : ev σ x = .int k a) (hy : ev σ y = .int k b) (w : World) : OpV P (.binOp .and t x y t') ty σ w (.int k (bits .and k a b)) w := .inl (by
 simp [execOp, opr, hx, hy, eqGuard_and, binOp_and, intBits_and])
theorem op_or (hx : ev σ x = .int k a) (hy : ev σ y = .int k b) (w : World) : OpV P (.binOp .or t x y t') ty σ w (.int k (bits .or k a b)) w := .inl (by
 simp [execOp, opr, hx, hy, eqGuard_or, binOp_or, intBits_or])
theorem J6j {d : TypeDesc} (hs : P.underlying t = some d) (hd : P.underlying t' = some (.int k')) (hx : ev σ x = .int k a) (hr : k'.wrap a = r) (w : World) : OpV P (.convert t t' x) ty σ w (.int k' r) w := .inl (by
 simp [execOp, opr, hx, convert, run_underlying hs, run_underlying hd, Conv.intToInt, hr])
end
theorem J4B {a b : Bool} (ht : P.underlying t = some .bool) (hx : ev σ x = .bool a) (hy : ev σ y = .bool b) (w : World) : OpV P (.binOp .neq t x y t') ty σ w (.bool (!(a == b))) w := .inl (by
 have h : binOp .neq t (.bool a) (.bool b) = (do pure (.bool (!(← Op.equal t (.bool a) (.bool b))))) := rfl
 simp only [execOp, opr, hx, hy, eqGuard_at_bool, h, Sem.run_bind, Sem.run_pure, Result.andThen_ok, run_equal_bool w t a b ht])
theorem J61 {a : Bool} (hx : ev σ x = .bool a) (w : World) : OpV P (.unOp .not t x) ty σ w (.bool (!a)) w := .inl (by
 simp [execOp, opr, hx, Op.unary])
def gstr (l : List UInt8) : ByteArray := ⟨l.toArray⟩
@[simp] theorem J6X (l : List UInt8) : (gstr l).toList = l := ByteArray.toList_mk l
@[simp] theorem J7m (l : List UInt8) : (gstr l).data.toList = l := by simp [gstr]
@[simp] theorem J7t (l : List UInt8) : (gstr l).size = l.length := by simp [gstr, ByteArray.size]
theorem J5q (a b : List UInt8) : (a == b) = decide (a = b) := by
 rw [Bool.eq_iff_iff, beq_iff_eq, decide_eq_true_eq]
theorem J64 {a b : List UInt8} (hx : ev σ x = .string (gstr a)) (hy : ev σ y = .string (gstr b)) (w : World) : OpV P (.binOp .eql t x y t') ty σ w (.bool (decide (a = b))) w := .inl (by
 simp [execOp, opr, hx, hy, eqGuard_at_string, binOp_string_eql, J5q])
theorem J5W {a b : List UInt8} (hx : ev σ x = .string (gstr a)) (hy : ev σ y = .string (gstr b)) (w : World) : OpV P (.binOp .neq t x y t') ty σ w (.bool (!decide (a = b))) w := .inl (by
 simp [execOp, opr, hx, hy, eqGuard_at_string, binOp_string_neq, J5q])
theorem J25 {vs : Array Value} {v : Value} {i : Nat} (hx : ev σ x = .tuple vs) (hv : vs[i]? = some v) (w : World) : OpV P (.extract x i) ty σ w v w := .inl (by
 simp [execOp, opr, hx, Instr.extract, hv])
def padd (p : Option Addr) (j : Nat) : Option Addr := p.map (·.add j)
theorem run_sizeOf {e : TypeId} {s : Nat} {z : Option Value} {b : Nat} (he : ti P e = some (z, s, b)) (w : World) : (Go.sizeOf e).run P w = .ok s w := by
 unfold ti at he
 cases hi : P.info? e with
 | none => simp [hi] at he
 | some inf => simp [hi] at he; simp [Go.sizeOf, typeInfo, hi, he.2.1]
theorem J01 {p : Option Addr} {n c : Nat} {k : IntKind} {i : Int} {s : Nat} {zz : Option Value} {b : Nat} (ht : P.underlying t = some (.slice e)) (he : ti P e = some (zz, s, b)) (hx : ev σ x = .slice p n c) (hy : ev σ y = .int k i)
  (h0 : 0 ≤ i) (h1 : i < n) (hp : p.isSome = true) (w : World) : OpV P (.indexAddr t x y) ty σ w (.pointer (padd p (i.toNat * s))) w := .inl (by
 obtain ⟨a, rfl⟩ := Option.isSome_iff_exists.1 hp
 have hs := fun w => run_sizeOf he w
 simp [execOp, opr, hx, hy, Instr.indexAt, run_underlying ht, asIntOf, h0, h1, hs, padd])
end
end Sg
