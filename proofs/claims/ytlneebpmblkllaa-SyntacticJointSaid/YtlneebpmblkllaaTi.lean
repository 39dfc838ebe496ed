/- -/
import Derived.Test.YtlneebpmblkllaaTreeB
import Derived.Test.YtlneebpmblkllaaMap
import Derived.Test.YtlneebpmblkllaaAgg
import Derived.Test.YtlneebpmblkllaaCopy
import Derived.Test.YtlneebpmblkllaaDrawT
import Derived.Test.YtlneebpmblkllaaMix
import Derived.Test.YtlneebpmblkllaaArrN
import Derived.Test.YtlneebpmblkllaaStr
import Derived.Test.YtlneebpmblkllaaRows
import Derived.Test.YtlneebpmblkllaaFns
namespace Sg
open Go Go.RowKit Go.Proofs
set_option linter.unusedVariables false
set_option linter.unusedSimpArgs false
set_option maxRecDepth 100000
set_option maxHeartbeats 4000000
theorem mixed : Try.prog.follows .mixedOrders = true := by kernel_rfl
def rpRule : Rp Rule := Rp.flat 2 (fun a => [.string (gstr a.Left), .string (gstr a.Right)]) (fun a => a.Left.length ≤ mx ∧ a.Right.length ≤ mx) (by decide) (fun _ => rfl) (fun x v hv => by
 simp only [List.mem_cons, List.not_mem_nil, or_false] at hv
 rcases hv with rfl | rfl <;> rfl)
def rppart : Rp part := Rp.iso (Rp.prod (Rp.int .i64) (Rp.prod (Rp.sl (Rp.bool)) (Rp.int .i64))) (fun a => (a.start, a.final, a.shift))
theorem J6e {A : List Nat} {w : World} {a : part} {cs : List Value} (hl : cs.length = rppart.sz) (h : rppart.R A w (fun j => cs[j]?) a) :
  ∃ p1 c1, cs = [.int .i64 a.start, .slice p1 a.final.length c1, .int .i64 a.shift] ∧ ISl (Rp.bool) A w p1 c1 a.final := by
 obtain ⟨x0, x1, x2, rfl⟩ := cells3 hl
 obtain ⟨h0, ⟨p1, c1, h1, i1⟩, h2⟩ := h
 obtain rfl := Option.some.inj h0
 obtain rfl := Option.some.inj h1
 obtain rfl := Option.some.inj h2
 exact ⟨p1, c1, rfl, i1⟩
def rpDFA : Rp DFA := Rp.iso (Rp.prod (Rp.int .i64) (Rp.prod (Rp.int .i64) (Rp.prod (Rp.sl (Rp.bool)) (Rp.sl (Rp.sl (Rp.int .i64)))))) (fun a => (a.Letters, a.Start, a.Final, a.Next))
theorem J1l {A : List Nat} {w : World} {a : DFA} {cs : List Value} (hl : cs.length = rpDFA.sz) (h : rpDFA.R A w (fun j => cs[j]?) a) :
  ∃ p2 c2 p3 c3, cs = [.int .i64 a.Letters, .int .i64 a.Start, .slice p2 a.Final.length c2, .slice p3 a.Next.length c3] ∧ ISl (Rp.bool) A w p2 c2 a.Final ∧ ISl (Rp.sl (Rp.int .i64)) A w p3 c3 a.Next := by
 obtain ⟨x0, x1, x2, x3, rfl⟩ := cells4 hl
 obtain ⟨h0, h1, ⟨p2, c2, h2, i2⟩, ⟨p3, c3, h3, i3⟩⟩ := h
 obtain rfl := Option.some.inj h0
 obtain rfl := Option.some.inj h1
 obtain rfl := Option.some.inj h2
 obtain rfl := Option.some.inj h3
 exact ⟨p2, c2, p3, c3, rfl, i2, i3⟩
theorem ti3 : ti Try.prog 3 = some (some (.int .i64 0), 1, 8) := by kernel_rfl
theorem ti4 : ti Try.prog 4 = some (some (.bool false), 1, 1) := by kernel_rfl
theorem ti5 : ti Try.prog 5 = some (some (.int .u8 0), 1, 1) := by kernel_rfl
theorem ti9 : ti Try.prog 9 = some (some (.string (gstr [])), 1, 16) := by kernel_rfl
theorem ti21 : ti Try.prog 21 = some (some (.int .i32 0), 1, 4) := by kernel_rfl
theorem ti22 : ti Try.prog 22 = some (some (.slice none 0 0), 1, 24) := by kernel_rfl
theorem ti23 : ti Try.prog 23 = some (some (.slice none 0 0), 1, 24) := by kernel_rfl
theorem ti25 : ti Try.prog 25 = some (some (.agg #[.int .i64 0, .int .i64 0, .slice none 0 0, .slice none 0 0]), 4, 64) := by kernel_rfl
theorem ti30 : ti Try.prog 30 = some (some (.slice none 0 0), 1, 24) := by kernel_rfl
theorem ti31 : ti Try.prog 31 = some (some (.slice none 0 0), 1, 24) := by kernel_rfl
theorem ti33 : ti Try.prog 33 = some (some (.agg #[.int .i64 0, .slice none 0 0, .slice none 0 0, .slice none 0 0, .slice none 0 0, .slice none 0 0]), 6, 128) := by kernel_rfl
theorem ti39 : ti Try.prog 39 = some (some (.slice none 0 0), 1, 24) := by kernel_rfl
theorem ti40 : ti Try.prog 40 = some (some (.slice none 0 0), 1, 24) := by kernel_rfl
theorem ti81 : ti Try.prog 81 = some (some (.slice none 0 0), 1, 24) := by kernel_rfl
theorem ti83 : ti Try.prog 83 = some (some (.agg #[.slice none 0 0, .slice none 0 0, .int .i64 0]), 3, 56) := by kernel_rfl
theorem ti95 : ti Try.prog 95 = some (some (.slice none 0 0), 1, 24) := by kernel_rfl
theorem ti99 : ti Try.prog 99 = some (some (.map none), 1, 8) := by kernel_rfl
theorem ti117 : ti Try.prog 117 = some (some (.agg #[.slice none 0 0, .slice none 0 0, .slice none 0 0, .slice none 0 0]), 4, 96) := by kernel_rfl
theorem ti120 : ti Try.prog 120 = some (some (.agg #[.int .i64 0, .slice none 0 0, .int .i64 0]), 3, 40) := by kernel_rfl
theorem ti121 : ti Try.prog 121 = some (some (.slice none 0 0), 1, 24) := by kernel_rfl
theorem ti123 : ti Try.prog 123 = some (some (.agg #[.int .i64 0, .bool false, .slice none 0 0, .slice none 0 0, .slice none 0 0, .slice none 0 0, .slice none 0 0, .slice none 0 0, .int .i64 0]), 9, 168) := by kernel_rfl
theorem ti126 : ti Try.prog 126 = some (some (.slice none 0 0), 1, 24) := by kernel_rfl
theorem ti136 : ti Try.prog 136 = some (some (.nilFunc), 1, 8) := by kernel_rfl
theorem ti137 : ti Try.prog 137 = some (some (.slice none 0 0), 1, 24) := by kernel_rfl
theorem ti138 : ti Try.prog 138 = some (some (.agg #[.int .i64 0, .int .i64 0]), 2, 16) := by kernel_rfl
theorem ti145 : ti Try.prog 145 = some (some (.agg #[.slice none 0 0, .slice none 0 0, .int .i64 0, .int .i64 0, .slice none 0 0, .slice none 0 0]), 6, 112) := by kernel_rfl
theorem ti154 : ti Try.prog 154 = some (some (.map none), 1, 8) := by kernel_rfl
theorem ti156 : ti Try.prog 156 = some (some (.agg #[.int .i64 0, .bool false, .slice none 0 0, .slice none 0 0, .slice none 0 0, .slice none 0 0, .slice none 0 0, .slice none 0 0, .int .i64 0, .map none, .slice none 0 0, .slice none 0 0, .slice none 0 0]), 13, 248) := by kernel_rfl
theorem ti164 : ti Try.prog 164 = some (some (.map none), 1, 8) := by kernel_rfl
theorem ti166 : ti Try.prog 166 = some (some (.agg #[.int .i64 0, .int .i64 0, .int .i64 0, .int .i64 0, .int .i64 0, .int .i64 0, .int .i64 0]), 7, 56) := by kernel_rfl
theorem ti168 : ti Try.prog 168 = some (some (.map none), 1, 8) := by kernel_rfl
theorem ti185 : ti Try.prog 185 = some (some (.agg #[.string (gstr []), .string (gstr [])]), 2, 32) := by kernel_rfl
theorem ti188 : ti Try.prog 188 = some (some (.agg #[.slice none 0 0, .map none]), 2, 32) := by kernel_rfl
end Sg
