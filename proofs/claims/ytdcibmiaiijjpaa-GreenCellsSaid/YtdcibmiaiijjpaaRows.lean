/-
  No cell of these rows narrows 'for every input' (looked for: loops, veiled, ifaces, maps, wideKeys, modest, calm, conditions, laid).
  DERIVED. THE GIVEN ROWS OF THIS SEAT. 3 by the template 'for every input the law returns true; each argument reads behind the call as it read before'; 0 by the template 'total and deterministic' (their statements: YtdcibmiaiijjpaaTotals.lean).
  GIVEN WITH THE SEED: the statements are not yours to turn. If you find one false, say at which input.
  Laid BY PROGRAM, IN A SANDBOX (cutbox-rows.mjs): the forced cells as the released guide's own fill.sh prints them over the translation e2ad7a71c7e248b4… (all of the seat's roots in one cut). By AI agents, Wed Nov 11 2026. No macro, syntax, notation, axiom, sorry.
-/
import Derived.Test.YtdcibmiaiijjpaaChecked
import GoSem.Claim
import GoSem.ClaimJoined
import GoSem.ClaimMapViews
import Derived.JoinedTies
import Derived.KernelRfl
namespace Go.Proofs.Ytdcibmiaiijjpaa
/- THE CELL 'sum', in the pinned program and in every row, IS THE sha256 OF THE DUMP (.gsa) THAT YtdcibmiaiijjpaaProg.lean LOADS. Nothing in Lean hashes anything: it is a label: what it is worth is what the hold of that sum in a sandbox is worth. -/
noncomputable def Try.pinned : Pinned := { name := "ytdcibmiaiijjpaa", sum := "e2ad7a71c7e248b48f3ffedde4d9f35cbbdb014dbf47b2ab34b6b21033acf37d", checked := Try.checked }
namespace Rows
def none {H : Type} : Left H := { results := [], args := [] }

/-- 'semigrouplaw15.GreenOrders': WHATEVER THE INPUT: true; the input reads as it did. -/
def greenOrdersSpec : ChangeSpec := { name := "greenOrders", fn := fun _ => fun
  | [d1, d2, d3, d4] => { results := [.lit (.bool true)], args := [d1, d2, d3, d4] }
  | _ => none }
def greenOrdersRow : OpenClaim := { program := "ytdcibmiaiijjpaa", sum := "e2ad7a71c7e248b48f3ffedde4d9f35cbbdb014dbf47b2ab34b6b21033acf37d", func := "semigroup/semigrouplaw15.GreenOrders", spec := "greenOrders", unfollowed := true, recurses := true, plainKeys := false, apart := false }
def GreenOrdersSaid : Prop := greenOrdersRow.holds Try.pinned (OpenSpec.ofChange greenOrdersSpec)

/-- ITS FALSE NEIGHBOUR: 'it returns false'. Refute it at one input. -/
def greenOrdersWrong : ChangeSpec := { name := "greenOrders", fn := fun _ => fun
  | [d1, d2, d3, d4] => { results := [.lit (.bool false)], args := [d1, d2, d3, d4] }
  | _ => none }
def GreenOrdersWrongFalsely : Prop := greenOrdersRow.holds Try.pinned (OpenSpec.ofChange greenOrdersWrong)

/-- 'semigrouplaw15.GreenBoxes': WHATEVER THE INPUT: true; the input reads as it did. -/
def greenBoxesSpec : ChangeSpec := { name := "greenBoxes", fn := fun _ => fun
  | [d1, d2] => { results := [.lit (.bool true)], args := [d1, d2] }
  | _ => none }
def greenBoxesRow : OpenClaim := { program := "ytdcibmiaiijjpaa", sum := "e2ad7a71c7e248b48f3ffedde4d9f35cbbdb014dbf47b2ab34b6b21033acf37d", func := "semigroup/semigrouplaw15.GreenBoxes", spec := "greenBoxes", unfollowed := true, recurses := true, plainKeys := false, apart := false }
def GreenBoxesSaid : Prop := greenBoxesRow.holds Try.pinned (OpenSpec.ofChange greenBoxesSpec)

/-- ITS FALSE NEIGHBOUR: 'it returns false'. Refute it at one input. -/
def greenBoxesWrong : ChangeSpec := { name := "greenBoxes", fn := fun _ => fun
  | [d1, d2] => { results := [.lit (.bool false)], args := [d1, d2] }
  | _ => none }
def GreenBoxesWrongFalsely : Prop := greenBoxesRow.holds Try.pinned (OpenSpec.ofChange greenBoxesWrong)

/-- 'semigrouplaw15.GreenCells': WHATEVER THE INPUT: true; the input reads as it did. -/
def greenCellsSpec : ChangeSpec := { name := "greenCells", fn := fun _ => fun
  | [d] => { results := [.lit (.bool true)], args := [d] }
  | _ => none }
def greenCellsRow : OpenClaim := { program := "ytdcibmiaiijjpaa", sum := "e2ad7a71c7e248b48f3ffedde4d9f35cbbdb014dbf47b2ab34b6b21033acf37d", func := "semigroup/semigrouplaw15.GreenCells", spec := "greenCells", unfollowed := true, recurses := true, plainKeys := false, apart := false }
def GreenCellsSaid : Prop := greenCellsRow.holds Try.pinned (OpenSpec.ofChange greenCellsSpec)

/-- ITS FALSE NEIGHBOUR: 'it returns false'. Refute it at one input. -/
def greenCellsWrong : ChangeSpec := { name := "greenCells", fn := fun _ => fun
  | [d] => { results := [.lit (.bool false)], args := [d] }
  | _ => none }
def GreenCellsWrongFalsely : Prop := greenCellsRow.holds Try.pinned (OpenSpec.ofChange greenCellsWrong)

/- THE SECOND FORM. 'bulk': how many values and letters a reading holds, each counted each time it is reached (what is shared counts as often as it is met; a slice's spare places count too). A statement '..UptoSaid' is the law's where the arguments, and the package variables that the reading takes, are together of bulk at most 1048576: NARROWER than '..Said'. Prove '..Said' where nothing that the law and all that it calls make is longer than what came in: it says more and counts as full. Else prove '..UptoSaid'. A law counts once. -/
mutual
def uptoBulk {H : Type} : DataW H → Nat
  | .lit (.string bytes) => bytes.length + 1
  | .lit _ => 1
  | .nil => 1
  | .ptr d => uptoBulk d + 1
  | .slice elems spare => uptoBulkAll elems + uptoBulkAll spare + 1
  | .agg parts => uptoBulkAll parts + 1
  | .iface _ d => uptoBulk d + 1
  | .map entries => uptoBulkEntries entries + 1
  | .held _ => 1
def uptoBulkAll {H : Type} : List (DataW H) → Nat
  | [] => 0
  | d :: r => uptoBulk d + uptoBulkAll r
def uptoBulkEntries {H : Type} : List (Lit × DataW H) → Nat
  | [] => 0
  | x :: r => uptoBulkEntry x + uptoBulkEntries r
def uptoBulkEntry {H : Type} : Lit × DataW H → Nat
  | (.string bytes, d) => bytes.length + uptoBulk d + 1
  | (_, d) => uptoBulk d + 1
 end
def uptoSmall : (H : Type) → List (DataW H) → Bool := fun _ ds => decide (uptoBulkAll ds ≤ 1048576)
def OpenSpec.upto (s : _root_.Go.ChangeSpec) : _root_.Go.OpenSpec := { _root_.Go.OpenSpec.ofChange s with cond := some uptoSmall }

/-- 'semigrouplaw15.GreenOrders', WHERE WHAT IT READS IS OF BULK AT MOST 1048576: true; the input reads as it did. -/
def greenOrdersUptoRow : OpenClaim := { program := "ytdcibmiaiijjpaa", sum := "e2ad7a71c7e248b48f3ffedde4d9f35cbbdb014dbf47b2ab34b6b21033acf37d", func := "semigroup/semigrouplaw15.GreenOrders", spec := "greenOrders", unfollowed := true, recurses := true, plainKeys := false, apart := false, narrowed := true }
def GreenOrdersUptoSaid : Prop := greenOrdersUptoRow.holds Try.pinned (OpenSpec.upto greenOrdersSpec)

/-- 'semigrouplaw15.GreenBoxes', WHERE WHAT IT READS IS OF BULK AT MOST 1048576: true; the input reads as it did. -/
def greenBoxesUptoRow : OpenClaim := { program := "ytdcibmiaiijjpaa", sum := "e2ad7a71c7e248b48f3ffedde4d9f35cbbdb014dbf47b2ab34b6b21033acf37d", func := "semigroup/semigrouplaw15.GreenBoxes", spec := "greenBoxes", unfollowed := true, recurses := true, plainKeys := false, apart := false, narrowed := true }
def GreenBoxesUptoSaid : Prop := greenBoxesUptoRow.holds Try.pinned (OpenSpec.upto greenBoxesSpec)

/-- 'semigrouplaw15.GreenCells', WHERE WHAT IT READS IS OF BULK AT MOST 1048576: true; the input reads as it did. -/
def greenCellsUptoRow : OpenClaim := { program := "ytdcibmiaiijjpaa", sum := "e2ad7a71c7e248b48f3ffedde4d9f35cbbdb014dbf47b2ab34b6b21033acf37d", func := "semigroup/semigrouplaw15.GreenCells", spec := "greenCells", unfollowed := true, recurses := true, plainKeys := false, apart := false, narrowed := true }
def GreenCellsUptoSaid : Prop := greenCellsUptoRow.holds Try.pinned (OpenSpec.upto greenCellsSpec)

end Rows
end Go.Proofs.Ytdcibmiaiijjpaa
