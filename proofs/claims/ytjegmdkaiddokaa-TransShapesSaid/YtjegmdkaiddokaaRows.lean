/-
  No cell of these rows narrows 'for every input' (looked for: loops, veiled, ifaces, maps, wideKeys, modest, calm, conditions, laid).
  DERIVED. THE GIVEN ROWS OF THIS SEAT. 12 by the template 'for every input the law returns true; each argument reads behind the call as it read before'; 0 by the template 'total and deterministic' (their statements: YtjegmdkaiddokaaTotals.lean).
  GIVEN WITH THE SEED: the statements are not yours to turn. If you find one false, say at which input.
  Laid BY PROGRAM, IN A SANDBOX (cutbox-rows.mjs): the forced cells as the released guide's own fill.sh prints them over the translation 9252dbd0b790b478… (all of the seat's roots in one cut). By AI agents, Wed Nov 11 2026. No macro, syntax, notation, axiom, sorry.
-/
import Derived.Test.YtjegmdkaiddokaaChecked
import GoSem.Claim
import GoSem.ClaimJoined
import GoSem.ClaimMapViews
import Derived.JoinedTies
import Derived.KernelRfl
namespace Go.Proofs.Ytjegmdkaiddokaa
/- THE CELL 'sum', in the pinned program and in every row, IS THE sha256 OF THE DUMP (.gsa) THAT YtjegmdkaiddokaaProg.lean LOADS. Nothing in Lean hashes anything: it is a label: what it is worth is what the hold of that sum in a sandbox is worth. -/
noncomputable def Try.pinned : Pinned := { name := "ytjegmdkaiddokaa", sum := "9252dbd0b790b478e06dc0809dbd4eacc98679ccbddefa47b017c7776d55ff8a", checked := Try.checked }
namespace Rows
def none {H : Type} : Left H := { results := [], args := [] }

/-- 'semigrouplaw11.TransComposes': WHATEVER THE INPUT: true; the input reads as it did. -/
def transComposesSpec : ChangeSpec := { name := "transComposes", fn := fun _ => fun
  | [d1, d2] => { results := [.lit (.bool true)], args := [d1, d2] }
  | _ => none }
def transComposesRow : OpenClaim := { program := "ytjegmdkaiddokaa", sum := "9252dbd0b790b478e06dc0809dbd4eacc98679ccbddefa47b017c7776d55ff8a", func := "semigroup/semigrouplaw11.TransComposes", spec := "transComposes", apart := false }
def TransComposesSaid : Prop := transComposesRow.holds Try.pinned (OpenSpec.ofChange transComposesSpec)

/-- ITS FALSE NEIGHBOUR: 'it returns false'. Refute it at one input. -/
def transComposesWrong : ChangeSpec := { name := "transComposes", fn := fun _ => fun
  | [d1, d2] => { results := [.lit (.bool false)], args := [d1, d2] }
  | _ => none }
def TransComposesWrongFalsely : Prop := transComposesRow.holds Try.pinned (OpenSpec.ofChange transComposesWrong)

/-- 'semigrouplaw11.TransValid': WHATEVER THE INPUT: true; the input reads as it did. -/
def transValidSpec : ChangeSpec := { name := "transValid", fn := fun _ => fun
  | [d1, d2] => { results := [.lit (.bool true)], args := [d1, d2] }
  | _ => none }
def transValidRow : OpenClaim := { program := "ytjegmdkaiddokaa", sum := "9252dbd0b790b478e06dc0809dbd4eacc98679ccbddefa47b017c7776d55ff8a", func := "semigroup/semigrouplaw11.TransValid", spec := "transValid", apart := false }
def TransValidSaid : Prop := transValidRow.holds Try.pinned (OpenSpec.ofChange transValidSpec)

/-- ITS FALSE NEIGHBOUR: 'it returns false'. Refute it at one input. -/
def transValidWrong : ChangeSpec := { name := "transValid", fn := fun _ => fun
  | [d1, d2] => { results := [.lit (.bool false)], args := [d1, d2] }
  | _ => none }
def TransValidWrongFalsely : Prop := transValidRow.holds Try.pinned (OpenSpec.ofChange transValidWrong)

/-- 'semigrouplaw11.TransApplies': WHATEVER THE INPUT: true; the input reads as it did. -/
def transAppliesSpec : ChangeSpec := { name := "transApplies", fn := fun _ => fun
  | [d1, d2, d3] => { results := [.lit (.bool true)], args := [d1, d2, d3] }
  | _ => none }
def transAppliesRow : OpenClaim := { program := "ytjegmdkaiddokaa", sum := "9252dbd0b790b478e06dc0809dbd4eacc98679ccbddefa47b017c7776d55ff8a", func := "semigroup/semigrouplaw11.TransApplies", spec := "transApplies", apart := false }
def TransAppliesSaid : Prop := transAppliesRow.holds Try.pinned (OpenSpec.ofChange transAppliesSpec)

/-- ITS FALSE NEIGHBOUR: 'it returns false'. Refute it at one input. -/
def transAppliesWrong : ChangeSpec := { name := "transApplies", fn := fun _ => fun
  | [d1, d2, d3] => { results := [.lit (.bool false)], args := [d1, d2, d3] }
  | _ => none }
def TransAppliesWrongFalsely : Prop := transAppliesRow.holds Try.pinned (OpenSpec.ofChange transAppliesWrong)

/-- 'semigrouplaw11.TransPowers': WHATEVER THE INPUT: true; the input reads as it did. -/
def transPowersSpec : ChangeSpec := { name := "transPowers", fn := fun _ => fun
  | [d1, d2] => { results := [.lit (.bool true)], args := [d1, d2] }
  | _ => none }
def transPowersRow : OpenClaim := { program := "ytjegmdkaiddokaa", sum := "9252dbd0b790b478e06dc0809dbd4eacc98679ccbddefa47b017c7776d55ff8a", func := "semigroup/semigrouplaw11.TransPowers", spec := "transPowers", apart := false }
def TransPowersSaid : Prop := transPowersRow.holds Try.pinned (OpenSpec.ofChange transPowersSpec)

/-- ITS FALSE NEIGHBOUR: 'it returns false'. Refute it at one input. -/
def transPowersWrong : ChangeSpec := { name := "transPowers", fn := fun _ => fun
  | [d1, d2] => { results := [.lit (.bool false)], args := [d1, d2] }
  | _ => none }
def TransPowersWrongFalsely : Prop := transPowersRow.holds Try.pinned (OpenSpec.ofChange transPowersWrong)

/-- 'semigrouplaw11.TransWords': WHATEVER THE INPUT: true; the input reads as it did. -/
def transWordsSpec : ChangeSpec := { name := "transWords", fn := fun _ => fun
  | [d1, d2, d3] => { results := [.lit (.bool true)], args := [d1, d2, d3] }
  | _ => none }
def transWordsRow : OpenClaim := { program := "ytjegmdkaiddokaa", sum := "9252dbd0b790b478e06dc0809dbd4eacc98679ccbddefa47b017c7776d55ff8a", func := "semigroup/semigrouplaw11.TransWords", spec := "transWords", apart := false }
def TransWordsSaid : Prop := transWordsRow.holds Try.pinned (OpenSpec.ofChange transWordsSpec)

/-- ITS FALSE NEIGHBOUR: 'it returns false'. Refute it at one input. -/
def transWordsWrong : ChangeSpec := { name := "transWords", fn := fun _ => fun
  | [d1, d2, d3] => { results := [.lit (.bool false)], args := [d1, d2, d3] }
  | _ => none }
def TransWordsWrongFalsely : Prop := transWordsRow.holds Try.pinned (OpenSpec.ofChange transWordsWrong)

/-- 'semigrouplaw11.TransLetters': WHATEVER THE INPUT: true; the input reads as it did. -/
def transLettersSpec : ChangeSpec := { name := "transLetters", fn := fun _ => fun
  | [d] => { results := [.lit (.bool true)], args := [d] }
  | _ => none }
def transLettersRow : OpenClaim := { program := "ytjegmdkaiddokaa", sum := "9252dbd0b790b478e06dc0809dbd4eacc98679ccbddefa47b017c7776d55ff8a", func := "semigroup/semigrouplaw11.TransLetters", spec := "transLetters", apart := false }
def TransLettersSaid : Prop := transLettersRow.holds Try.pinned (OpenSpec.ofChange transLettersSpec)

/-- ITS FALSE NEIGHBOUR: 'it returns false'. Refute it at one input. -/
def transLettersWrong : ChangeSpec := { name := "transLetters", fn := fun _ => fun
  | [d] => { results := [.lit (.bool false)], args := [d] }
  | _ => none }
def TransLettersWrongFalsely : Prop := transLettersRow.holds Try.pinned (OpenSpec.ofChange transLettersWrong)

/-- 'semigrouplaw11.TransCycles': WHATEVER THE INPUT: true; the input reads as it did. -/
def transCyclesSpec : ChangeSpec := { name := "transCycles", fn := fun _ => fun
  | [d] => { results := [.lit (.bool true)], args := [d] }
  | _ => none }
def transCyclesRow : OpenClaim := { program := "ytjegmdkaiddokaa", sum := "9252dbd0b790b478e06dc0809dbd4eacc98679ccbddefa47b017c7776d55ff8a", func := "semigroup/semigrouplaw11.TransCycles", spec := "transCycles", apart := false }
def TransCyclesSaid : Prop := transCyclesRow.holds Try.pinned (OpenSpec.ofChange transCyclesSpec)

/-- ITS FALSE NEIGHBOUR: 'it returns false'. Refute it at one input. -/
def transCyclesWrong : ChangeSpec := { name := "transCycles", fn := fun _ => fun
  | [d] => { results := [.lit (.bool false)], args := [d] }
  | _ => none }
def TransCyclesWrongFalsely : Prop := transCyclesRow.holds Try.pinned (OpenSpec.ofChange transCyclesWrong)

/-- 'semigrouplaw11.TransRepeats': WHATEVER THE INPUT: true; the input reads as it did. -/
def transRepeatsSpec : ChangeSpec := { name := "transRepeats", fn := fun _ => fun
  | [d1, d2] => { results := [.lit (.bool true)], args := [d1, d2] }
  | _ => none }
def transRepeatsRow : OpenClaim := { program := "ytjegmdkaiddokaa", sum := "9252dbd0b790b478e06dc0809dbd4eacc98679ccbddefa47b017c7776d55ff8a", func := "semigroup/semigrouplaw11.TransRepeats", spec := "transRepeats", apart := false }
def TransRepeatsSaid : Prop := transRepeatsRow.holds Try.pinned (OpenSpec.ofChange transRepeatsSpec)

/-- ITS FALSE NEIGHBOUR: 'it returns false'. Refute it at one input. -/
def transRepeatsWrong : ChangeSpec := { name := "transRepeats", fn := fun _ => fun
  | [d1, d2] => { results := [.lit (.bool false)], args := [d1, d2] }
  | _ => none }
def TransRepeatsWrongFalsely : Prop := transRepeatsRow.holds Try.pinned (OpenSpec.ofChange transRepeatsWrong)

/-- 'semigrouplaw11.TransRuns': WHATEVER THE INPUT: true; the input reads as it did. -/
def transRunsSpec : ChangeSpec := { name := "transRuns", fn := fun _ => fun
  | [d1, d2, d3] => { results := [.lit (.bool true)], args := [d1, d2, d3] }
  | _ => none }
def transRunsRow : OpenClaim := { program := "ytjegmdkaiddokaa", sum := "9252dbd0b790b478e06dc0809dbd4eacc98679ccbddefa47b017c7776d55ff8a", func := "semigroup/semigrouplaw11.TransRuns", spec := "transRuns", apart := false }
def TransRunsSaid : Prop := transRunsRow.holds Try.pinned (OpenSpec.ofChange transRunsSpec)

/-- ITS FALSE NEIGHBOUR: 'it returns false'. Refute it at one input. -/
def transRunsWrong : ChangeSpec := { name := "transRuns", fn := fun _ => fun
  | [d1, d2, d3] => { results := [.lit (.bool false)], args := [d1, d2, d3] }
  | _ => none }
def TransRunsWrongFalsely : Prop := transRunsRow.holds Try.pinned (OpenSpec.ofChange transRunsWrong)

/-- 'semigrouplaw11.TransAssociates': WHATEVER THE INPUT: true; the input reads as it did. -/
def transAssociatesSpec : ChangeSpec := { name := "transAssociates", fn := fun _ => fun
  | [d1, d2, d3] => { results := [.lit (.bool true)], args := [d1, d2, d3] }
  | _ => none }
def transAssociatesRow : OpenClaim := { program := "ytjegmdkaiddokaa", sum := "9252dbd0b790b478e06dc0809dbd4eacc98679ccbddefa47b017c7776d55ff8a", func := "semigroup/semigrouplaw11.TransAssociates", spec := "transAssociates", recurses := true, apart := false }
def TransAssociatesSaid : Prop := transAssociatesRow.holds Try.pinned (OpenSpec.ofChange transAssociatesSpec)

/-- ITS FALSE NEIGHBOUR: 'it returns false'. Refute it at one input. -/
def transAssociatesWrong : ChangeSpec := { name := "transAssociates", fn := fun _ => fun
  | [d1, d2, d3] => { results := [.lit (.bool false)], args := [d1, d2, d3] }
  | _ => none }
def TransAssociatesWrongFalsely : Prop := transAssociatesRow.holds Try.pinned (OpenSpec.ofChange transAssociatesWrong)

/-- 'semigrouplaw11.TransInverts': WHATEVER THE INPUT: true; the input reads as it did. -/
def transInvertsSpec : ChangeSpec := { name := "transInverts", fn := fun _ => fun
  | [d] => { results := [.lit (.bool true)], args := [d] }
  | _ => none }
def transInvertsRow : OpenClaim := { program := "ytjegmdkaiddokaa", sum := "9252dbd0b790b478e06dc0809dbd4eacc98679ccbddefa47b017c7776d55ff8a", func := "semigroup/semigrouplaw11.TransInverts", spec := "transInverts", recurses := true, apart := false }
def TransInvertsSaid : Prop := transInvertsRow.holds Try.pinned (OpenSpec.ofChange transInvertsSpec)

/-- ITS FALSE NEIGHBOUR: 'it returns false'. Refute it at one input. -/
def transInvertsWrong : ChangeSpec := { name := "transInverts", fn := fun _ => fun
  | [d] => { results := [.lit (.bool false)], args := [d] }
  | _ => none }
def TransInvertsWrongFalsely : Prop := transInvertsRow.holds Try.pinned (OpenSpec.ofChange transInvertsWrong)

/-- 'semigrouplaw11.TransShapes': WHATEVER THE INPUT: true; the input reads as it did. -/
def transShapesSpec : ChangeSpec := { name := "transShapes", fn := fun _ => fun
  | [d] => { results := [.lit (.bool true)], args := [d] }
  | _ => none }
def transShapesRow : OpenClaim := { program := "ytjegmdkaiddokaa", sum := "9252dbd0b790b478e06dc0809dbd4eacc98679ccbddefa47b017c7776d55ff8a", func := "semigroup/semigrouplaw11.TransShapes", spec := "transShapes", recurses := true, apart := false }
def TransShapesSaid : Prop := transShapesRow.holds Try.pinned (OpenSpec.ofChange transShapesSpec)

/-- ITS FALSE NEIGHBOUR: 'it returns false'. Refute it at one input. -/
def transShapesWrong : ChangeSpec := { name := "transShapes", fn := fun _ => fun
  | [d] => { results := [.lit (.bool false)], args := [d] }
  | _ => none }
def TransShapesWrongFalsely : Prop := transShapesRow.holds Try.pinned (OpenSpec.ofChange transShapesWrong)

/- THE SECOND FORM. 'bulk': how many values and letters a reading holds, each counted each time it is reached (what is shared counts as often as it is met; a slice's spare places count too). A statement '..UptoSaid' is the law's where the arguments, and the package variables that the reading takes, are together of bulk at most 1048576: NARROWER than '..Said'. Prove '..Said' where nothing that the law and all that it calls make is longer than what came in: it says more and counts as full. Else prove '..UptoSaid'. A law counts once. -/
mutual
def uptoBulk {H : Type} : DataW H → Nat
  | .lit (.string bytes) => bytes.length + 1
  | .lit _ => 1
  | .nil => 1
  | .ptr d => uptoBulk d + 1
  | .slice elems spare => uptoBulkAll elems + uptoBulkAll spare + 1
  | .agg parts => uptoBulkAll parts + 1
  | .iface _ d => uptoBulk d + 1
  | .map entries => uptoBulkEntries entries + 1
  | .held _ => 1
def uptoBulkAll {H : Type} : List (DataW H) → Nat
  | [] => 0
  | d :: r => uptoBulk d + uptoBulkAll r
def uptoBulkEntries {H : Type} : List (Lit × DataW H) → Nat
  | [] => 0
  | x :: r => uptoBulkEntry x + uptoBulkEntries r
def uptoBulkEntry {H : Type} : Lit × DataW H → Nat
  | (.string bytes, d) => bytes.length + uptoBulk d + 1
  | (_, d) => uptoBulk d + 1
 end
def uptoSmall : (H : Type) → List (DataW H) → Bool := fun _ ds => decide (uptoBulkAll ds ≤ 1048576)
def OpenSpec.upto (s : _root_.Go.ChangeSpec) : _root_.Go.OpenSpec := { _root_.Go.OpenSpec.ofChange s with cond := some uptoSmall }

/-- 'semigrouplaw11.TransComposes', WHERE WHAT IT READS IS OF BULK AT MOST 1048576: true; the input reads as it did. -/
def transComposesUptoRow : OpenClaim := { program := "ytjegmdkaiddokaa", sum := "9252dbd0b790b478e06dc0809dbd4eacc98679ccbddefa47b017c7776d55ff8a", func := "semigroup/semigrouplaw11.TransComposes", spec := "transComposes", apart := false, narrowed := true }
def TransComposesUptoSaid : Prop := transComposesUptoRow.holds Try.pinned (OpenSpec.upto transComposesSpec)

/-- 'semigrouplaw11.TransValid', WHERE WHAT IT READS IS OF BULK AT MOST 1048576: true; the input reads as it did. -/
def transValidUptoRow : OpenClaim := { program := "ytjegmdkaiddokaa", sum := "9252dbd0b790b478e06dc0809dbd4eacc98679ccbddefa47b017c7776d55ff8a", func := "semigroup/semigrouplaw11.TransValid", spec := "transValid", apart := false, narrowed := true }
def TransValidUptoSaid : Prop := transValidUptoRow.holds Try.pinned (OpenSpec.upto transValidSpec)

/-- 'semigrouplaw11.TransApplies', WHERE WHAT IT READS IS OF BULK AT MOST 1048576: true; the input reads as it did. -/
def transAppliesUptoRow : OpenClaim := { program := "ytjegmdkaiddokaa", sum := "9252dbd0b790b478e06dc0809dbd4eacc98679ccbddefa47b017c7776d55ff8a", func := "semigroup/semigrouplaw11.TransApplies", spec := "transApplies", apart := false, narrowed := true }
def TransAppliesUptoSaid : Prop := transAppliesUptoRow.holds Try.pinned (OpenSpec.upto transAppliesSpec)

/-- 'semigrouplaw11.TransPowers', WHERE WHAT IT READS IS OF BULK AT MOST 1048576: true; the input reads as it did. -/
def transPowersUptoRow : OpenClaim := { program := "ytjegmdkaiddokaa", sum := "9252dbd0b790b478e06dc0809dbd4eacc98679ccbddefa47b017c7776d55ff8a", func := "semigroup/semigrouplaw11.TransPowers", spec := "transPowers", apart := false, narrowed := true }
def TransPowersUptoSaid : Prop := transPowersUptoRow.holds Try.pinned (OpenSpec.upto transPowersSpec)

/-- 'semigrouplaw11.TransWords', WHERE WHAT IT READS IS OF BULK AT MOST 1048576: true; the input reads as it did. -/
def transWordsUptoRow : OpenClaim := { program := "ytjegmdkaiddokaa", sum := "9252dbd0b790b478e06dc0809dbd4eacc98679ccbddefa47b017c7776d55ff8a", func := "semigroup/semigrouplaw11.TransWords", spec := "transWords", apart := false, narrowed := true }
def TransWordsUptoSaid : Prop := transWordsUptoRow.holds Try.pinned (OpenSpec.upto transWordsSpec)

/-- 'semigrouplaw11.TransLetters', WHERE WHAT IT READS IS OF BULK AT MOST 1048576: true; the input reads as it did. -/
def transLettersUptoRow : OpenClaim := { program := "ytjegmdkaiddokaa", sum := "9252dbd0b790b478e06dc0809dbd4eacc98679ccbddefa47b017c7776d55ff8a", func := "semigroup/semigrouplaw11.TransLetters", spec := "transLetters", apart := false, narrowed := true }
def TransLettersUptoSaid : Prop := transLettersUptoRow.holds Try.pinned (OpenSpec.upto transLettersSpec)

/-- 'semigrouplaw11.TransCycles', WHERE WHAT IT READS IS OF BULK AT MOST 1048576: true; the input reads as it did. -/
def transCyclesUptoRow : OpenClaim := { program := "ytjegmdkaiddokaa", sum := "9252dbd0b790b478e06dc0809dbd4eacc98679ccbddefa47b017c7776d55ff8a", func := "semigroup/semigrouplaw11.TransCycles", spec := "transCycles", apart := false, narrowed := true }
def TransCyclesUptoSaid : Prop := transCyclesUptoRow.holds Try.pinned (OpenSpec.upto transCyclesSpec)

/-- 'semigrouplaw11.TransRepeats', WHERE WHAT IT READS IS OF BULK AT MOST 1048576: true; the input reads as it did. -/
def transRepeatsUptoRow : OpenClaim := { program := "ytjegmdkaiddokaa", sum := "9252dbd0b790b478e06dc0809dbd4eacc98679ccbddefa47b017c7776d55ff8a", func := "semigroup/semigrouplaw11.TransRepeats", spec := "transRepeats", apart := false, narrowed := true }
def TransRepeatsUptoSaid : Prop := transRepeatsUptoRow.holds Try.pinned (OpenSpec.upto transRepeatsSpec)

/-- 'semigrouplaw11.TransRuns', WHERE WHAT IT READS IS OF BULK AT MOST 1048576: true; the input reads as it did. -/
def transRunsUptoRow : OpenClaim := { program := "ytjegmdkaiddokaa", sum := "9252dbd0b790b478e06dc0809dbd4eacc98679ccbddefa47b017c7776d55ff8a", func := "semigroup/semigrouplaw11.TransRuns", spec := "transRuns", apart := false, narrowed := true }
def TransRunsUptoSaid : Prop := transRunsUptoRow.holds Try.pinned (OpenSpec.upto transRunsSpec)

/-- 'semigrouplaw11.TransAssociates', WHERE WHAT IT READS IS OF BULK AT MOST 1048576: true; the input reads as it did. -/
def transAssociatesUptoRow : OpenClaim := { program := "ytjegmdkaiddokaa", sum := "9252dbd0b790b478e06dc0809dbd4eacc98679ccbddefa47b017c7776d55ff8a", func := "semigroup/semigrouplaw11.TransAssociates", spec := "transAssociates", recurses := true, apart := false, narrowed := true }
def TransAssociatesUptoSaid : Prop := transAssociatesUptoRow.holds Try.pinned (OpenSpec.upto transAssociatesSpec)

/-- 'semigrouplaw11.TransInverts', WHERE WHAT IT READS IS OF BULK AT MOST 1048576: true; the input reads as it did. -/
def transInvertsUptoRow : OpenClaim := { program := "ytjegmdkaiddokaa", sum := "9252dbd0b790b478e06dc0809dbd4eacc98679ccbddefa47b017c7776d55ff8a", func := "semigroup/semigrouplaw11.TransInverts", spec := "transInverts", recurses := true, apart := false, narrowed := true }
def TransInvertsUptoSaid : Prop := transInvertsUptoRow.holds Try.pinned (OpenSpec.upto transInvertsSpec)

/-- 'semigrouplaw11.TransShapes', WHERE WHAT IT READS IS OF BULK AT MOST 1048576: true; the input reads as it did. -/
def transShapesUptoRow : OpenClaim := { program := "ytjegmdkaiddokaa", sum := "9252dbd0b790b478e06dc0809dbd4eacc98679ccbddefa47b017c7776d55ff8a", func := "semigroup/semigrouplaw11.TransShapes", spec := "transShapes", recurses := true, apart := false, narrowed := true }
def TransShapesUptoSaid : Prop := transShapesUptoRow.holds Try.pinned (OpenSpec.upto transShapesSpec)

end Rows
end Go.Proofs.Ytjegmdkaiddokaa
