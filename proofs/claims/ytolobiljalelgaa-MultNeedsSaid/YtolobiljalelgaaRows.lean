/-
  No cell of these rows narrows 'for every input' (looked for: loops, veiled, ifaces, maps, wideKeys, modest, calm, conditions, laid).
  DERIVED. THE GIVEN ROWS OF THIS SEAT. 13 by the template 'for every input the law returns true; each argument reads behind the call as it read before'; 0 by the template 'total and deterministic' (their statements: YtolobiljalelgaaTotals.lean).
  GIVEN WITH THE SEED: the statements are not yours to turn. If you find one false, say at which input.
  Laid BY PROGRAM, IN A SANDBOX (cutbox-rows.mjs): the forced cells as the released guide's own fill.sh prints them over the translation 8651fa84e81883d3… (all of the seat's roots in one cut). By AI agents, Wed Nov 11 2026. No macro, syntax, notation, axiom, sorry.
-/
import Derived.Test.YtolobiljalelgaaChecked
import GoSem.Claim
import GoSem.ClaimJoined
import GoSem.ClaimMapViews
import Derived.JoinedTies
import Derived.KernelRfl
namespace Go.Proofs.Ytolobiljalelgaa
/- THE CELL 'sum', in the pinned program and in every row, IS THE sha256 OF THE DUMP (.gsa) THAT YtolobiljalelgaaProg.lean LOADS. Nothing in Lean hashes anything: it is a label: what it is worth is what the hold of that sum in a sandbox is worth. -/
noncomputable def Try.pinned : Pinned := { name := "ytolobiljalelgaa", sum := "8651fa84e81883d3d57e705b8b4dc93f8f1407f48a83cdabb99af06b645bb673", checked := Try.checked }
namespace Rows
def none {H : Type} : Left H := { results := [], args := [] }

/-- 'semigrouplaw14.MultLight': WHATEVER THE INPUT: true; the input reads as it did. -/
def multLightSpec : ChangeSpec := { name := "multLight", fn := fun _ => fun
  | [d1, d2] => { results := [.lit (.bool true)], args := [d1, d2] }
  | _ => none }
def multLightRow : OpenClaim := { program := "ytolobiljalelgaa", sum := "8651fa84e81883d3d57e705b8b4dc93f8f1407f48a83cdabb99af06b645bb673", func := "semigroup/semigrouplaw14.MultLight", spec := "multLight", unfollowed := true, recurses := true, apart := false }
def MultLightSaid : Prop := multLightRow.holds Try.pinned (OpenSpec.ofChange multLightSpec)

/-- ITS FALSE NEIGHBOUR: 'it returns false'. Refute it at one input. -/
def multLightWrong : ChangeSpec := { name := "multLight", fn := fun _ => fun
  | [d1, d2] => { results := [.lit (.bool false)], args := [d1, d2] }
  | _ => none }
def MultLightWrongFalsely : Prop := multLightRow.holds Try.pinned (OpenSpec.ofChange multLightWrong)

/-- 'semigrouplaw14.MultPowers': WHATEVER THE INPUT: true; the input reads as it did. -/
def multPowersSpec : ChangeSpec := { name := "multPowers", fn := fun _ => fun
  | [d1, d2, d3] => { results := [.lit (.bool true)], args := [d1, d2, d3] }
  | _ => none }
def multPowersRow : OpenClaim := { program := "ytolobiljalelgaa", sum := "8651fa84e81883d3d57e705b8b4dc93f8f1407f48a83cdabb99af06b645bb673", func := "semigroup/semigrouplaw14.MultPowers", spec := "multPowers", unfollowed := true, recurses := true, apart := false }
def MultPowersSaid : Prop := multPowersRow.holds Try.pinned (OpenSpec.ofChange multPowersSpec)

/-- ITS FALSE NEIGHBOUR: 'it returns false'. Refute it at one input. -/
def multPowersWrong : ChangeSpec := { name := "multPowers", fn := fun _ => fun
  | [d1, d2, d3] => { results := [.lit (.bool false)], args := [d1, d2, d3] }
  | _ => none }
def MultPowersWrongFalsely : Prop := multPowersRow.holds Try.pinned (OpenSpec.ofChange multPowersWrong)

/-- 'semigrouplaw14.MultExponents': WHATEVER THE INPUT: true; the input reads as it did. -/
def multExponentsSpec : ChangeSpec := { name := "multExponents", fn := fun _ => fun
  | [d1, d2, d3, d4] => { results := [.lit (.bool true)], args := [d1, d2, d3, d4] }
  | _ => none }
def multExponentsRow : OpenClaim := { program := "ytolobiljalelgaa", sum := "8651fa84e81883d3d57e705b8b4dc93f8f1407f48a83cdabb99af06b645bb673", func := "semigroup/semigrouplaw14.MultExponents", spec := "multExponents", unfollowed := true, recurses := true, apart := false }
def MultExponentsSaid : Prop := multExponentsRow.holds Try.pinned (OpenSpec.ofChange multExponentsSpec)

/-- ITS FALSE NEIGHBOUR: 'it returns false'. Refute it at one input. -/
def multExponentsWrong : ChangeSpec := { name := "multExponents", fn := fun _ => fun
  | [d1, d2, d3, d4] => { results := [.lit (.bool false)], args := [d1, d2, d3, d4] }
  | _ => none }
def MultExponentsWrongFalsely : Prop := multExponentsRow.holds Try.pinned (OpenSpec.ofChange multExponentsWrong)

/-- 'semigrouplaw14.MultValidates': WHATEVER THE INPUT: true; the input reads as it did. -/
def multValidatesSpec : ChangeSpec := { name := "multValidates", fn := fun _ => fun
  | [d] => { results := [.lit (.bool true)], args := [d] }
  | _ => none }
def multValidatesRow : OpenClaim := { program := "ytolobiljalelgaa", sum := "8651fa84e81883d3d57e705b8b4dc93f8f1407f48a83cdabb99af06b645bb673", func := "semigroup/semigrouplaw14.MultValidates", spec := "multValidates", unfollowed := true, recurses := true, apart := false }
def MultValidatesSaid : Prop := multValidatesRow.holds Try.pinned (OpenSpec.ofChange multValidatesSpec)

/-- ITS FALSE NEIGHBOUR: 'it returns false'. Refute it at one input. -/
def multValidatesWrong : ChangeSpec := { name := "multValidates", fn := fun _ => fun
  | [d] => { results := [.lit (.bool false)], args := [d] }
  | _ => none }
def MultValidatesWrongFalsely : Prop := multValidatesRow.holds Try.pinned (OpenSpec.ofChange multValidatesWrong)

/-- 'semigrouplaw14.MultLimits': WHATEVER THE INPUT: true; the input reads as it did. -/
def multLimitsSpec : ChangeSpec := { name := "multLimits", fn := fun _ => fun
  | [d1, d2] => { results := [.lit (.bool true)], args := [d1, d2] }
  | _ => none }
def multLimitsRow : OpenClaim := { program := "ytolobiljalelgaa", sum := "8651fa84e81883d3d57e705b8b4dc93f8f1407f48a83cdabb99af06b645bb673", func := "semigroup/semigrouplaw14.MultLimits", spec := "multLimits", unfollowed := true, recurses := true, apart := false }
def MultLimitsSaid : Prop := multLimitsRow.holds Try.pinned (OpenSpec.ofChange multLimitsSpec)

/-- ITS FALSE NEIGHBOUR: 'it returns false'. Refute it at one input. -/
def multLimitsWrong : ChangeSpec := { name := "multLimits", fn := fun _ => fun
  | [d1, d2] => { results := [.lit (.bool false)], args := [d1, d2] }
  | _ => none }
def MultLimitsWrongFalsely : Prop := multLimitsRow.holds Try.pinned (OpenSpec.ofChange multLimitsWrong)

/-- 'semigrouplaw14.MultSpecial': WHATEVER THE INPUT: true; the input reads as it did. -/
def multSpecialSpec : ChangeSpec := { name := "multSpecial", fn := fun _ => fun
  | [d] => { results := [.lit (.bool true)], args := [d] }
  | _ => none }
def multSpecialRow : OpenClaim := { program := "ytolobiljalelgaa", sum := "8651fa84e81883d3d57e705b8b4dc93f8f1407f48a83cdabb99af06b645bb673", func := "semigroup/semigrouplaw14.MultSpecial", spec := "multSpecial", unfollowed := true, recurses := true, apart := false }
def MultSpecialSaid : Prop := multSpecialRow.holds Try.pinned (OpenSpec.ofChange multSpecialSpec)

/-- ITS FALSE NEIGHBOUR: 'it returns false'. Refute it at one input. -/
def multSpecialWrong : ChangeSpec := { name := "multSpecial", fn := fun _ => fun
  | [d] => { results := [.lit (.bool false)], args := [d] }
  | _ => none }
def MultSpecialWrongFalsely : Prop := multSpecialRow.holds Try.pinned (OpenSpec.ofChange multSpecialWrong)

/-- 'semigrouplaw14.MultValues': WHATEVER THE INPUT: true; the input reads as it did. -/
def multValuesSpec : ChangeSpec := { name := "multValues", fn := fun _ => fun
  | [d1, d2, d3, d4] => { results := [.lit (.bool true)], args := [d1, d2, d3, d4] }
  | _ => none }
def multValuesRow : OpenClaim := { program := "ytolobiljalelgaa", sum := "8651fa84e81883d3d57e705b8b4dc93f8f1407f48a83cdabb99af06b645bb673", func := "semigroup/semigrouplaw14.MultValues", spec := "multValues", unfollowed := true, recurses := true, apart := false }
def MultValuesSaid : Prop := multValuesRow.holds Try.pinned (OpenSpec.ofChange multValuesSpec)

/-- ITS FALSE NEIGHBOUR: 'it returns false'. Refute it at one input. -/
def multValuesWrong : ChangeSpec := { name := "multValues", fn := fun _ => fun
  | [d1, d2, d3, d4] => { results := [.lit (.bool false)], args := [d1, d2, d3, d4] }
  | _ => none }
def MultValuesWrongFalsely : Prop := multValuesRow.holds Try.pinned (OpenSpec.ofChange multValuesWrong)

/-- 'semigrouplaw14.MultMakes': WHATEVER THE INPUT: true; the input reads as it did. -/
def multMakesSpec : ChangeSpec := { name := "multMakes", fn := fun _ => fun
  | [d1, d2] => { results := [.lit (.bool true)], args := [d1, d2] }
  | _ => none }
def multMakesRow : OpenClaim := { program := "ytolobiljalelgaa", sum := "8651fa84e81883d3d57e705b8b4dc93f8f1407f48a83cdabb99af06b645bb673", func := "semigroup/semigrouplaw14.MultMakes", spec := "multMakes", unfollowed := true, recurses := true, apart := false }
def MultMakesSaid : Prop := multMakesRow.holds Try.pinned (OpenSpec.ofChange multMakesSpec)

/-- ITS FALSE NEIGHBOUR: 'it returns false'. Refute it at one input. -/
def multMakesWrong : ChangeSpec := { name := "multMakes", fn := fun _ => fun
  | [d1, d2] => { results := [.lit (.bool false)], args := [d1, d2] }
  | _ => none }
def MultMakesWrongFalsely : Prop := multMakesRow.holds Try.pinned (OpenSpec.ofChange multMakesWrong)

/-- 'semigrouplaw14.MultInherits': WHATEVER THE INPUT: true; the input reads as it did. -/
def multInheritsSpec : ChangeSpec := { name := "multInherits", fn := fun _ => fun
  | [d1, d2] => { results := [.lit (.bool true)], args := [d1, d2] }
  | _ => none }
def multInheritsRow : OpenClaim := { program := "ytolobiljalelgaa", sum := "8651fa84e81883d3d57e705b8b4dc93f8f1407f48a83cdabb99af06b645bb673", func := "semigroup/semigrouplaw14.MultInherits", spec := "multInherits", unfollowed := true, recurses := true, apart := false }
def MultInheritsSaid : Prop := multInheritsRow.holds Try.pinned (OpenSpec.ofChange multInheritsSpec)

/-- ITS FALSE NEIGHBOUR: 'it returns false'. Refute it at one input. -/
def multInheritsWrong : ChangeSpec := { name := "multInherits", fn := fun _ => fun
  | [d1, d2] => { results := [.lit (.bool false)], args := [d1, d2] }
  | _ => none }
def MultInheritsWrongFalsely : Prop := multInheritsRow.holds Try.pinned (OpenSpec.ofChange multInheritsWrong)

/-- 'semigrouplaw14.MultBasis': WHATEVER THE INPUT: true; the input reads as it did. -/
def multBasisSpec : ChangeSpec := { name := "multBasis", fn := fun _ => fun
  | [d] => { results := [.lit (.bool true)], args := [d] }
  | _ => none }
def multBasisRow : OpenClaim := { program := "ytolobiljalelgaa", sum := "8651fa84e81883d3d57e705b8b4dc93f8f1407f48a83cdabb99af06b645bb673", func := "semigroup/semigrouplaw14.MultBasis", spec := "multBasis", unfollowed := true, recurses := true, apart := false }
def MultBasisSaid : Prop := multBasisRow.holds Try.pinned (OpenSpec.ofChange multBasisSpec)

/-- ITS FALSE NEIGHBOUR: 'it returns false'. Refute it at one input. -/
def multBasisWrong : ChangeSpec := { name := "multBasis", fn := fun _ => fun
  | [d] => { results := [.lit (.bool false)], args := [d] }
  | _ => none }
def MultBasisWrongFalsely : Prop := multBasisRow.holds Try.pinned (OpenSpec.ofChange multBasisWrong)

/-- 'semigrouplaw14.MultGenerates': WHATEVER THE INPUT: true; the input reads as it did. -/
def multGeneratesSpec : ChangeSpec := { name := "multGenerates", fn := fun _ => fun
  | [d1, d2, d3] => { results := [.lit (.bool true)], args := [d1, d2, d3] }
  | _ => none }
def multGeneratesRow : OpenClaim := { program := "ytolobiljalelgaa", sum := "8651fa84e81883d3d57e705b8b4dc93f8f1407f48a83cdabb99af06b645bb673", func := "semigroup/semigrouplaw14.MultGenerates", spec := "multGenerates", unfollowed := true, recurses := true, apart := false }
def MultGeneratesSaid : Prop := multGeneratesRow.holds Try.pinned (OpenSpec.ofChange multGeneratesSpec)

/-- ITS FALSE NEIGHBOUR: 'it returns false'. Refute it at one input. -/
def multGeneratesWrong : ChangeSpec := { name := "multGenerates", fn := fun _ => fun
  | [d1, d2, d3] => { results := [.lit (.bool false)], args := [d1, d2, d3] }
  | _ => none }
def MultGeneratesWrongFalsely : Prop := multGeneratesRow.holds Try.pinned (OpenSpec.ofChange multGeneratesWrong)

/-- 'semigrouplaw14.MultCloses': WHATEVER THE INPUT: true; the input reads as it did. -/
def multClosesSpec : ChangeSpec := { name := "multCloses", fn := fun _ => fun
  | [d1, d2, d3] => { results := [.lit (.bool true)], args := [d1, d2, d3] }
  | _ => none }
def multClosesRow : OpenClaim := { program := "ytolobiljalelgaa", sum := "8651fa84e81883d3d57e705b8b4dc93f8f1407f48a83cdabb99af06b645bb673", func := "semigroup/semigrouplaw14.MultCloses", spec := "multCloses", unfollowed := true, recurses := true, apart := false }
def MultClosesSaid : Prop := multClosesRow.holds Try.pinned (OpenSpec.ofChange multClosesSpec)

/-- ITS FALSE NEIGHBOUR: 'it returns false'. Refute it at one input. -/
def multClosesWrong : ChangeSpec := { name := "multCloses", fn := fun _ => fun
  | [d1, d2, d3] => { results := [.lit (.bool false)], args := [d1, d2, d3] }
  | _ => none }
def MultClosesWrongFalsely : Prop := multClosesRow.holds Try.pinned (OpenSpec.ofChange multClosesWrong)

/-- 'semigrouplaw14.MultNeeds': WHATEVER THE INPUT: true; the input reads as it did. -/
def multNeedsSpec : ChangeSpec := { name := "multNeeds", fn := fun _ => fun
  | [d1, d2] => { results := [.lit (.bool true)], args := [d1, d2] }
  | _ => none }
def multNeedsRow : OpenClaim := { program := "ytolobiljalelgaa", sum := "8651fa84e81883d3d57e705b8b4dc93f8f1407f48a83cdabb99af06b645bb673", func := "semigroup/semigrouplaw14.MultNeeds", spec := "multNeeds", unfollowed := true, recurses := true, apart := false }
def MultNeedsSaid : Prop := multNeedsRow.holds Try.pinned (OpenSpec.ofChange multNeedsSpec)

/-- ITS FALSE NEIGHBOUR: 'it returns false'. Refute it at one input. -/
def multNeedsWrong : ChangeSpec := { name := "multNeeds", fn := fun _ => fun
  | [d1, d2] => { results := [.lit (.bool false)], args := [d1, d2] }
  | _ => none }
def MultNeedsWrongFalsely : Prop := multNeedsRow.holds Try.pinned (OpenSpec.ofChange multNeedsWrong)

/- THE SECOND FORM. 'bulk': how many values and letters a reading holds, each counted each time it is reached (what is shared counts as often as it is met; a slice's spare places count too). A statement '..UptoSaid' is the law's where the arguments, and the package variables that the reading takes, are together of bulk at most 1048576: NARROWER than '..Said'. Prove '..Said' where nothing that the law and all that it calls make is longer than what came in: it says more and counts as full. Else prove '..UptoSaid'. A law counts once. -/
mutual
def uptoBulk {H : Type} : DataW H → Nat
  | .lit (.string bytes) => bytes.length + 1
  | .lit _ => 1
  | .nil => 1
  | .ptr d => uptoBulk d + 1
  | .slice elems spare => uptoBulkAll elems + uptoBulkAll spare + 1
  | .agg parts => uptoBulkAll parts + 1
  | .iface _ d => uptoBulk d + 1
  | .map entries => uptoBulkEntries entries + 1
  | .held _ => 1
def uptoBulkAll {H : Type} : List (DataW H) → Nat
  | [] => 0
  | d :: r => uptoBulk d + uptoBulkAll r
def uptoBulkEntries {H : Type} : List (Lit × DataW H) → Nat
  | [] => 0
  | x :: r => uptoBulkEntry x + uptoBulkEntries r
def uptoBulkEntry {H : Type} : Lit × DataW H → Nat
  | (.string bytes, d) => bytes.length + uptoBulk d + 1
  | (_, d) => uptoBulk d + 1
 end
def uptoSmall : (H : Type) → List (DataW H) → Bool := fun _ ds => decide (uptoBulkAll ds ≤ 1048576)
def OpenSpec.upto (s : _root_.Go.ChangeSpec) : _root_.Go.OpenSpec := { _root_.Go.OpenSpec.ofChange s with cond := some uptoSmall }

/-- 'semigrouplaw14.MultLight', WHERE WHAT IT READS IS OF BULK AT MOST 1048576: true; the input reads as it did. -/
def multLightUptoRow : OpenClaim := { program := "ytolobiljalelgaa", sum := "8651fa84e81883d3d57e705b8b4dc93f8f1407f48a83cdabb99af06b645bb673", func := "semigroup/semigrouplaw14.MultLight", spec := "multLight", unfollowed := true, recurses := true, apart := false, narrowed := true }
def MultLightUptoSaid : Prop := multLightUptoRow.holds Try.pinned (OpenSpec.upto multLightSpec)

/-- 'semigrouplaw14.MultPowers', WHERE WHAT IT READS IS OF BULK AT MOST 1048576: true; the input reads as it did. -/
def multPowersUptoRow : OpenClaim := { program := "ytolobiljalelgaa", sum := "8651fa84e81883d3d57e705b8b4dc93f8f1407f48a83cdabb99af06b645bb673", func := "semigroup/semigrouplaw14.MultPowers", spec := "multPowers", unfollowed := true, recurses := true, apart := false, narrowed := true }
def MultPowersUptoSaid : Prop := multPowersUptoRow.holds Try.pinned (OpenSpec.upto multPowersSpec)

/-- 'semigrouplaw14.MultExponents', WHERE WHAT IT READS IS OF BULK AT MOST 1048576: true; the input reads as it did. -/
def multExponentsUptoRow : OpenClaim := { program := "ytolobiljalelgaa", sum := "8651fa84e81883d3d57e705b8b4dc93f8f1407f48a83cdabb99af06b645bb673", func := "semigroup/semigrouplaw14.MultExponents", spec := "multExponents", unfollowed := true, recurses := true, apart := false, narrowed := true }
def MultExponentsUptoSaid : Prop := multExponentsUptoRow.holds Try.pinned (OpenSpec.upto multExponentsSpec)

/-- 'semigrouplaw14.MultValidates', WHERE WHAT IT READS IS OF BULK AT MOST 1048576: true; the input reads as it did. -/
def multValidatesUptoRow : OpenClaim := { program := "ytolobiljalelgaa", sum := "8651fa84e81883d3d57e705b8b4dc93f8f1407f48a83cdabb99af06b645bb673", func := "semigroup/semigrouplaw14.MultValidates", spec := "multValidates", unfollowed := true, recurses := true, apart := false, narrowed := true }
def MultValidatesUptoSaid : Prop := multValidatesUptoRow.holds Try.pinned (OpenSpec.upto multValidatesSpec)

/-- 'semigrouplaw14.MultLimits', WHERE WHAT IT READS IS OF BULK AT MOST 1048576: true; the input reads as it did. -/
def multLimitsUptoRow : OpenClaim := { program := "ytolobiljalelgaa", sum := "8651fa84e81883d3d57e705b8b4dc93f8f1407f48a83cdabb99af06b645bb673", func := "semigroup/semigrouplaw14.MultLimits", spec := "multLimits", unfollowed := true, recurses := true, apart := false, narrowed := true }
def MultLimitsUptoSaid : Prop := multLimitsUptoRow.holds Try.pinned (OpenSpec.upto multLimitsSpec)

/-- 'semigrouplaw14.MultSpecial', WHERE WHAT IT READS IS OF BULK AT MOST 1048576: true; the input reads as it did. -/
def multSpecialUptoRow : OpenClaim := { program := "ytolobiljalelgaa", sum := "8651fa84e81883d3d57e705b8b4dc93f8f1407f48a83cdabb99af06b645bb673", func := "semigroup/semigrouplaw14.MultSpecial", spec := "multSpecial", unfollowed := true, recurses := true, apart := false, narrowed := true }
def MultSpecialUptoSaid : Prop := multSpecialUptoRow.holds Try.pinned (OpenSpec.upto multSpecialSpec)

/-- 'semigrouplaw14.MultValues', WHERE WHAT IT READS IS OF BULK AT MOST 1048576: true; the input reads as it did. -/
def multValuesUptoRow : OpenClaim := { program := "ytolobiljalelgaa", sum := "8651fa84e81883d3d57e705b8b4dc93f8f1407f48a83cdabb99af06b645bb673", func := "semigroup/semigrouplaw14.MultValues", spec := "multValues", unfollowed := true, recurses := true, apart := false, narrowed := true }
def MultValuesUptoSaid : Prop := multValuesUptoRow.holds Try.pinned (OpenSpec.upto multValuesSpec)

/-- 'semigrouplaw14.MultMakes', WHERE WHAT IT READS IS OF BULK AT MOST 1048576: true; the input reads as it did. -/
def multMakesUptoRow : OpenClaim := { program := "ytolobiljalelgaa", sum := "8651fa84e81883d3d57e705b8b4dc93f8f1407f48a83cdabb99af06b645bb673", func := "semigroup/semigrouplaw14.MultMakes", spec := "multMakes", unfollowed := true, recurses := true, apart := false, narrowed := true }
def MultMakesUptoSaid : Prop := multMakesUptoRow.holds Try.pinned (OpenSpec.upto multMakesSpec)

/-- 'semigrouplaw14.MultInherits', WHERE WHAT IT READS IS OF BULK AT MOST 1048576: true; the input reads as it did. -/
def multInheritsUptoRow : OpenClaim := { program := "ytolobiljalelgaa", sum := "8651fa84e81883d3d57e705b8b4dc93f8f1407f48a83cdabb99af06b645bb673", func := "semigroup/semigrouplaw14.MultInherits", spec := "multInherits", unfollowed := true, recurses := true, apart := false, narrowed := true }
def MultInheritsUptoSaid : Prop := multInheritsUptoRow.holds Try.pinned (OpenSpec.upto multInheritsSpec)

/-- 'semigrouplaw14.MultBasis', WHERE WHAT IT READS IS OF BULK AT MOST 1048576: true; the input reads as it did. -/
def multBasisUptoRow : OpenClaim := { program := "ytolobiljalelgaa", sum := "8651fa84e81883d3d57e705b8b4dc93f8f1407f48a83cdabb99af06b645bb673", func := "semigroup/semigrouplaw14.MultBasis", spec := "multBasis", unfollowed := true, recurses := true, apart := false, narrowed := true }
def MultBasisUptoSaid : Prop := multBasisUptoRow.holds Try.pinned (OpenSpec.upto multBasisSpec)

/-- 'semigrouplaw14.MultGenerates', WHERE WHAT IT READS IS OF BULK AT MOST 1048576: true; the input reads as it did. -/
def multGeneratesUptoRow : OpenClaim := { program := "ytolobiljalelgaa", sum := "8651fa84e81883d3d57e705b8b4dc93f8f1407f48a83cdabb99af06b645bb673", func := "semigroup/semigrouplaw14.MultGenerates", spec := "multGenerates", unfollowed := true, recurses := true, apart := false, narrowed := true }
def MultGeneratesUptoSaid : Prop := multGeneratesUptoRow.holds Try.pinned (OpenSpec.upto multGeneratesSpec)

/-- 'semigrouplaw14.MultCloses', WHERE WHAT IT READS IS OF BULK AT MOST 1048576: true; the input reads as it did. -/
def multClosesUptoRow : OpenClaim := { program := "ytolobiljalelgaa", sum := "8651fa84e81883d3d57e705b8b4dc93f8f1407f48a83cdabb99af06b645bb673", func := "semigroup/semigrouplaw14.MultCloses", spec := "multCloses", unfollowed := true, recurses := true, apart := false, narrowed := true }
def MultClosesUptoSaid : Prop := multClosesUptoRow.holds Try.pinned (OpenSpec.upto multClosesSpec)

/-- 'semigrouplaw14.MultNeeds', WHERE WHAT IT READS IS OF BULK AT MOST 1048576: true; the input reads as it did. -/
def multNeedsUptoRow : OpenClaim := { program := "ytolobiljalelgaa", sum := "8651fa84e81883d3d57e705b8b4dc93f8f1407f48a83cdabb99af06b645bb673", func := "semigroup/semigrouplaw14.MultNeeds", spec := "multNeeds", unfollowed := true, recurses := true, apart := false, narrowed := true }
def MultNeedsUptoSaid : Prop := multNeedsUptoRow.holds Try.pinned (OpenSpec.upto multNeedsSpec)

end Rows
end Go.Proofs.Ytolobiljalelgaa
