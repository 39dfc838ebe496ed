/-
  No cell of these rows narrows 'for every input' (looked for: loops, veiled, ifaces, maps, wideKeys, modest, calm, conditions, laid).
  DERIVED. THE GIVEN ROWS OF THIS SEAT. 13 by the template 'for every input the law returns true; each argument reads behind the call as it read before'; 0 by the template 'total and deterministic' (their statements: YtlneebpmblkllaaTotals.lean).
  GIVEN WITH THE SEED: the statements are not yours to turn. If you find one false, say at which input.
  Laid BY PROGRAM, IN A SANDBOX (cutbox-rows.mjs): the forced cells as the released guide's own fill.sh prints them over the translation 87c1cee4ee066ee8… (all of the seat's roots in one cut). By AI agents, Wed Nov 11 2026. No macro, syntax, notation, axiom, sorry.
-/
import Derived.Test.YtlneebpmblkllaaChecked
import GoSem.Claim
import GoSem.ClaimJoined
import GoSem.ClaimMapViews
import Derived.JoinedTies
import Derived.KernelRfl
namespace Go.Proofs.Ytlneebpmblkllaa
/- THE CELL 'sum', in the pinned program and in every row, IS THE sha256 OF THE DUMP (.gsa) THAT YtlneebpmblkllaaProg.lean LOADS. Nothing in Lean hashes anything: it is a label: what it is worth is what the hold of that sum in a sandbox is worth. -/
noncomputable def Try.pinned : Pinned := { name := "ytlneebpmblkllaa", sum := "87c1cee4ee066ee835c04f3c1fedda2453407d042ca2d2e5d3e929f4fea70d11", checked := Try.checked }
namespace Rows
def none {H : Type} : Left H := { results := [], args := [] }

/-- 'semigrouplaw21.SyntacticMonoids': WHATEVER THE INPUT: true; the input reads as it did. -/
def syntacticMonoidsSpec : ChangeSpec := { name := "syntacticMonoids", fn := fun _ => fun
  | [d] => { results := [.lit (.bool true)], args := [d] }
  | _ => none }
def syntacticMonoidsRow : OpenClaim := { program := "ytlneebpmblkllaa", sum := "87c1cee4ee066ee835c04f3c1fedda2453407d042ca2d2e5d3e929f4fea70d11", func := "semigroup/semigrouplaw21.SyntacticMonoids", spec := "syntacticMonoids", unfollowed := true, recurses := true, plainKeys := false, apart := false }
def SyntacticMonoidsSaid : Prop := syntacticMonoidsRow.holds Try.pinned (OpenSpec.ofChange syntacticMonoidsSpec)

/-- ITS FALSE NEIGHBOUR: 'it returns false'. Refute it at one input. -/
def syntacticMonoidsWrong : ChangeSpec := { name := "syntacticMonoids", fn := fun _ => fun
  | [d] => { results := [.lit (.bool false)], args := [d] }
  | _ => none }
def SyntacticMonoidsWrongFalsely : Prop := syntacticMonoidsRow.holds Try.pinned (OpenSpec.ofChange syntacticMonoidsWrong)

/-- 'semigrouplaw21.SyntacticMinimal': WHATEVER THE INPUT: true; the input reads as it did. -/
def syntacticMinimalSpec : ChangeSpec := { name := "syntacticMinimal", fn := fun _ => fun
  | [d] => { results := [.lit (.bool true)], args := [d] }
  | _ => none }
def syntacticMinimalRow : OpenClaim := { program := "ytlneebpmblkllaa", sum := "87c1cee4ee066ee835c04f3c1fedda2453407d042ca2d2e5d3e929f4fea70d11", func := "semigroup/semigrouplaw21.SyntacticMinimal", spec := "syntacticMinimal", unfollowed := true, recurses := true, plainKeys := false, apart := false }
def SyntacticMinimalSaid : Prop := syntacticMinimalRow.holds Try.pinned (OpenSpec.ofChange syntacticMinimalSpec)

/-- ITS FALSE NEIGHBOUR: 'it returns false'. Refute it at one input. -/
def syntacticMinimalWrong : ChangeSpec := { name := "syntacticMinimal", fn := fun _ => fun
  | [d] => { results := [.lit (.bool false)], args := [d] }
  | _ => none }
def SyntacticMinimalWrongFalsely : Prop := syntacticMinimalRow.holds Try.pinned (OpenSpec.ofChange syntacticMinimalWrong)

/-- 'semigrouplaw21.SyntacticJoint': WHATEVER THE INPUT: true; the input reads as it did. -/
def syntacticJointSpec : ChangeSpec := { name := "syntacticJoint", fn := fun _ => fun
  | [d] => { results := [.lit (.bool true)], args := [d] }
  | _ => none }
def syntacticJointRow : OpenClaim := { program := "ytlneebpmblkllaa", sum := "87c1cee4ee066ee835c04f3c1fedda2453407d042ca2d2e5d3e929f4fea70d11", func := "semigroup/semigrouplaw21.SyntacticJoint", spec := "syntacticJoint", unfollowed := true, recurses := true, plainKeys := false, apart := false }
def SyntacticJointSaid : Prop := syntacticJointRow.holds Try.pinned (OpenSpec.ofChange syntacticJointSpec)

/-- ITS FALSE NEIGHBOUR: 'it returns false'. Refute it at one input. -/
def syntacticJointWrong : ChangeSpec := { name := "syntacticJoint", fn := fun _ => fun
  | [d] => { results := [.lit (.bool false)], args := [d] }
  | _ => none }
def SyntacticJointWrongFalsely : Prop := syntacticJointRow.holds Try.pinned (OpenSpec.ofChange syntacticJointWrong)

/-- 'semigrouplaw21.SyntacticRefuses': WHATEVER THE INPUT: true; the input reads as it did. -/
def syntacticRefusesSpec : ChangeSpec := { name := "syntacticRefuses", fn := fun _ => fun
  | [d1, d2, d3, d4] => { results := [.lit (.bool true)], args := [d1, d2, d3, d4] }
  | _ => none }
def syntacticRefusesRow : OpenClaim := { program := "ytlneebpmblkllaa", sum := "87c1cee4ee066ee835c04f3c1fedda2453407d042ca2d2e5d3e929f4fea70d11", func := "semigroup/semigrouplaw21.SyntacticRefuses", spec := "syntacticRefuses", unfollowed := true, recurses := true, plainKeys := false, apart := false }
def SyntacticRefusesSaid : Prop := syntacticRefusesRow.holds Try.pinned (OpenSpec.ofChange syntacticRefusesSpec)

/-- ITS FALSE NEIGHBOUR: 'it returns false'. Refute it at one input. -/
def syntacticRefusesWrong : ChangeSpec := { name := "syntacticRefuses", fn := fun _ => fun
  | [d1, d2, d3, d4] => { results := [.lit (.bool false)], args := [d1, d2, d3, d4] }
  | _ => none }
def SyntacticRefusesWrongFalsely : Prop := syntacticRefusesRow.holds Try.pinned (OpenSpec.ofChange syntacticRefusesWrong)

/-- 'semigrouplaw21.SyntacticStable': WHATEVER THE INPUT: true; the input reads as it did. -/
def syntacticStableSpec : ChangeSpec := { name := "syntacticStable", fn := fun _ => fun
  | [d1, d2, d3, d4] => { results := [.lit (.bool true)], args := [d1, d2, d3, d4] }
  | _ => none }
def syntacticStableRow : OpenClaim := { program := "ytlneebpmblkllaa", sum := "87c1cee4ee066ee835c04f3c1fedda2453407d042ca2d2e5d3e929f4fea70d11", func := "semigroup/semigrouplaw21.SyntacticStable", spec := "syntacticStable", unfollowed := true, recurses := true, plainKeys := false, apart := false }
def SyntacticStableSaid : Prop := syntacticStableRow.holds Try.pinned (OpenSpec.ofChange syntacticStableSpec)

/-- ITS FALSE NEIGHBOUR: 'it returns false'. Refute it at one input. -/
def syntacticStableWrong : ChangeSpec := { name := "syntacticStable", fn := fun _ => fun
  | [d1, d2, d3, d4] => { results := [.lit (.bool false)], args := [d1, d2, d3, d4] }
  | _ => none }
def SyntacticStableWrongFalsely : Prop := syntacticStableRow.holds Try.pinned (OpenSpec.ofChange syntacticStableWrong)

/-- 'semigrouplaw21.SyntacticOrders': WHATEVER THE INPUT: true; the input reads as it did. -/
def syntacticOrdersSpec : ChangeSpec := { name := "syntacticOrders", fn := fun _ => fun
  | [d1, d2, d3] => { results := [.lit (.bool true)], args := [d1, d2, d3] }
  | _ => none }
def syntacticOrdersRow : OpenClaim := { program := "ytlneebpmblkllaa", sum := "87c1cee4ee066ee835c04f3c1fedda2453407d042ca2d2e5d3e929f4fea70d11", func := "semigroup/semigrouplaw21.SyntacticOrders", spec := "syntacticOrders", unfollowed := true, recurses := true, plainKeys := false, apart := false }
def SyntacticOrdersSaid : Prop := syntacticOrdersRow.holds Try.pinned (OpenSpec.ofChange syntacticOrdersSpec)

/-- ITS FALSE NEIGHBOUR: 'it returns false'. Refute it at one input. -/
def syntacticOrdersWrong : ChangeSpec := { name := "syntacticOrders", fn := fun _ => fun
  | [d1, d2, d3] => { results := [.lit (.bool false)], args := [d1, d2, d3] }
  | _ => none }
def SyntacticOrdersWrongFalsely : Prop := syntacticOrdersRow.holds Try.pinned (OpenSpec.ofChange syntacticOrdersWrong)

/-- 'semigrouplaw21.SyntacticSeparates': WHATEVER THE INPUT: true; the input reads as it did. -/
def syntacticSeparatesSpec : ChangeSpec := { name := "syntacticSeparates", fn := fun _ => fun
  | [d1, d2, d3] => { results := [.lit (.bool true)], args := [d1, d2, d3] }
  | _ => none }
def syntacticSeparatesRow : OpenClaim := { program := "ytlneebpmblkllaa", sum := "87c1cee4ee066ee835c04f3c1fedda2453407d042ca2d2e5d3e929f4fea70d11", func := "semigroup/semigrouplaw21.SyntacticSeparates", spec := "syntacticSeparates", unfollowed := true, recurses := true, plainKeys := false, apart := false }
def SyntacticSeparatesSaid : Prop := syntacticSeparatesRow.holds Try.pinned (OpenSpec.ofChange syntacticSeparatesSpec)

/-- ITS FALSE NEIGHBOUR: 'it returns false'. Refute it at one input. -/
def syntacticSeparatesWrong : ChangeSpec := { name := "syntacticSeparates", fn := fun _ => fun
  | [d1, d2, d3] => { results := [.lit (.bool false)], args := [d1, d2, d3] }
  | _ => none }
def SyntacticSeparatesWrongFalsely : Prop := syntacticSeparatesRow.holds Try.pinned (OpenSpec.ofChange syntacticSeparatesWrong)

/-- 'semigrouplaw21.SyntacticValues': WHATEVER THE INPUT: true; the input reads as it did. -/
def syntacticValuesSpec : ChangeSpec := { name := "syntacticValues", fn := fun _ => fun
  | [d1, d2] => { results := [.lit (.bool true)], args := [d1, d2] }
  | _ => none }
def syntacticValuesRow : OpenClaim := { program := "ytlneebpmblkllaa", sum := "87c1cee4ee066ee835c04f3c1fedda2453407d042ca2d2e5d3e929f4fea70d11", func := "semigroup/semigrouplaw21.SyntacticValues", spec := "syntacticValues", unfollowed := true, recurses := true, plainKeys := false, apart := false }
def SyntacticValuesSaid : Prop := syntacticValuesRow.holds Try.pinned (OpenSpec.ofChange syntacticValuesSpec)

/-- ITS FALSE NEIGHBOUR: 'it returns false'. Refute it at one input. -/
def syntacticValuesWrong : ChangeSpec := { name := "syntacticValues", fn := fun _ => fun
  | [d1, d2] => { results := [.lit (.bool false)], args := [d1, d2] }
  | _ => none }
def SyntacticValuesWrongFalsely : Prop := syntacticValuesRow.holds Try.pinned (OpenSpec.ofChange syntacticValuesWrong)

/-- 'semigrouplaw21.SyntacticContexts': WHATEVER THE INPUT: true; the input reads as it did. -/
def syntacticContextsSpec : ChangeSpec := { name := "syntacticContexts", fn := fun _ => fun
  | [d1, d2, d3, d4, d5] => { results := [.lit (.bool true)], args := [d1, d2, d3, d4, d5] }
  | _ => none }
def syntacticContextsRow : OpenClaim := { program := "ytlneebpmblkllaa", sum := "87c1cee4ee066ee835c04f3c1fedda2453407d042ca2d2e5d3e929f4fea70d11", func := "semigroup/semigrouplaw21.SyntacticContexts", spec := "syntacticContexts", unfollowed := true, recurses := true, plainKeys := false, apart := false }
def SyntacticContextsSaid : Prop := syntacticContextsRow.holds Try.pinned (OpenSpec.ofChange syntacticContextsSpec)

/-- ITS FALSE NEIGHBOUR: 'it returns false'. Refute it at one input. -/
def syntacticContextsWrong : ChangeSpec := { name := "syntacticContexts", fn := fun _ => fun
  | [d1, d2, d3, d4, d5] => { results := [.lit (.bool false)], args := [d1, d2, d3, d4, d5] }
  | _ => none }
def SyntacticContextsWrongFalsely : Prop := syntacticContextsRow.holds Try.pinned (OpenSpec.ofChange syntacticContextsWrong)

/-- 'semigrouplaw21.SyntacticAutomata': WHATEVER THE INPUT: true; the input reads as it did. -/
def syntacticAutomataSpec : ChangeSpec := { name := "syntacticAutomata", fn := fun _ => fun
  | [d1, d2] => { results := [.lit (.bool true)], args := [d1, d2] }
  | _ => none }
def syntacticAutomataRow : OpenClaim := { program := "ytlneebpmblkllaa", sum := "87c1cee4ee066ee835c04f3c1fedda2453407d042ca2d2e5d3e929f4fea70d11", func := "semigroup/semigrouplaw21.SyntacticAutomata", spec := "syntacticAutomata", unfollowed := true, recurses := true, plainKeys := false, apart := false }
def SyntacticAutomataSaid : Prop := syntacticAutomataRow.holds Try.pinned (OpenSpec.ofChange syntacticAutomataSpec)

/-- ITS FALSE NEIGHBOUR: 'it returns false'. Refute it at one input. -/
def syntacticAutomataWrong : ChangeSpec := { name := "syntacticAutomata", fn := fun _ => fun
  | [d1, d2] => { results := [.lit (.bool false)], args := [d1, d2] }
  | _ => none }
def SyntacticAutomataWrongFalsely : Prop := syntacticAutomataRow.holds Try.pinned (OpenSpec.ofChange syntacticAutomataWrong)

/-- 'semigrouplaw21.SyntacticReduced': WHATEVER THE INPUT: true; the input reads as it did. -/
def syntacticReducedSpec : ChangeSpec := { name := "syntacticReduced", fn := fun _ => fun
  | [d] => { results := [.lit (.bool true)], args := [d] }
  | _ => none }
def syntacticReducedRow : OpenClaim := { program := "ytlneebpmblkllaa", sum := "87c1cee4ee066ee835c04f3c1fedda2453407d042ca2d2e5d3e929f4fea70d11", func := "semigroup/semigrouplaw21.SyntacticReduced", spec := "syntacticReduced", unfollowed := true, recurses := true, plainKeys := false, apart := false }
def SyntacticReducedSaid : Prop := syntacticReducedRow.holds Try.pinned (OpenSpec.ofChange syntacticReducedSpec)

/-- ITS FALSE NEIGHBOUR: 'it returns false'. Refute it at one input. -/
def syntacticReducedWrong : ChangeSpec := { name := "syntacticReduced", fn := fun _ => fun
  | [d] => { results := [.lit (.bool false)], args := [d] }
  | _ => none }
def SyntacticReducedWrongFalsely : Prop := syntacticReducedRow.holds Try.pinned (OpenSpec.ofChange syntacticReducedWrong)

/-- 'semigrouplaw21.SyntacticCommon': WHATEVER THE INPUT: true; the input reads as it did. -/
def syntacticCommonSpec : ChangeSpec := { name := "syntacticCommon", fn := fun _ => fun
  | [d1, d2, d3, d4] => { results := [.lit (.bool true)], args := [d1, d2, d3, d4] }
  | _ => none }
def syntacticCommonRow : OpenClaim := { program := "ytlneebpmblkllaa", sum := "87c1cee4ee066ee835c04f3c1fedda2453407d042ca2d2e5d3e929f4fea70d11", func := "semigroup/semigrouplaw21.SyntacticCommon", spec := "syntacticCommon", unfollowed := true, recurses := true, plainKeys := false, apart := false }
def SyntacticCommonSaid : Prop := syntacticCommonRow.holds Try.pinned (OpenSpec.ofChange syntacticCommonSpec)

/-- ITS FALSE NEIGHBOUR: 'it returns false'. Refute it at one input. -/
def syntacticCommonWrong : ChangeSpec := { name := "syntacticCommon", fn := fun _ => fun
  | [d1, d2, d3, d4] => { results := [.lit (.bool false)], args := [d1, d2, d3, d4] }
  | _ => none }
def SyntacticCommonWrongFalsely : Prop := syntacticCommonRow.holds Try.pinned (OpenSpec.ofChange syntacticCommonWrong)

/-- 'semigrouplaw21.SyntacticMultiplies': WHATEVER THE INPUT: true; the input reads as it did. -/
def syntacticMultipliesSpec : ChangeSpec := { name := "syntacticMultiplies", fn := fun _ => fun
  | [d1, d2, d3] => { results := [.lit (.bool true)], args := [d1, d2, d3] }
  | _ => none }
def syntacticMultipliesRow : OpenClaim := { program := "ytlneebpmblkllaa", sum := "87c1cee4ee066ee835c04f3c1fedda2453407d042ca2d2e5d3e929f4fea70d11", func := "semigroup/semigrouplaw21.SyntacticMultiplies", spec := "syntacticMultiplies", unfollowed := true, recurses := true, plainKeys := false, apart := false }
def SyntacticMultipliesSaid : Prop := syntacticMultipliesRow.holds Try.pinned (OpenSpec.ofChange syntacticMultipliesSpec)

/-- ITS FALSE NEIGHBOUR: 'it returns false'. Refute it at one input. -/
def syntacticMultipliesWrong : ChangeSpec := { name := "syntacticMultiplies", fn := fun _ => fun
  | [d1, d2, d3] => { results := [.lit (.bool false)], args := [d1, d2, d3] }
  | _ => none }
def SyntacticMultipliesWrongFalsely : Prop := syntacticMultipliesRow.holds Try.pinned (OpenSpec.ofChange syntacticMultipliesWrong)

/- THE SECOND FORM. 'bulk': how many values and letters a reading holds, each counted each time it is reached (what is shared counts as often as it is met; a slice's spare places count too). A statement '..UptoSaid' is the law's where the arguments, and the package variables that the reading takes, are together of bulk at most 1048576: NARROWER than '..Said'. Prove '..Said' where nothing that the law and all that it calls make is longer than what came in: it says more and counts as full. Else prove '..UptoSaid'. A law counts once. -/
mutual
def uptoBulk {H : Type} : DataW H → Nat
  | .lit (.string bytes) => bytes.length + 1
  | .lit _ => 1
  | .nil => 1
  | .ptr d => uptoBulk d + 1
  | .slice elems spare => uptoBulkAll elems + uptoBulkAll spare + 1
  | .agg parts => uptoBulkAll parts + 1
  | .iface _ d => uptoBulk d + 1
  | .map entries => uptoBulkEntries entries + 1
  | .held _ => 1
def uptoBulkAll {H : Type} : List (DataW H) → Nat
  | [] => 0
  | d :: r => uptoBulk d + uptoBulkAll r
def uptoBulkEntries {H : Type} : List (Lit × DataW H) → Nat
  | [] => 0
  | x :: r => uptoBulkEntry x + uptoBulkEntries r
def uptoBulkEntry {H : Type} : Lit × DataW H → Nat
  | (.string bytes, d) => bytes.length + uptoBulk d + 1
  | (_, d) => uptoBulk d + 1
 end
def uptoSmall : (H : Type) → List (DataW H) → Bool := fun _ ds => decide (uptoBulkAll ds ≤ 1048576)
def OpenSpec.upto (s : _root_.Go.ChangeSpec) : _root_.Go.OpenSpec := { _root_.Go.OpenSpec.ofChange s with cond := some uptoSmall }

/-- 'semigrouplaw21.SyntacticMonoids', WHERE WHAT IT READS IS OF BULK AT MOST 1048576: true; the input reads as it did. -/
def syntacticMonoidsUptoRow : OpenClaim := { program := "ytlneebpmblkllaa", sum := "87c1cee4ee066ee835c04f3c1fedda2453407d042ca2d2e5d3e929f4fea70d11", func := "semigroup/semigrouplaw21.SyntacticMonoids", spec := "syntacticMonoids", unfollowed := true, recurses := true, plainKeys := false, apart := false, narrowed := true }
def SyntacticMonoidsUptoSaid : Prop := syntacticMonoidsUptoRow.holds Try.pinned (OpenSpec.upto syntacticMonoidsSpec)

/-- 'semigrouplaw21.SyntacticMinimal', WHERE WHAT IT READS IS OF BULK AT MOST 1048576: true; the input reads as it did. -/
def syntacticMinimalUptoRow : OpenClaim := { program := "ytlneebpmblkllaa", sum := "87c1cee4ee066ee835c04f3c1fedda2453407d042ca2d2e5d3e929f4fea70d11", func := "semigroup/semigrouplaw21.SyntacticMinimal", spec := "syntacticMinimal", unfollowed := true, recurses := true, plainKeys := false, apart := false, narrowed := true }
def SyntacticMinimalUptoSaid : Prop := syntacticMinimalUptoRow.holds Try.pinned (OpenSpec.upto syntacticMinimalSpec)

/-- 'semigrouplaw21.SyntacticJoint', WHERE WHAT IT READS IS OF BULK AT MOST 1048576: true; the input reads as it did. -/
def syntacticJointUptoRow : OpenClaim := { program := "ytlneebpmblkllaa", sum := "87c1cee4ee066ee835c04f3c1fedda2453407d042ca2d2e5d3e929f4fea70d11", func := "semigroup/semigrouplaw21.SyntacticJoint", spec := "syntacticJoint", unfollowed := true, recurses := true, plainKeys := false, apart := false, narrowed := true }
def SyntacticJointUptoSaid : Prop := syntacticJointUptoRow.holds Try.pinned (OpenSpec.upto syntacticJointSpec)

/-- 'semigrouplaw21.SyntacticRefuses', WHERE WHAT IT READS IS OF BULK AT MOST 1048576: true; the input reads as it did. -/
def syntacticRefusesUptoRow : OpenClaim := { program := "ytlneebpmblkllaa", sum := "87c1cee4ee066ee835c04f3c1fedda2453407d042ca2d2e5d3e929f4fea70d11", func := "semigroup/semigrouplaw21.SyntacticRefuses", spec := "syntacticRefuses", unfollowed := true, recurses := true, plainKeys := false, apart := false, narrowed := true }
def SyntacticRefusesUptoSaid : Prop := syntacticRefusesUptoRow.holds Try.pinned (OpenSpec.upto syntacticRefusesSpec)

/-- 'semigrouplaw21.SyntacticStable', WHERE WHAT IT READS IS OF BULK AT MOST 1048576: true; the input reads as it did. -/
def syntacticStableUptoRow : OpenClaim := { program := "ytlneebpmblkllaa", sum := "87c1cee4ee066ee835c04f3c1fedda2453407d042ca2d2e5d3e929f4fea70d11", func := "semigroup/semigrouplaw21.SyntacticStable", spec := "syntacticStable", unfollowed := true, recurses := true, plainKeys := false, apart := false, narrowed := true }
def SyntacticStableUptoSaid : Prop := syntacticStableUptoRow.holds Try.pinned (OpenSpec.upto syntacticStableSpec)

/-- 'semigrouplaw21.SyntacticOrders', WHERE WHAT IT READS IS OF BULK AT MOST 1048576: true; the input reads as it did. -/
def syntacticOrdersUptoRow : OpenClaim := { program := "ytlneebpmblkllaa", sum := "87c1cee4ee066ee835c04f3c1fedda2453407d042ca2d2e5d3e929f4fea70d11", func := "semigroup/semigrouplaw21.SyntacticOrders", spec := "syntacticOrders", unfollowed := true, recurses := true, plainKeys := false, apart := false, narrowed := true }
def SyntacticOrdersUptoSaid : Prop := syntacticOrdersUptoRow.holds Try.pinned (OpenSpec.upto syntacticOrdersSpec)

/-- 'semigrouplaw21.SyntacticSeparates', WHERE WHAT IT READS IS OF BULK AT MOST 1048576: true; the input reads as it did. -/
def syntacticSeparatesUptoRow : OpenClaim := { program := "ytlneebpmblkllaa", sum := "87c1cee4ee066ee835c04f3c1fedda2453407d042ca2d2e5d3e929f4fea70d11", func := "semigroup/semigrouplaw21.SyntacticSeparates", spec := "syntacticSeparates", unfollowed := true, recurses := true, plainKeys := false, apart := false, narrowed := true }
def SyntacticSeparatesUptoSaid : Prop := syntacticSeparatesUptoRow.holds Try.pinned (OpenSpec.upto syntacticSeparatesSpec)

/-- 'semigrouplaw21.SyntacticValues', WHERE WHAT IT READS IS OF BULK AT MOST 1048576: true; the input reads as it did. -/
def syntacticValuesUptoRow : OpenClaim := { program := "ytlneebpmblkllaa", sum := "87c1cee4ee066ee835c04f3c1fedda2453407d042ca2d2e5d3e929f4fea70d11", func := "semigroup/semigrouplaw21.SyntacticValues", spec := "syntacticValues", unfollowed := true, recurses := true, plainKeys := false, apart := false, narrowed := true }
def SyntacticValuesUptoSaid : Prop := syntacticValuesUptoRow.holds Try.pinned (OpenSpec.upto syntacticValuesSpec)

/-- 'semigrouplaw21.SyntacticContexts', WHERE WHAT IT READS IS OF BULK AT MOST 1048576: true; the input reads as it did. -/
def syntacticContextsUptoRow : OpenClaim := { program := "ytlneebpmblkllaa", sum := "87c1cee4ee066ee835c04f3c1fedda2453407d042ca2d2e5d3e929f4fea70d11", func := "semigroup/semigrouplaw21.SyntacticContexts", spec := "syntacticContexts", unfollowed := true, recurses := true, plainKeys := false, apart := false, narrowed := true }
def SyntacticContextsUptoSaid : Prop := syntacticContextsUptoRow.holds Try.pinned (OpenSpec.upto syntacticContextsSpec)

/-- 'semigrouplaw21.SyntacticAutomata', WHERE WHAT IT READS IS OF BULK AT MOST 1048576: true; the input reads as it did. -/
def syntacticAutomataUptoRow : OpenClaim := { program := "ytlneebpmblkllaa", sum := "87c1cee4ee066ee835c04f3c1fedda2453407d042ca2d2e5d3e929f4fea70d11", func := "semigroup/semigrouplaw21.SyntacticAutomata", spec := "syntacticAutomata", unfollowed := true, recurses := true, plainKeys := false, apart := false, narrowed := true }
def SyntacticAutomataUptoSaid : Prop := syntacticAutomataUptoRow.holds Try.pinned (OpenSpec.upto syntacticAutomataSpec)

/-- 'semigrouplaw21.SyntacticReduced', WHERE WHAT IT READS IS OF BULK AT MOST 1048576: true; the input reads as it did. -/
def syntacticReducedUptoRow : OpenClaim := { program := "ytlneebpmblkllaa", sum := "87c1cee4ee066ee835c04f3c1fedda2453407d042ca2d2e5d3e929f4fea70d11", func := "semigroup/semigrouplaw21.SyntacticReduced", spec := "syntacticReduced", unfollowed := true, recurses := true, plainKeys := false, apart := false, narrowed := true }
def SyntacticReducedUptoSaid : Prop := syntacticReducedUptoRow.holds Try.pinned (OpenSpec.upto syntacticReducedSpec)

/-- 'semigrouplaw21.SyntacticCommon', WHERE WHAT IT READS IS OF BULK AT MOST 1048576: true; the input reads as it did. -/
def syntacticCommonUptoRow : OpenClaim := { program := "ytlneebpmblkllaa", sum := "87c1cee4ee066ee835c04f3c1fedda2453407d042ca2d2e5d3e929f4fea70d11", func := "semigroup/semigrouplaw21.SyntacticCommon", spec := "syntacticCommon", unfollowed := true, recurses := true, plainKeys := false, apart := false, narrowed := true }
def SyntacticCommonUptoSaid : Prop := syntacticCommonUptoRow.holds Try.pinned (OpenSpec.upto syntacticCommonSpec)

/-- 'semigrouplaw21.SyntacticMultiplies', WHERE WHAT IT READS IS OF BULK AT MOST 1048576: true; the input reads as it did. -/
def syntacticMultipliesUptoRow : OpenClaim := { program := "ytlneebpmblkllaa", sum := "87c1cee4ee066ee835c04f3c1fedda2453407d042ca2d2e5d3e929f4fea70d11", func := "semigroup/semigrouplaw21.SyntacticMultiplies", spec := "syntacticMultiplies", unfollowed := true, recurses := true, plainKeys := false, apart := false, narrowed := true }
def SyntacticMultipliesUptoSaid : Prop := syntacticMultipliesUptoRow.holds Try.pinned (OpenSpec.upto syntacticMultipliesSpec)

end Rows
end Go.Proofs.Ytlneebpmblkllaa
