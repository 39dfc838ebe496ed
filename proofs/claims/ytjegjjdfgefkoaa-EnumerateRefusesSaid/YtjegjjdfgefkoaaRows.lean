/-
  No cell of these rows narrows 'for every input' (looked for: loops, veiled, ifaces, maps, wideKeys, modest, calm, conditions, laid).
  DERIVED. THE GIVEN ROWS OF THIS SEAT. 11 by the template 'for every input the law returns true; each argument reads behind the call as it read before'; 0 by the template 'total and deterministic' (their statements: YtjegjjdfgefkoaaTotals.lean).
  GIVEN WITH THE SEED: the statements are not yours to turn. If you find one false, say at which input.
  Laid BY PROGRAM, IN A SANDBOX (cutbox-rows.mjs): the forced cells as the released guide's own fill.sh prints them over the translation 171d3b368a4c3a2a… (all of the seat's roots in one cut). By AI agents, Wed Nov 11 2026. No macro, syntax, notation, axiom, sorry.
-/
import Derived.Test.YtjegjjdfgefkoaaChecked
import GoSem.Claim
import GoSem.ClaimJoined
import GoSem.ClaimMapViews
import Derived.JoinedTies
import Derived.KernelRfl
namespace Go.Proofs.Ytjegjjdfgefkoaa
/- THE CELL 'sum', in the pinned program and in every row, IS THE sha256 OF THE DUMP (.gsa) THAT YtjegjjdfgefkoaaProg.lean LOADS. Nothing in Lean hashes anything: it is a label: what it is worth is what the hold of that sum in a sandbox is worth. -/
noncomputable def Try.pinned : Pinned := { name := "ytjegjjdfgefkoaa", sum := "171d3b368a4c3a2a4288a54da57fabbb972122bc5ea23141ddd844ee942675ac", checked := Try.checked }
namespace Rows
def none {H : Type} : Left H := { results := [], args := [] }

/-- 'semigrouplaw12.EnumerateBuilds': WHATEVER THE INPUT: true; the input reads as it did. -/
def enumerateBuildsSpec : ChangeSpec := { name := "enumerateBuilds", fn := fun _ => fun
  | [d1, d2] => { results := [.lit (.bool true)], args := [d1, d2] }
  | _ => none }
def enumerateBuildsRow : OpenClaim := { program := "ytjegjjdfgefkoaa", sum := "171d3b368a4c3a2a4288a54da57fabbb972122bc5ea23141ddd844ee942675ac", func := "semigroup/semigrouplaw12.EnumerateBuilds", spec := "enumerateBuilds", unfollowed := true, recurses := true, apart := false }
def EnumerateBuildsSaid : Prop := enumerateBuildsRow.holds Try.pinned (OpenSpec.ofChange enumerateBuildsSpec)

/-- ITS FALSE NEIGHBOUR: 'it returns false'. Refute it at one input. -/
def enumerateBuildsWrong : ChangeSpec := { name := "enumerateBuilds", fn := fun _ => fun
  | [d1, d2] => { results := [.lit (.bool false)], args := [d1, d2] }
  | _ => none }
def EnumerateBuildsWrongFalsely : Prop := enumerateBuildsRow.holds Try.pinned (OpenSpec.ofChange enumerateBuildsWrong)

/-- 'semigrouplaw12.EnumerateRefuses': WHATEVER THE INPUT: true; the input reads as it did. -/
def enumerateRefusesSpec : ChangeSpec := { name := "enumerateRefuses", fn := fun _ => fun
  | [d1, d2, d3, d4, d5, d6, d7] => { results := [.lit (.bool true)], args := [d1, d2, d3, d4, d5, d6, d7] }
  | _ => none }
def enumerateRefusesRow : OpenClaim := { program := "ytjegjjdfgefkoaa", sum := "171d3b368a4c3a2a4288a54da57fabbb972122bc5ea23141ddd844ee942675ac", func := "semigroup/semigrouplaw12.EnumerateRefuses", spec := "enumerateRefuses", unfollowed := true, recurses := true, apart := false }
def EnumerateRefusesSaid : Prop := enumerateRefusesRow.holds Try.pinned (OpenSpec.ofChange enumerateRefusesSpec)

/-- ITS FALSE NEIGHBOUR: 'it returns false'. Refute it at one input. -/
def enumerateRefusesWrong : ChangeSpec := { name := "enumerateRefuses", fn := fun _ => fun
  | [d1, d2, d3, d4, d5, d6, d7] => { results := [.lit (.bool false)], args := [d1, d2, d3, d4, d5, d6, d7] }
  | _ => none }
def EnumerateRefusesWrongFalsely : Prop := enumerateRefusesRow.holds Try.pinned (OpenSpec.ofChange enumerateRefusesWrong)

/-- 'semigrouplaw12.EnumerateStarts': WHATEVER THE INPUT: true; the input reads as it did. -/
def enumerateStartsSpec : ChangeSpec := { name := "enumerateStarts", fn := fun _ => fun
  | [d1, d2] => { results := [.lit (.bool true)], args := [d1, d2] }
  | _ => none }
def enumerateStartsRow : OpenClaim := { program := "ytjegjjdfgefkoaa", sum := "171d3b368a4c3a2a4288a54da57fabbb972122bc5ea23141ddd844ee942675ac", func := "semigroup/semigrouplaw12.EnumerateStarts", spec := "enumerateStarts", unfollowed := true, recurses := true, apart := false }
def EnumerateStartsSaid : Prop := enumerateStartsRow.holds Try.pinned (OpenSpec.ofChange enumerateStartsSpec)

/-- ITS FALSE NEIGHBOUR: 'it returns false'. Refute it at one input. -/
def enumerateStartsWrong : ChangeSpec := { name := "enumerateStarts", fn := fun _ => fun
  | [d1, d2] => { results := [.lit (.bool false)], args := [d1, d2] }
  | _ => none }
def EnumerateStartsWrongFalsely : Prop := enumerateStartsRow.holds Try.pinned (OpenSpec.ofChange enumerateStartsWrong)

/-- 'semigrouplaw12.EnumerateResumes': WHATEVER THE INPUT: true; the input reads as it did. -/
def enumerateResumesSpec : ChangeSpec := { name := "enumerateResumes", fn := fun _ => fun
  | [d1, d2, d3, d4] => { results := [.lit (.bool true)], args := [d1, d2, d3, d4] }
  | _ => none }
def enumerateResumesRow : OpenClaim := { program := "ytjegjjdfgefkoaa", sum := "171d3b368a4c3a2a4288a54da57fabbb972122bc5ea23141ddd844ee942675ac", func := "semigroup/semigrouplaw12.EnumerateResumes", spec := "enumerateResumes", unfollowed := true, recurses := true, apart := false }
def EnumerateResumesSaid : Prop := enumerateResumesRow.holds Try.pinned (OpenSpec.ofChange enumerateResumesSpec)

/-- ITS FALSE NEIGHBOUR: 'it returns false'. Refute it at one input. -/
def enumerateResumesWrong : ChangeSpec := { name := "enumerateResumes", fn := fun _ => fun
  | [d1, d2, d3, d4] => { results := [.lit (.bool false)], args := [d1, d2, d3, d4] }
  | _ => none }
def EnumerateResumesWrongFalsely : Prop := enumerateResumesRow.holds Try.pinned (OpenSpec.ofChange enumerateResumesWrong)

/-- 'semigrouplaw12.EnumerateCovers': WHATEVER THE INPUT: true; the input reads as it did. -/
def enumerateCoversSpec : ChangeSpec := { name := "enumerateCovers", fn := fun _ => fun
  | [d1, d2, d3] => { results := [.lit (.bool true)], args := [d1, d2, d3] }
  | _ => none }
def enumerateCoversRow : OpenClaim := { program := "ytjegjjdfgefkoaa", sum := "171d3b368a4c3a2a4288a54da57fabbb972122bc5ea23141ddd844ee942675ac", func := "semigroup/semigrouplaw12.EnumerateCovers", spec := "enumerateCovers", unfollowed := true, recurses := true, apart := false }
def EnumerateCoversSaid : Prop := enumerateCoversRow.holds Try.pinned (OpenSpec.ofChange enumerateCoversSpec)

/-- ITS FALSE NEIGHBOUR: 'it returns false'. Refute it at one input. -/
def enumerateCoversWrong : ChangeSpec := { name := "enumerateCovers", fn := fun _ => fun
  | [d1, d2, d3] => { results := [.lit (.bool false)], args := [d1, d2, d3] }
  | _ => none }
def EnumerateCoversWrongFalsely : Prop := enumerateCoversRow.holds Try.pinned (OpenSpec.ofChange enumerateCoversWrong)

/-- 'semigrouplaw12.EnumerateSteps': WHATEVER THE INPUT: true; the input reads as it did. -/
def enumerateStepsSpec : ChangeSpec := { name := "enumerateSteps", fn := fun _ => fun
  | [d1, d2, d3] => { results := [.lit (.bool true)], args := [d1, d2, d3] }
  | _ => none }
def enumerateStepsRow : OpenClaim := { program := "ytjegjjdfgefkoaa", sum := "171d3b368a4c3a2a4288a54da57fabbb972122bc5ea23141ddd844ee942675ac", func := "semigroup/semigrouplaw12.EnumerateSteps", spec := "enumerateSteps", unfollowed := true, recurses := true, apart := false }
def EnumerateStepsSaid : Prop := enumerateStepsRow.holds Try.pinned (OpenSpec.ofChange enumerateStepsSpec)

/-- ITS FALSE NEIGHBOUR: 'it returns false'. Refute it at one input. -/
def enumerateStepsWrong : ChangeSpec := { name := "enumerateSteps", fn := fun _ => fun
  | [d1, d2, d3] => { results := [.lit (.bool false)], args := [d1, d2, d3] }
  | _ => none }
def EnumerateStepsWrongFalsely : Prop := enumerateStepsRow.holds Try.pinned (OpenSpec.ofChange enumerateStepsWrong)

/-- 'semigrouplaw12.EnumerateRules': WHATEVER THE INPUT: true; the input reads as it did. -/
def enumerateRulesSpec : ChangeSpec := { name := "enumerateRules", fn := fun _ => fun
  | [d1, d2] => { results := [.lit (.bool true)], args := [d1, d2] }
  | _ => none }
def enumerateRulesRow : OpenClaim := { program := "ytjegjjdfgefkoaa", sum := "171d3b368a4c3a2a4288a54da57fabbb972122bc5ea23141ddd844ee942675ac", func := "semigroup/semigrouplaw12.EnumerateRules", spec := "enumerateRules", unfollowed := true, recurses := true, apart := false }
def EnumerateRulesSaid : Prop := enumerateRulesRow.holds Try.pinned (OpenSpec.ofChange enumerateRulesSpec)

/-- ITS FALSE NEIGHBOUR: 'it returns false'. Refute it at one input. -/
def enumerateRulesWrong : ChangeSpec := { name := "enumerateRules", fn := fun _ => fun
  | [d1, d2] => { results := [.lit (.bool false)], args := [d1, d2] }
  | _ => none }
def EnumerateRulesWrongFalsely : Prop := enumerateRulesRow.holds Try.pinned (OpenSpec.ofChange enumerateRulesWrong)

/-- 'semigrouplaw12.EnumerateActs': WHATEVER THE INPUT: true; the input reads as it did. -/
def enumerateActsSpec : ChangeSpec := { name := "enumerateActs", fn := fun _ => fun
  | [d1, d2, d3, d4] => { results := [.lit (.bool true)], args := [d1, d2, d3, d4] }
  | _ => none }
def enumerateActsRow : OpenClaim := { program := "ytjegjjdfgefkoaa", sum := "171d3b368a4c3a2a4288a54da57fabbb972122bc5ea23141ddd844ee942675ac", func := "semigroup/semigrouplaw12.EnumerateActs", spec := "enumerateActs", unfollowed := true, recurses := true, apart := false }
def EnumerateActsSaid : Prop := enumerateActsRow.holds Try.pinned (OpenSpec.ofChange enumerateActsSpec)

/-- ITS FALSE NEIGHBOUR: 'it returns false'. Refute it at one input. -/
def enumerateActsWrong : ChangeSpec := { name := "enumerateActs", fn := fun _ => fun
  | [d1, d2, d3, d4] => { results := [.lit (.bool false)], args := [d1, d2, d3, d4] }
  | _ => none }
def EnumerateActsWrongFalsely : Prop := enumerateActsRow.holds Try.pinned (OpenSpec.ofChange enumerateActsWrong)

/-- 'semigrouplaw12.EnumerateLooks': WHATEVER THE INPUT: true; the input reads as it did. -/
def enumerateLooksSpec : ChangeSpec := { name := "enumerateLooks", fn := fun _ => fun
  | [d1, d2, d3, d4, d5, d6, d7] => { results := [.lit (.bool true)], args := [d1, d2, d3, d4, d5, d6, d7] }
  | _ => none }
def enumerateLooksRow : OpenClaim := { program := "ytjegjjdfgefkoaa", sum := "171d3b368a4c3a2a4288a54da57fabbb972122bc5ea23141ddd844ee942675ac", func := "semigroup/semigrouplaw12.EnumerateLooks", spec := "enumerateLooks", unfollowed := true, recurses := true, apart := false }
def EnumerateLooksSaid : Prop := enumerateLooksRow.holds Try.pinned (OpenSpec.ofChange enumerateLooksSpec)

/-- ITS FALSE NEIGHBOUR: 'it returns false'. Refute it at one input. -/
def enumerateLooksWrong : ChangeSpec := { name := "enumerateLooks", fn := fun _ => fun
  | [d1, d2, d3, d4, d5, d6, d7] => { results := [.lit (.bool false)], args := [d1, d2, d3, d4, d5, d6, d7] }
  | _ => none }
def EnumerateLooksWrongFalsely : Prop := enumerateLooksRow.holds Try.pinned (OpenSpec.ofChange enumerateLooksWrong)

/-- 'semigrouplaw12.EnumerateTables': WHATEVER THE INPUT: true; the input reads as it did. -/
def enumerateTablesSpec : ChangeSpec := { name := "enumerateTables", fn := fun _ => fun
  | [d1, d2, d3] => { results := [.lit (.bool true)], args := [d1, d2, d3] }
  | _ => none }
def enumerateTablesRow : OpenClaim := { program := "ytjegjjdfgefkoaa", sum := "171d3b368a4c3a2a4288a54da57fabbb972122bc5ea23141ddd844ee942675ac", func := "semigroup/semigrouplaw12.EnumerateTables", spec := "enumerateTables", unfollowed := true, recurses := true, apart := false }
def EnumerateTablesSaid : Prop := enumerateTablesRow.holds Try.pinned (OpenSpec.ofChange enumerateTablesSpec)

/-- ITS FALSE NEIGHBOUR: 'it returns false'. Refute it at one input. -/
def enumerateTablesWrong : ChangeSpec := { name := "enumerateTables", fn := fun _ => fun
  | [d1, d2, d3] => { results := [.lit (.bool false)], args := [d1, d2, d3] }
  | _ => none }
def EnumerateTablesWrongFalsely : Prop := enumerateTablesRow.holds Try.pinned (OpenSpec.ofChange enumerateTablesWrong)

/-- 'semigrouplaw12.EnumerateLeast': WHATEVER THE INPUT: true; the input reads as it did. -/
def enumerateLeastSpec : ChangeSpec := { name := "enumerateLeast", fn := fun _ => fun
  | [d1, d2, d3] => { results := [.lit (.bool true)], args := [d1, d2, d3] }
  | _ => none }
def enumerateLeastRow : OpenClaim := { program := "ytjegjjdfgefkoaa", sum := "171d3b368a4c3a2a4288a54da57fabbb972122bc5ea23141ddd844ee942675ac", func := "semigroup/semigrouplaw12.EnumerateLeast", spec := "enumerateLeast", unfollowed := true, recurses := true, apart := false }
def EnumerateLeastSaid : Prop := enumerateLeastRow.holds Try.pinned (OpenSpec.ofChange enumerateLeastSpec)

/-- ITS FALSE NEIGHBOUR: 'it returns false'. Refute it at one input. -/
def enumerateLeastWrong : ChangeSpec := { name := "enumerateLeast", fn := fun _ => fun
  | [d1, d2, d3] => { results := [.lit (.bool false)], args := [d1, d2, d3] }
  | _ => none }
def EnumerateLeastWrongFalsely : Prop := enumerateLeastRow.holds Try.pinned (OpenSpec.ofChange enumerateLeastWrong)

/- THE SECOND FORM. 'bulk': how many values and letters a reading holds, each counted each time it is reached (what is shared counts as often as it is met; a slice's spare places count too). A statement '..UptoSaid' is the law's where the arguments, and the package variables that the reading takes, are together of bulk at most 1048576: NARROWER than '..Said'. Prove '..Said' where nothing that the law and all that it calls make is longer than what came in: it says more and counts as full. Else prove '..UptoSaid'. A law counts once. -/
mutual
def uptoBulk {H : Type} : DataW H → Nat
  | .lit (.string bytes) => bytes.length + 1
  | .lit _ => 1
  | .nil => 1
  | .ptr d => uptoBulk d + 1
  | .slice elems spare => uptoBulkAll elems + uptoBulkAll spare + 1
  | .agg parts => uptoBulkAll parts + 1
  | .iface _ d => uptoBulk d + 1
  | .map entries => uptoBulkEntries entries + 1
  | .held _ => 1
def uptoBulkAll {H : Type} : List (DataW H) → Nat
  | [] => 0
  | d :: r => uptoBulk d + uptoBulkAll r
def uptoBulkEntries {H : Type} : List (Lit × DataW H) → Nat
  | [] => 0
  | x :: r => uptoBulkEntry x + uptoBulkEntries r
def uptoBulkEntry {H : Type} : Lit × DataW H → Nat
  | (.string bytes, d) => bytes.length + uptoBulk d + 1
  | (_, d) => uptoBulk d + 1
 end
def uptoSmall : (H : Type) → List (DataW H) → Bool := fun _ ds => decide (uptoBulkAll ds ≤ 1048576)
def OpenSpec.upto (s : _root_.Go.ChangeSpec) : _root_.Go.OpenSpec := { _root_.Go.OpenSpec.ofChange s with cond := some uptoSmall }

/-- 'semigrouplaw12.EnumerateBuilds', WHERE WHAT IT READS IS OF BULK AT MOST 1048576: true; the input reads as it did. -/
def enumerateBuildsUptoRow : OpenClaim := { program := "ytjegjjdfgefkoaa", sum := "171d3b368a4c3a2a4288a54da57fabbb972122bc5ea23141ddd844ee942675ac", func := "semigroup/semigrouplaw12.EnumerateBuilds", spec := "enumerateBuilds", unfollowed := true, recurses := true, apart := false, narrowed := true }
def EnumerateBuildsUptoSaid : Prop := enumerateBuildsUptoRow.holds Try.pinned (OpenSpec.upto enumerateBuildsSpec)

/-- 'semigrouplaw12.EnumerateRefuses', WHERE WHAT IT READS IS OF BULK AT MOST 1048576: true; the input reads as it did. -/
def enumerateRefusesUptoRow : OpenClaim := { program := "ytjegjjdfgefkoaa", sum := "171d3b368a4c3a2a4288a54da57fabbb972122bc5ea23141ddd844ee942675ac", func := "semigroup/semigrouplaw12.EnumerateRefuses", spec := "enumerateRefuses", unfollowed := true, recurses := true, apart := false, narrowed := true }
def EnumerateRefusesUptoSaid : Prop := enumerateRefusesUptoRow.holds Try.pinned (OpenSpec.upto enumerateRefusesSpec)

/-- 'semigrouplaw12.EnumerateStarts', WHERE WHAT IT READS IS OF BULK AT MOST 1048576: true; the input reads as it did. -/
def enumerateStartsUptoRow : OpenClaim := { program := "ytjegjjdfgefkoaa", sum := "171d3b368a4c3a2a4288a54da57fabbb972122bc5ea23141ddd844ee942675ac", func := "semigroup/semigrouplaw12.EnumerateStarts", spec := "enumerateStarts", unfollowed := true, recurses := true, apart := false, narrowed := true }
def EnumerateStartsUptoSaid : Prop := enumerateStartsUptoRow.holds Try.pinned (OpenSpec.upto enumerateStartsSpec)

/-- 'semigrouplaw12.EnumerateResumes', WHERE WHAT IT READS IS OF BULK AT MOST 1048576: true; the input reads as it did. -/
def enumerateResumesUptoRow : OpenClaim := { program := "ytjegjjdfgefkoaa", sum := "171d3b368a4c3a2a4288a54da57fabbb972122bc5ea23141ddd844ee942675ac", func := "semigroup/semigrouplaw12.EnumerateResumes", spec := "enumerateResumes", unfollowed := true, recurses := true, apart := false, narrowed := true }
def EnumerateResumesUptoSaid : Prop := enumerateResumesUptoRow.holds Try.pinned (OpenSpec.upto enumerateResumesSpec)

/-- 'semigrouplaw12.EnumerateCovers', WHERE WHAT IT READS IS OF BULK AT MOST 1048576: true; the input reads as it did. -/
def enumerateCoversUptoRow : OpenClaim := { program := "ytjegjjdfgefkoaa", sum := "171d3b368a4c3a2a4288a54da57fabbb972122bc5ea23141ddd844ee942675ac", func := "semigroup/semigrouplaw12.EnumerateCovers", spec := "enumerateCovers", unfollowed := true, recurses := true, apart := false, narrowed := true }
def EnumerateCoversUptoSaid : Prop := enumerateCoversUptoRow.holds Try.pinned (OpenSpec.upto enumerateCoversSpec)

/-- 'semigrouplaw12.EnumerateSteps', WHERE WHAT IT READS IS OF BULK AT MOST 1048576: true; the input reads as it did. -/
def enumerateStepsUptoRow : OpenClaim := { program := "ytjegjjdfgefkoaa", sum := "171d3b368a4c3a2a4288a54da57fabbb972122bc5ea23141ddd844ee942675ac", func := "semigroup/semigrouplaw12.EnumerateSteps", spec := "enumerateSteps", unfollowed := true, recurses := true, apart := false, narrowed := true }
def EnumerateStepsUptoSaid : Prop := enumerateStepsUptoRow.holds Try.pinned (OpenSpec.upto enumerateStepsSpec)

/-- 'semigrouplaw12.EnumerateRules', WHERE WHAT IT READS IS OF BULK AT MOST 1048576: true; the input reads as it did. -/
def enumerateRulesUptoRow : OpenClaim := { program := "ytjegjjdfgefkoaa", sum := "171d3b368a4c3a2a4288a54da57fabbb972122bc5ea23141ddd844ee942675ac", func := "semigroup/semigrouplaw12.EnumerateRules", spec := "enumerateRules", unfollowed := true, recurses := true, apart := false, narrowed := true }
def EnumerateRulesUptoSaid : Prop := enumerateRulesUptoRow.holds Try.pinned (OpenSpec.upto enumerateRulesSpec)

/-- 'semigrouplaw12.EnumerateActs', WHERE WHAT IT READS IS OF BULK AT MOST 1048576: true; the input reads as it did. -/
def enumerateActsUptoRow : OpenClaim := { program := "ytjegjjdfgefkoaa", sum := "171d3b368a4c3a2a4288a54da57fabbb972122bc5ea23141ddd844ee942675ac", func := "semigroup/semigrouplaw12.EnumerateActs", spec := "enumerateActs", unfollowed := true, recurses := true, apart := false, narrowed := true }
def EnumerateActsUptoSaid : Prop := enumerateActsUptoRow.holds Try.pinned (OpenSpec.upto enumerateActsSpec)

/-- 'semigrouplaw12.EnumerateLooks', WHERE WHAT IT READS IS OF BULK AT MOST 1048576: true; the input reads as it did. -/
def enumerateLooksUptoRow : OpenClaim := { program := "ytjegjjdfgefkoaa", sum := "171d3b368a4c3a2a4288a54da57fabbb972122bc5ea23141ddd844ee942675ac", func := "semigroup/semigrouplaw12.EnumerateLooks", spec := "enumerateLooks", unfollowed := true, recurses := true, apart := false, narrowed := true }
def EnumerateLooksUptoSaid : Prop := enumerateLooksUptoRow.holds Try.pinned (OpenSpec.upto enumerateLooksSpec)

/-- 'semigrouplaw12.EnumerateTables', WHERE WHAT IT READS IS OF BULK AT MOST 1048576: true; the input reads as it did. -/
def enumerateTablesUptoRow : OpenClaim := { program := "ytjegjjdfgefkoaa", sum := "171d3b368a4c3a2a4288a54da57fabbb972122bc5ea23141ddd844ee942675ac", func := "semigroup/semigrouplaw12.EnumerateTables", spec := "enumerateTables", unfollowed := true, recurses := true, apart := false, narrowed := true }
def EnumerateTablesUptoSaid : Prop := enumerateTablesUptoRow.holds Try.pinned (OpenSpec.upto enumerateTablesSpec)

/-- 'semigrouplaw12.EnumerateLeast', WHERE WHAT IT READS IS OF BULK AT MOST 1048576: true; the input reads as it did. -/
def enumerateLeastUptoRow : OpenClaim := { program := "ytjegjjdfgefkoaa", sum := "171d3b368a4c3a2a4288a54da57fabbb972122bc5ea23141ddd844ee942675ac", func := "semigroup/semigrouplaw12.EnumerateLeast", spec := "enumerateLeast", unfollowed := true, recurses := true, apart := false, narrowed := true }
def EnumerateLeastUptoSaid : Prop := enumerateLeastUptoRow.holds Try.pinned (OpenSpec.upto enumerateLeastSpec)

end Rows
end Go.Proofs.Ytjegjjdfgefkoaa
