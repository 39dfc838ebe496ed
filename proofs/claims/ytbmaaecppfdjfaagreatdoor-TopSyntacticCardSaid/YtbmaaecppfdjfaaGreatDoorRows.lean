/-
  NARROWER THAN 'FOR EVERY INPUT', by the rows' own cells (each row's printed sentence says how): TopTransitions: laid · TopQuotients: laid · TopFinite: laid · TopCycles: laid · TopSyntactic: laid · TopRanks: laid · TopGroups: laid.
  DERIVED. THE GIVEN ROWS OF THIS SEAT. 7 by the template 'for every input the law returns true; each argument reads behind the call as it read before'; 0 by the template 'total and deterministic' (their statements: YtbmaaecppfdjfaaGreatDoorTotals.lean).
  GIVEN WITH THE SEED: the statements are not yours to turn. If you find one false, say at which input.
  Laid BY PROGRAM, IN A SANDBOX (cutbox-rows.mjs): the forced cells as the released guide's own fill.sh prints them over the translation 41629ad18e6fceab… (all of the seat's roots in one cut). By AI agents, Wed Nov 11 2026. No macro, syntax, notation, axiom, sorry.
-/
import Derived.Test.YtbmaaecppfdjfaaGreatDoorChecked
import GoSem.Claim
import GoSem.ClaimJoined
import GoSem.ClaimMapViews
import Derived.JoinedTies
import Derived.KernelRfl
namespace Go.Proofs.YtbmaaecppfdjfaaGreatDoor
/- THE CELL 'sum', in the pinned program and in every row, IS THE sha256 OF THE DUMP (.gsa) THAT YtbmaaecppfdjfaaGreatDoorProg.lean LOADS. Nothing in Lean hashes anything: it is a label: what it is worth is what the hold of that sum in a sandbox is worth. -/
noncomputable def Tryz.pinned : Pinned := { name := "ytbmaaecppfdjfaagreatdoor", sum := "41629ad18e6fceab3aca44c3abdf246ecf72487ccc988b018396e3848a524090", checked := Tryz.checked }
namespace Rows
def none {H : Type} : Left H := { results := [], args := [] }

/- WHAT THE LISTED PACKAGE-LEVEL VARIABLES READ AS WHEN THE CALL BEGINS. Each datum BY PROGRAM (the guide's laid-datum.mjs) off the statement by which the dump's own 'gosem.cut.vars' lays the variable. In a bare row this is a premise. The card (YtbmaaecppfdjfaaGreatDoorCards.lean) ties it to the program's text. -/
def laid_math_bits_deBruijn64tab {H : Type} : DataW H := .agg [.lit (.int .u8 0), .lit (.int .u8 1), .lit (.int .u8 56), .lit (.int .u8 2), .lit (.int .u8 57), .lit (.int .u8 49), .lit (.int .u8 28), .lit (.int .u8 3), .lit (.int .u8 61), .lit (.int .u8 58), .lit (.int .u8 42), .lit (.int .u8 50), .lit (.int .u8 38), .lit (.int .u8 29), .lit (.int .u8 17), .lit (.int .u8 4), .lit (.int .u8 62), .lit (.int .u8 47), .lit (.int .u8 59), .lit (.int .u8 36), .lit (.int .u8 45), .lit (.int .u8 43), .lit (.int .u8 51), .lit (.int .u8 22), .lit (.int .u8 53), .lit (.int .u8 39), .lit (.int .u8 33), .lit (.int .u8 30), .lit (.int .u8 24), .lit (.int .u8 18), .lit (.int .u8 12), .lit (.int .u8 5), .lit (.int .u8 63), .lit (.int .u8 55), .lit (.int .u8 48), .lit (.int .u8 27), .lit (.int .u8 60), .lit (.int .u8 41), .lit (.int .u8 37), .lit (.int .u8 16), .lit (.int .u8 46), .lit (.int .u8 35), .lit (.int .u8 44), .lit (.int .u8 21), .lit (.int .u8 52), .lit (.int .u8 32), .lit (.int .u8 23), .lit (.int .u8 11), .lit (.int .u8 54), .lit (.int .u8 26), .lit (.int .u8 40), .lit (.int .u8 15), .lit (.int .u8 34), .lit (.int .u8 20), .lit (.int .u8 31), .lit (.int .u8 10), .lit (.int .u8 25), .lit (.int .u8 14), .lit (.int .u8 19), .lit (.int .u8 9), .lit (.int .u8 13), .lit (.int .u8 8), .lit (.int .u8 7), .lit (.int .u8 6)]

/-- 'semigrouptop.TopTransitions': WHATEVER THE INPUT: true; the input reads as it did. -/
def topTransitionsSpec : ChangeSpec := { name := "topTransitions", fn := fun _ => fun
  | [d1, d2, d3] => { results := [.lit (.bool true)], args := [d1, d2, d3] }
  | _ => none }
def topTransitionsRow : OpenClaim := { program := "ytbmaaecppfdjfaagreatdoor", sum := "41629ad18e6fceab3aca44c3abdf246ecf72487ccc988b018396e3848a524090", func := "semigroup/semigrouptop.TopTransitions", spec := "topTransitions", inPlace := ["internal/abi.NoEscape"], unfollowed := true, recurses := true, named := ["math/bits.deBruijn64tab"], plainKeys := false, apart := false, laid := [("math/bits.deBruijn64tab", laid_math_bits_deBruijn64tab)] }
def TopTransitionsSaid : Prop := topTransitionsRow.holds Tryz.pinned (OpenSpec.ofChange topTransitionsSpec)

/-- ITS FALSE NEIGHBOUR: 'it returns false'. Refute it at one input. -/
def topTransitionsWrong : ChangeSpec := { name := "topTransitions", fn := fun _ => fun
  | [d1, d2, d3] => { results := [.lit (.bool false)], args := [d1, d2, d3] }
  | _ => none }
def TopTransitionsWrongFalsely : Prop := topTransitionsRow.holds Tryz.pinned (OpenSpec.ofChange topTransitionsWrong)

/-- 'semigrouptop.TopQuotients': WHATEVER THE INPUT: true; the input reads as it did. -/
def topQuotientsSpec : ChangeSpec := { name := "topQuotients", fn := fun _ => fun
  | [d1, d2] => { results := [.lit (.bool true)], args := [d1, d2] }
  | _ => none }
def topQuotientsRow : OpenClaim := { program := "ytbmaaecppfdjfaagreatdoor", sum := "41629ad18e6fceab3aca44c3abdf246ecf72487ccc988b018396e3848a524090", func := "semigroup/semigrouptop.TopQuotients", spec := "topQuotients", inPlace := ["internal/abi.NoEscape"], unfollowed := true, recurses := true, named := ["math/bits.deBruijn64tab"], plainKeys := false, apart := false, laid := [("math/bits.deBruijn64tab", laid_math_bits_deBruijn64tab)] }
def TopQuotientsSaid : Prop := topQuotientsRow.holds Tryz.pinned (OpenSpec.ofChange topQuotientsSpec)

/-- ITS FALSE NEIGHBOUR: 'it returns false'. Refute it at one input. -/
def topQuotientsWrong : ChangeSpec := { name := "topQuotients", fn := fun _ => fun
  | [d1, d2] => { results := [.lit (.bool false)], args := [d1, d2] }
  | _ => none }
def TopQuotientsWrongFalsely : Prop := topQuotientsRow.holds Tryz.pinned (OpenSpec.ofChange topQuotientsWrong)

/-- 'semigrouptop.TopFinite': WHATEVER THE INPUT: true; the input reads as it did. -/
def topFiniteSpec : ChangeSpec := { name := "topFinite", fn := fun _ => fun
  | [d1, d2] => { results := [.lit (.bool true)], args := [d1, d2] }
  | _ => none }
def topFiniteRow : OpenClaim := { program := "ytbmaaecppfdjfaagreatdoor", sum := "41629ad18e6fceab3aca44c3abdf246ecf72487ccc988b018396e3848a524090", func := "semigroup/semigrouptop.TopFinite", spec := "topFinite", inPlace := ["internal/abi.NoEscape"], unfollowed := true, recurses := true, named := ["math/bits.deBruijn64tab"], plainKeys := false, apart := false, laid := [("math/bits.deBruijn64tab", laid_math_bits_deBruijn64tab)] }
def TopFiniteSaid : Prop := topFiniteRow.holds Tryz.pinned (OpenSpec.ofChange topFiniteSpec)

/-- ITS FALSE NEIGHBOUR: 'it returns false'. Refute it at one input. -/
def topFiniteWrong : ChangeSpec := { name := "topFinite", fn := fun _ => fun
  | [d1, d2] => { results := [.lit (.bool false)], args := [d1, d2] }
  | _ => none }
def TopFiniteWrongFalsely : Prop := topFiniteRow.holds Tryz.pinned (OpenSpec.ofChange topFiniteWrong)

/-- 'semigrouptop.TopCycles': WHATEVER THE INPUT: true; the input reads as it did. -/
def topCyclesSpec : ChangeSpec := { name := "topCycles", fn := fun _ => fun
  | [d] => { results := [.lit (.bool true)], args := [d] }
  | _ => none }
def topCyclesRow : OpenClaim := { program := "ytbmaaecppfdjfaagreatdoor", sum := "41629ad18e6fceab3aca44c3abdf246ecf72487ccc988b018396e3848a524090", func := "semigroup/semigrouptop.TopCycles", spec := "topCycles", inPlace := ["internal/abi.NoEscape"], unfollowed := true, recurses := true, named := ["math/bits.deBruijn64tab"], plainKeys := false, apart := false, laid := [("math/bits.deBruijn64tab", laid_math_bits_deBruijn64tab)] }
def TopCyclesSaid : Prop := topCyclesRow.holds Tryz.pinned (OpenSpec.ofChange topCyclesSpec)

/-- ITS FALSE NEIGHBOUR: 'it returns false'. Refute it at one input. -/
def topCyclesWrong : ChangeSpec := { name := "topCycles", fn := fun _ => fun
  | [d] => { results := [.lit (.bool false)], args := [d] }
  | _ => none }
def TopCyclesWrongFalsely : Prop := topCyclesRow.holds Tryz.pinned (OpenSpec.ofChange topCyclesWrong)

/-- 'semigrouptop.TopSyntactic': WHATEVER THE INPUT: true; the input reads as it did. -/
def topSyntacticSpec : ChangeSpec := { name := "topSyntactic", fn := fun _ => fun
  | [d] => { results := [.lit (.bool true)], args := [d] }
  | _ => none }
def topSyntacticRow : OpenClaim := { program := "ytbmaaecppfdjfaagreatdoor", sum := "41629ad18e6fceab3aca44c3abdf246ecf72487ccc988b018396e3848a524090", func := "semigroup/semigrouptop.TopSyntactic", spec := "topSyntactic", inPlace := ["internal/abi.NoEscape"], unfollowed := true, recurses := true, named := ["math/bits.deBruijn64tab"], plainKeys := false, apart := false, laid := [("math/bits.deBruijn64tab", laid_math_bits_deBruijn64tab)] }
def TopSyntacticSaid : Prop := topSyntacticRow.holds Tryz.pinned (OpenSpec.ofChange topSyntacticSpec)

/-- ITS FALSE NEIGHBOUR: 'it returns false'. Refute it at one input. -/
def topSyntacticWrong : ChangeSpec := { name := "topSyntactic", fn := fun _ => fun
  | [d] => { results := [.lit (.bool false)], args := [d] }
  | _ => none }
def TopSyntacticWrongFalsely : Prop := topSyntacticRow.holds Tryz.pinned (OpenSpec.ofChange topSyntacticWrong)

/-- 'semigrouptop.TopRanks': WHATEVER THE INPUT: true; the input reads as it did. -/
def topRanksSpec : ChangeSpec := { name := "topRanks", fn := fun _ => fun
  | [d1, d2] => { results := [.lit (.bool true)], args := [d1, d2] }
  | _ => none }
def topRanksRow : OpenClaim := { program := "ytbmaaecppfdjfaagreatdoor", sum := "41629ad18e6fceab3aca44c3abdf246ecf72487ccc988b018396e3848a524090", func := "semigroup/semigrouptop.TopRanks", spec := "topRanks", inPlace := ["internal/abi.NoEscape"], unfollowed := true, recurses := true, named := ["math/bits.deBruijn64tab"], plainKeys := false, apart := false, laid := [("math/bits.deBruijn64tab", laid_math_bits_deBruijn64tab)] }
def TopRanksSaid : Prop := topRanksRow.holds Tryz.pinned (OpenSpec.ofChange topRanksSpec)

/-- ITS FALSE NEIGHBOUR: 'it returns false'. Refute it at one input. -/
def topRanksWrong : ChangeSpec := { name := "topRanks", fn := fun _ => fun
  | [d1, d2] => { results := [.lit (.bool false)], args := [d1, d2] }
  | _ => none }
def TopRanksWrongFalsely : Prop := topRanksRow.holds Tryz.pinned (OpenSpec.ofChange topRanksWrong)

/-- 'semigrouptop.TopGroups': WHATEVER THE INPUT: true; the input reads as it did. -/
def topGroupsSpec : ChangeSpec := { name := "topGroups", fn := fun _ => fun
  | [d] => { results := [.lit (.bool true)], args := [d] }
  | _ => none }
def topGroupsRow : OpenClaim := { program := "ytbmaaecppfdjfaagreatdoor", sum := "41629ad18e6fceab3aca44c3abdf246ecf72487ccc988b018396e3848a524090", func := "semigroup/semigrouptop.TopGroups", spec := "topGroups", inPlace := ["internal/abi.NoEscape"], unfollowed := true, recurses := true, named := ["math/bits.deBruijn64tab"], plainKeys := false, apart := false, laid := [("math/bits.deBruijn64tab", laid_math_bits_deBruijn64tab)] }
def TopGroupsSaid : Prop := topGroupsRow.holds Tryz.pinned (OpenSpec.ofChange topGroupsSpec)

/-- ITS FALSE NEIGHBOUR: 'it returns false'. Refute it at one input. -/
def topGroupsWrong : ChangeSpec := { name := "topGroups", fn := fun _ => fun
  | [d] => { results := [.lit (.bool false)], args := [d] }
  | _ => none }
def TopGroupsWrongFalsely : Prop := topGroupsRow.holds Tryz.pinned (OpenSpec.ofChange topGroupsWrong)

/- THE SECOND FORM. 'bulk': how many values and letters a reading holds, each counted each time it is reached (what is shared counts as often as it is met; a slice's spare places count too). A statement '..UptoSaid' is the law's where the arguments, and the package variables that the reading takes, are together of bulk at most 1048576: NARROWER than '..Said'. Prove '..Said' where nothing that the law and all that it calls make is longer than what came in: it says more and counts as full. Else prove '..UptoSaid'. A law counts once. -/
mutual
def uptoBulk {H : Type} : DataW H → Nat
  | .lit (.string bytes) => bytes.length + 1
  | .lit _ => 1
  | .nil => 1
  | .ptr d => uptoBulk d + 1
  | .slice elems spare => uptoBulkAll elems + uptoBulkAll spare + 1
  | .agg parts => uptoBulkAll parts + 1
  | .iface _ d => uptoBulk d + 1
  | .map entries => uptoBulkEntries entries + 1
  | .held _ => 1
def uptoBulkAll {H : Type} : List (DataW H) → Nat
  | [] => 0
  | d :: r => uptoBulk d + uptoBulkAll r
def uptoBulkEntries {H : Type} : List (Lit × DataW H) → Nat
  | [] => 0
  | x :: r => uptoBulkEntry x + uptoBulkEntries r
def uptoBulkEntry {H : Type} : Lit × DataW H → Nat
  | (.string bytes, d) => bytes.length + uptoBulk d + 1
  | (_, d) => uptoBulk d + 1
 end
def uptoSmall : (H : Type) → List (DataW H) → Bool := fun _ ds => decide (uptoBulkAll ds ≤ 1048576)
def OpenSpec.upto (s : _root_.Go.ChangeSpec) : _root_.Go.OpenSpec := { _root_.Go.OpenSpec.ofChange s with cond := some uptoSmall }

/-- 'semigrouptop.TopTransitions', WHERE WHAT IT READS IS OF BULK AT MOST 1048576: true; the input reads as it did. -/
def topTransitionsUptoRow : OpenClaim := { program := "ytbmaaecppfdjfaagreatdoor", sum := "41629ad18e6fceab3aca44c3abdf246ecf72487ccc988b018396e3848a524090", func := "semigroup/semigrouptop.TopTransitions", spec := "topTransitions", inPlace := ["internal/abi.NoEscape"], unfollowed := true, recurses := true, named := ["math/bits.deBruijn64tab"], plainKeys := false, apart := false, laid := [("math/bits.deBruijn64tab", laid_math_bits_deBruijn64tab)], narrowed := true }
def TopTransitionsUptoSaid : Prop := topTransitionsUptoRow.holds Tryz.pinned (OpenSpec.upto topTransitionsSpec)

/-- 'semigrouptop.TopQuotients', WHERE WHAT IT READS IS OF BULK AT MOST 1048576: true; the input reads as it did. -/
def topQuotientsUptoRow : OpenClaim := { program := "ytbmaaecppfdjfaagreatdoor", sum := "41629ad18e6fceab3aca44c3abdf246ecf72487ccc988b018396e3848a524090", func := "semigroup/semigrouptop.TopQuotients", spec := "topQuotients", inPlace := ["internal/abi.NoEscape"], unfollowed := true, recurses := true, named := ["math/bits.deBruijn64tab"], plainKeys := false, apart := false, laid := [("math/bits.deBruijn64tab", laid_math_bits_deBruijn64tab)], narrowed := true }
def TopQuotientsUptoSaid : Prop := topQuotientsUptoRow.holds Tryz.pinned (OpenSpec.upto topQuotientsSpec)

/-- 'semigrouptop.TopFinite', WHERE WHAT IT READS IS OF BULK AT MOST 1048576: true; the input reads as it did. -/
def topFiniteUptoRow : OpenClaim := { program := "ytbmaaecppfdjfaagreatdoor", sum := "41629ad18e6fceab3aca44c3abdf246ecf72487ccc988b018396e3848a524090", func := "semigroup/semigrouptop.TopFinite", spec := "topFinite", inPlace := ["internal/abi.NoEscape"], unfollowed := true, recurses := true, named := ["math/bits.deBruijn64tab"], plainKeys := false, apart := false, laid := [("math/bits.deBruijn64tab", laid_math_bits_deBruijn64tab)], narrowed := true }
def TopFiniteUptoSaid : Prop := topFiniteUptoRow.holds Tryz.pinned (OpenSpec.upto topFiniteSpec)

/-- 'semigrouptop.TopCycles', WHERE WHAT IT READS IS OF BULK AT MOST 1048576: true; the input reads as it did. -/
def topCyclesUptoRow : OpenClaim := { program := "ytbmaaecppfdjfaagreatdoor", sum := "41629ad18e6fceab3aca44c3abdf246ecf72487ccc988b018396e3848a524090", func := "semigroup/semigrouptop.TopCycles", spec := "topCycles", inPlace := ["internal/abi.NoEscape"], unfollowed := true, recurses := true, named := ["math/bits.deBruijn64tab"], plainKeys := false, apart := false, laid := [("math/bits.deBruijn64tab", laid_math_bits_deBruijn64tab)], narrowed := true }
def TopCyclesUptoSaid : Prop := topCyclesUptoRow.holds Tryz.pinned (OpenSpec.upto topCyclesSpec)

/-- 'semigrouptop.TopSyntactic', WHERE WHAT IT READS IS OF BULK AT MOST 1048576: true; the input reads as it did. -/
def topSyntacticUptoRow : OpenClaim := { program := "ytbmaaecppfdjfaagreatdoor", sum := "41629ad18e6fceab3aca44c3abdf246ecf72487ccc988b018396e3848a524090", func := "semigroup/semigrouptop.TopSyntactic", spec := "topSyntactic", inPlace := ["internal/abi.NoEscape"], unfollowed := true, recurses := true, named := ["math/bits.deBruijn64tab"], plainKeys := false, apart := false, laid := [("math/bits.deBruijn64tab", laid_math_bits_deBruijn64tab)], narrowed := true }
def TopSyntacticUptoSaid : Prop := topSyntacticUptoRow.holds Tryz.pinned (OpenSpec.upto topSyntacticSpec)

/-- 'semigrouptop.TopRanks', WHERE WHAT IT READS IS OF BULK AT MOST 1048576: true; the input reads as it did. -/
def topRanksUptoRow : OpenClaim := { program := "ytbmaaecppfdjfaagreatdoor", sum := "41629ad18e6fceab3aca44c3abdf246ecf72487ccc988b018396e3848a524090", func := "semigroup/semigrouptop.TopRanks", spec := "topRanks", inPlace := ["internal/abi.NoEscape"], unfollowed := true, recurses := true, named := ["math/bits.deBruijn64tab"], plainKeys := false, apart := false, laid := [("math/bits.deBruijn64tab", laid_math_bits_deBruijn64tab)], narrowed := true }
def TopRanksUptoSaid : Prop := topRanksUptoRow.holds Tryz.pinned (OpenSpec.upto topRanksSpec)

/-- 'semigrouptop.TopGroups', WHERE WHAT IT READS IS OF BULK AT MOST 1048576: true; the input reads as it did. -/
def topGroupsUptoRow : OpenClaim := { program := "ytbmaaecppfdjfaagreatdoor", sum := "41629ad18e6fceab3aca44c3abdf246ecf72487ccc988b018396e3848a524090", func := "semigroup/semigrouptop.TopGroups", spec := "topGroups", inPlace := ["internal/abi.NoEscape"], unfollowed := true, recurses := true, named := ["math/bits.deBruijn64tab"], plainKeys := false, apart := false, laid := [("math/bits.deBruijn64tab", laid_math_bits_deBruijn64tab)], narrowed := true }
def TopGroupsUptoSaid : Prop := topGroupsUptoRow.holds Tryz.pinned (OpenSpec.upto topGroupsSpec)

end Rows
end Go.Proofs.YtbmaaecppfdjfaaGreatDoor
