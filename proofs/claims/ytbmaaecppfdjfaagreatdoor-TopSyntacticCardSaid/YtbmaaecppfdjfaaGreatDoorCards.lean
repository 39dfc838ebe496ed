/-
  DERIVED. GIVEN WITH THE SEED: THE CARDS: each row of YtbmaaecppfdjfaaGreatDoorRows.lean that lists a variable, with what it lists TIED to the program's text (the seventh form; the later family's looks); each row that meets fmt, with fmt's text TOLD by the authors' own Lean function (tested against real Go, not proved from fmt's source: count such statements apart). THE CARD IS WHAT COUNTS. Prove the row's statement (the work); the ties are given (YtbmaaecppfdjfaaGreatDoorTie.lean); close each card by the builder's one call (the guide's Derived/Test/ToyasCard.lean, 'card_holds'). Laid BY PROGRAM, IN A SANDBOX (cutbox-door.mjs). By AI agents, Wed Nov 11 2026. No macro, syntax, notation, axiom, sorry.
-/
import Derived.Test.YtbmaaecppfdjfaaGreatDoorRows
import GoSem.ClaimSeven
namespace Go.Proofs.YtbmaaecppfdjfaaGreatDoor
namespace Rows

/-- THE TIED CARD OF 'semigrouptop.TopTransitions'. -/
def topTransitionsCard : Claim7 := { stood := { row := topTransitionsRow, standIns := [], harness := (true, "780d4b31229f208629d4575aba6d5d07544a2d374998028400883831c25ba184"), looks := false }, kinds := [], alts := [], laidByText := true, laidKinds := [.data], laidTests := true, laidLooks := .later }
def TopTransitionsCardSaid : Prop := Claim7.holds Tryz.pinned (.plain (OpenSpec.ofChange topTransitionsSpec)) topTransitionsCard

/-- THE TIED CARD OF 'semigrouptop.TopQuotients'. -/
def topQuotientsCard : Claim7 := { stood := { row := topQuotientsRow, standIns := [], harness := (true, "780d4b31229f208629d4575aba6d5d07544a2d374998028400883831c25ba184"), looks := false }, kinds := [], alts := [], laidByText := true, laidKinds := [.data], laidTests := true, laidLooks := .later }
def TopQuotientsCardSaid : Prop := Claim7.holds Tryz.pinned (.plain (OpenSpec.ofChange topQuotientsSpec)) topQuotientsCard

/-- THE TIED CARD OF 'semigrouptop.TopFinite'. -/
def topFiniteCard : Claim7 := { stood := { row := topFiniteRow, standIns := [], harness := (true, "780d4b31229f208629d4575aba6d5d07544a2d374998028400883831c25ba184"), looks := false }, kinds := [], alts := [], laidByText := true, laidKinds := [.data], laidTests := true, laidLooks := .later }
def TopFiniteCardSaid : Prop := Claim7.holds Tryz.pinned (.plain (OpenSpec.ofChange topFiniteSpec)) topFiniteCard

/-- THE TIED CARD OF 'semigrouptop.TopCycles'. -/
def topCyclesCard : Claim7 := { stood := { row := topCyclesRow, standIns := [], harness := (true, "780d4b31229f208629d4575aba6d5d07544a2d374998028400883831c25ba184"), looks := false }, kinds := [], alts := [], laidByText := true, laidKinds := [.data], laidTests := true, laidLooks := .later }
def TopCyclesCardSaid : Prop := Claim7.holds Tryz.pinned (.plain (OpenSpec.ofChange topCyclesSpec)) topCyclesCard

/-- THE TIED CARD OF 'semigrouptop.TopSyntactic'. -/
def topSyntacticCard : Claim7 := { stood := { row := topSyntacticRow, standIns := [], harness := (true, "780d4b31229f208629d4575aba6d5d07544a2d374998028400883831c25ba184"), looks := false }, kinds := [], alts := [], laidByText := true, laidKinds := [.data], laidTests := true, laidLooks := .later }
def TopSyntacticCardSaid : Prop := Claim7.holds Tryz.pinned (.plain (OpenSpec.ofChange topSyntacticSpec)) topSyntacticCard

/-- THE TIED CARD OF 'semigrouptop.TopRanks'. -/
def topRanksCard : Claim7 := { stood := { row := topRanksRow, standIns := [], harness := (true, "780d4b31229f208629d4575aba6d5d07544a2d374998028400883831c25ba184"), looks := false }, kinds := [], alts := [], laidByText := true, laidKinds := [.data], laidTests := true, laidLooks := .later }
def TopRanksCardSaid : Prop := Claim7.holds Tryz.pinned (.plain (OpenSpec.ofChange topRanksSpec)) topRanksCard

/-- THE TIED CARD OF 'semigrouptop.TopGroups'. -/
def topGroupsCard : Claim7 := { stood := { row := topGroupsRow, standIns := [], harness := (true, "780d4b31229f208629d4575aba6d5d07544a2d374998028400883831c25ba184"), looks := false }, kinds := [], alts := [], laidByText := true, laidKinds := [.data], laidTests := true, laidLooks := .later }
def TopGroupsCardSaid : Prop := Claim7.holds Tryz.pinned (.plain (OpenSpec.ofChange topGroupsSpec)) topGroupsCard

/-- THE SECOND FORM's CARD OF 'semigrouptop.TopTransitions'. -/
def topTransitionsUptoCard : Claim7 := { stood := { row := topTransitionsUptoRow, standIns := [], harness := (true, "780d4b31229f208629d4575aba6d5d07544a2d374998028400883831c25ba184"), looks := false }, kinds := [], alts := [], laidByText := true, laidKinds := [.data], laidTests := true, laidLooks := .later }
def TopTransitionsUptoCardSaid : Prop := Claim7.holds Tryz.pinned (.plain (OpenSpec.upto topTransitionsSpec)) topTransitionsUptoCard

/-- THE SECOND FORM's CARD OF 'semigrouptop.TopQuotients'. -/
def topQuotientsUptoCard : Claim7 := { stood := { row := topQuotientsUptoRow, standIns := [], harness := (true, "780d4b31229f208629d4575aba6d5d07544a2d374998028400883831c25ba184"), looks := false }, kinds := [], alts := [], laidByText := true, laidKinds := [.data], laidTests := true, laidLooks := .later }
def TopQuotientsUptoCardSaid : Prop := Claim7.holds Tryz.pinned (.plain (OpenSpec.upto topQuotientsSpec)) topQuotientsUptoCard

/-- THE SECOND FORM's CARD OF 'semigrouptop.TopFinite'. -/
def topFiniteUptoCard : Claim7 := { stood := { row := topFiniteUptoRow, standIns := [], harness := (true, "780d4b31229f208629d4575aba6d5d07544a2d374998028400883831c25ba184"), looks := false }, kinds := [], alts := [], laidByText := true, laidKinds := [.data], laidTests := true, laidLooks := .later }
def TopFiniteUptoCardSaid : Prop := Claim7.holds Tryz.pinned (.plain (OpenSpec.upto topFiniteSpec)) topFiniteUptoCard

/-- THE SECOND FORM's CARD OF 'semigrouptop.TopCycles'. -/
def topCyclesUptoCard : Claim7 := { stood := { row := topCyclesUptoRow, standIns := [], harness := (true, "780d4b31229f208629d4575aba6d5d07544a2d374998028400883831c25ba184"), looks := false }, kinds := [], alts := [], laidByText := true, laidKinds := [.data], laidTests := true, laidLooks := .later }
def TopCyclesUptoCardSaid : Prop := Claim7.holds Tryz.pinned (.plain (OpenSpec.upto topCyclesSpec)) topCyclesUptoCard

/-- THE SECOND FORM's CARD OF 'semigrouptop.TopSyntactic'. -/
def topSyntacticUptoCard : Claim7 := { stood := { row := topSyntacticUptoRow, standIns := [], harness := (true, "780d4b31229f208629d4575aba6d5d07544a2d374998028400883831c25ba184"), looks := false }, kinds := [], alts := [], laidByText := true, laidKinds := [.data], laidTests := true, laidLooks := .later }
def TopSyntacticUptoCardSaid : Prop := Claim7.holds Tryz.pinned (.plain (OpenSpec.upto topSyntacticSpec)) topSyntacticUptoCard

/-- THE SECOND FORM's CARD OF 'semigrouptop.TopRanks'. -/
def topRanksUptoCard : Claim7 := { stood := { row := topRanksUptoRow, standIns := [], harness := (true, "780d4b31229f208629d4575aba6d5d07544a2d374998028400883831c25ba184"), looks := false }, kinds := [], alts := [], laidByText := true, laidKinds := [.data], laidTests := true, laidLooks := .later }
def TopRanksUptoCardSaid : Prop := Claim7.holds Tryz.pinned (.plain (OpenSpec.upto topRanksSpec)) topRanksUptoCard

/-- THE SECOND FORM's CARD OF 'semigrouptop.TopGroups'. -/
def topGroupsUptoCard : Claim7 := { stood := { row := topGroupsUptoRow, standIns := [], harness := (true, "780d4b31229f208629d4575aba6d5d07544a2d374998028400883831c25ba184"), looks := false }, kinds := [], alts := [], laidByText := true, laidKinds := [.data], laidTests := true, laidLooks := .later }
def TopGroupsUptoCardSaid : Prop := Claim7.holds Tryz.pinned (.plain (OpenSpec.upto topGroupsSpec)) topGroupsUptoCard
end Rows
end Go.Proofs.YtbmaaecppfdjfaaGreatDoor
