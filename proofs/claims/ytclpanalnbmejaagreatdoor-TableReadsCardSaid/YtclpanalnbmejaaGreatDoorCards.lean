/-
  DERIVED. GIVEN WITH THE SEED: THE CARDS: each row of YtclpanalnbmejaaGreatDoorRows.lean that lists a variable, with what it lists TIED to the program's text (the seventh form; the later family's looks); each row that meets fmt, with fmt's text TOLD by the authors' own Lean function (tested against real Go, not proved from fmt's source: count such statements apart). THE CARD IS WHAT COUNTS. Prove the row's statement (the work); the ties are given (YtclpanalnbmejaaGreatDoorTie.lean); close each card by the builder's one call (the guide's Derived/Test/ToyasCard.lean, 'card_holds'). Laid BY PROGRAM, IN A SANDBOX (cutbox-door.mjs). By AI agents, Wed Nov 11 2026. No macro, syntax, notation, axiom, sorry.
-/
import Derived.Test.YtclpanalnbmejaaGreatDoorRows
import GoSem.ClaimSeven
namespace Go.Proofs.YtclpanalnbmejaaGreatDoor
namespace Rows

/-- THE TIED CARD OF 'tollbarlaw09.TableReads'. -/
def tableReadsCard : Claim7 := { stood := { row := tableReadsRow, standIns := [], harness := (true, "f2d68b2abd8fde50ec1d3827e71c5feb7b6eb8393e179c21030719c03e76fcd7"), looks := false }, kinds := [], alts := [], laidByText := true, laidKinds := [.data, .data, .data, .data, .pinned], laidTests := true, laidLooks := .later }
def TableReadsCardSaid : Prop := Claim7.holds Tryz.pinned (.plain (OpenSpec.ofChange tableReadsSpec)) tableReadsCard

/-- THE TIED CARD OF 'tollbarlaw10.ConfReads'. -/
def confReadsCard : Claim7 := { stood := { row := confReadsRow, standIns := [], harness := (true, "f2d68b2abd8fde50ec1d3827e71c5feb7b6eb8393e179c21030719c03e76fcd7"), looks := false }, kinds := [], alts := [], laidByText := true, laidKinds := [.data, .data, .data, .data, .pinned], laidTests := true, laidLooks := .later }
def ConfReadsCardSaid : Prop := Claim7.holds Tryz.pinned (.plain (OpenSpec.ofChange confReadsSpec)) confReadsCard

/-- THE TIED CARD OF 'tollbarlaw10.ConfWrites'. -/
def confWritesCard : Claim7 := { stood := { row := confWritesRow, standIns := [], harness := (true, "f2d68b2abd8fde50ec1d3827e71c5feb7b6eb8393e179c21030719c03e76fcd7"), looks := false }, kinds := [], alts := [], laidByText := true, laidKinds := [.data, .data, .data, .data, .pinned], laidTests := true, laidLooks := .later }
def ConfWritesCardSaid : Prop := Claim7.holds Tryz.pinned (.plain (OpenSpec.ofChange confWritesSpec)) confWritesCard

/-- THE TIED CARD OF 'tollbarlaw10.ConfBack'. -/
def confBackCard : Claim7 := { stood := { row := confBackRow, standIns := [], harness := (true, "f2d68b2abd8fde50ec1d3827e71c5feb7b6eb8393e179c21030719c03e76fcd7"), looks := false }, kinds := [], alts := [], laidByText := true, laidKinds := [.data, .data, .data, .data, .pinned], laidTests := true, laidLooks := .later }
def ConfBackCardSaid : Prop := Claim7.holds Tryz.pinned (.plain (OpenSpec.ofChange confBackSpec)) confBackCard

/-- THE TIED CARD OF 'tollbarlaw10.ConfKept'. -/
def confKeptCard : Claim7 := { stood := { row := confKeptRow, standIns := [], harness := (true, "f2d68b2abd8fde50ec1d3827e71c5feb7b6eb8393e179c21030719c03e76fcd7"), looks := false }, kinds := [], alts := [], laidByText := true, laidKinds := [.data, .data, .data, .data, .pinned], laidTests := true, laidLooks := .later }
def ConfKeptCardSaid : Prop := Claim7.holds Tryz.pinned (.plain (OpenSpec.ofChange confKeptSpec)) confKeptCard

/-- THE TIED CARD OF 'tollbarlaw10.ConfSame'. -/
def confSameCard : Claim7 := { stood := { row := confSameRow, standIns := [], harness := (true, "f2d68b2abd8fde50ec1d3827e71c5feb7b6eb8393e179c21030719c03e76fcd7"), looks := false }, kinds := [], alts := [], laidByText := true, laidKinds := [.data, .data, .data, .data, .pinned], laidTests := true, laidLooks := .later }
def ConfSameCardSaid : Prop := Claim7.holds Tryz.pinned (.plain (OpenSpec.ofChange confSameSpec)) confSameCard

/-- THE TIED CARD OF 'tollbarlaw10.ConfBounds'. -/
def confBoundsCard : Claim7 := { stood := { row := confBoundsRow, standIns := [], harness := (true, "f2d68b2abd8fde50ec1d3827e71c5feb7b6eb8393e179c21030719c03e76fcd7"), looks := false }, kinds := [], alts := [], laidByText := true, laidKinds := [.data, .data, .data, .data, .pinned], laidTests := true, laidLooks := .later }
def ConfBoundsCardSaid : Prop := Claim7.holds Tryz.pinned (.plain (OpenSpec.ofChange confBoundsSpec)) confBoundsCard

/-- THE SECOND FORM's CARD OF 'tollbarlaw09.TableReads'. -/
def tableReadsUptoCard : Claim7 := { stood := { row := tableReadsUptoRow, standIns := [], harness := (true, "f2d68b2abd8fde50ec1d3827e71c5feb7b6eb8393e179c21030719c03e76fcd7"), looks := false }, kinds := [], alts := [], laidByText := true, laidKinds := [.data, .data, .data, .data, .pinned], laidTests := true, laidLooks := .later }
def TableReadsUptoCardSaid : Prop := Claim7.holds Tryz.pinned (.plain (OpenSpec.upto tableReadsSpec)) tableReadsUptoCard

/-- THE SECOND FORM's CARD OF 'tollbarlaw10.ConfReads'. -/
def confReadsUptoCard : Claim7 := { stood := { row := confReadsUptoRow, standIns := [], harness := (true, "f2d68b2abd8fde50ec1d3827e71c5feb7b6eb8393e179c21030719c03e76fcd7"), looks := false }, kinds := [], alts := [], laidByText := true, laidKinds := [.data, .data, .data, .data, .pinned], laidTests := true, laidLooks := .later }
def ConfReadsUptoCardSaid : Prop := Claim7.holds Tryz.pinned (.plain (OpenSpec.upto confReadsSpec)) confReadsUptoCard

/-- THE SECOND FORM's CARD OF 'tollbarlaw10.ConfWrites'. -/
def confWritesUptoCard : Claim7 := { stood := { row := confWritesUptoRow, standIns := [], harness := (true, "f2d68b2abd8fde50ec1d3827e71c5feb7b6eb8393e179c21030719c03e76fcd7"), looks := false }, kinds := [], alts := [], laidByText := true, laidKinds := [.data, .data, .data, .data, .pinned], laidTests := true, laidLooks := .later }
def ConfWritesUptoCardSaid : Prop := Claim7.holds Tryz.pinned (.plain (OpenSpec.upto confWritesSpec)) confWritesUptoCard

/-- THE SECOND FORM's CARD OF 'tollbarlaw10.ConfBack'. -/
def confBackUptoCard : Claim7 := { stood := { row := confBackUptoRow, standIns := [], harness := (true, "f2d68b2abd8fde50ec1d3827e71c5feb7b6eb8393e179c21030719c03e76fcd7"), looks := false }, kinds := [], alts := [], laidByText := true, laidKinds := [.data, .data, .data, .data, .pinned], laidTests := true, laidLooks := .later }
def ConfBackUptoCardSaid : Prop := Claim7.holds Tryz.pinned (.plain (OpenSpec.upto confBackSpec)) confBackUptoCard

/-- THE SECOND FORM's CARD OF 'tollbarlaw10.ConfKept'. -/
def confKeptUptoCard : Claim7 := { stood := { row := confKeptUptoRow, standIns := [], harness := (true, "f2d68b2abd8fde50ec1d3827e71c5feb7b6eb8393e179c21030719c03e76fcd7"), looks := false }, kinds := [], alts := [], laidByText := true, laidKinds := [.data, .data, .data, .data, .pinned], laidTests := true, laidLooks := .later }
def ConfKeptUptoCardSaid : Prop := Claim7.holds Tryz.pinned (.plain (OpenSpec.upto confKeptSpec)) confKeptUptoCard

/-- THE SECOND FORM's CARD OF 'tollbarlaw10.ConfSame'. -/
def confSameUptoCard : Claim7 := { stood := { row := confSameUptoRow, standIns := [], harness := (true, "f2d68b2abd8fde50ec1d3827e71c5feb7b6eb8393e179c21030719c03e76fcd7"), looks := false }, kinds := [], alts := [], laidByText := true, laidKinds := [.data, .data, .data, .data, .pinned], laidTests := true, laidLooks := .later }
def ConfSameUptoCardSaid : Prop := Claim7.holds Tryz.pinned (.plain (OpenSpec.upto confSameSpec)) confSameUptoCard

/-- THE SECOND FORM's CARD OF 'tollbarlaw10.ConfBounds'. -/
def confBoundsUptoCard : Claim7 := { stood := { row := confBoundsUptoRow, standIns := [], harness := (true, "f2d68b2abd8fde50ec1d3827e71c5feb7b6eb8393e179c21030719c03e76fcd7"), looks := false }, kinds := [], alts := [], laidByText := true, laidKinds := [.data, .data, .data, .data, .pinned], laidTests := true, laidLooks := .later }
def ConfBoundsUptoCardSaid : Prop := Claim7.holds Tryz.pinned (.plain (OpenSpec.upto confBoundsSpec)) confBoundsUptoCard
end Rows
end Go.Proofs.YtclpanalnbmejaaGreatDoor
