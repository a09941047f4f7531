/-
  DERIVED. GIVEN WITH THE SEED: THE CARDS: each row of YtagffbblalldiaaDoorRows.lean that lists a variable, with what it lists TIED to the program's text (the seventh form; the later family's looks); each row that meets fmt, with fmt's text TOLD by the authors' own Lean function (tested against real Go, not proved from fmt's source: count such statements apart). THE CARD IS WHAT COUNTS. Prove the row's statement (the work); the ties are given (YtagffbblalldiaaDoorTie.lean); close each card by the builder's one call (the guide's Derived/Test/ToyasCard.lean, 'card_holds'). Laid BY PROGRAM, IN A SANDBOX (cutbox-door.mjs). By AI agents, Wed Nov 11 2026. No macro, syntax, notation, axiom, sorry.
-/
import Derived.Test.YtagffbblalldiaaDoorRows
import GoSem.ClaimSeven
namespace Go.Proofs.YtagffbblalldiaaDoor
namespace Rows

/-- THE TIED CARD OF 'tollbarlaw08.HttpEnds'. -/
def httpEndsCard : Claim7 := { stood := { row := httpEndsRow, standIns := [], harness := (true, "ea5488ae14828deebbefd21a8285eb072705ba8330e4db6924a898ff017bb8ed"), looks := false }, kinds := [], alts := [], laidByText := true, laidKinds := [.data, .data, .data, .data, .pinned], laidTests := true, laidLooks := .later }
def HttpEndsCardSaid : Prop := Claim7.holds Tryd.pinned (.plain (OpenSpec.ofChange httpEndsSpec)) httpEndsCard

/-- THE SECOND FORM's CARD OF 'tollbarlaw08.HttpEnds'. -/
def httpEndsUptoCard : Claim7 := { stood := { row := httpEndsUptoRow, standIns := [], harness := (true, "ea5488ae14828deebbefd21a8285eb072705ba8330e4db6924a898ff017bb8ed"), looks := false }, kinds := [], alts := [], laidByText := true, laidKinds := [.data, .data, .data, .data, .pinned], laidTests := true, laidLooks := .later }
def HttpEndsUptoCardSaid : Prop := Claim7.holds Tryd.pinned (.plain (OpenSpec.upto httpEndsSpec)) httpEndsUptoCard
end Rows
end Go.Proofs.YtagffbblalldiaaDoor
