/-
  DERIVED. GIVEN WITH THE SEED: THE CARDS: each row of YtclpanalnbmejaaDoorRows.lean that lists a variable, with what it lists TIED to the program's text (the seventh form; the later family's looks); each row that meets fmt, with fmt's text TOLD by the authors' own Lean function (tested against real Go, not proved from fmt's source: count such statements apart). THE CARD IS WHAT COUNTS. Prove the row's statement (the work); the ties are given (YtclpanalnbmejaaDoorTie.lean); close each card by the builder's one call (the guide's Derived/Test/ToyasCard.lean, 'card_holds'). Laid BY PROGRAM, IN A SANDBOX (cutbox-door.mjs). By AI agents, Wed Nov 11 2026. No macro, syntax, notation, axiom, sorry.
-/
import Derived.Test.YtclpanalnbmejaaDoorRows
import GoSem.ClaimSeven
namespace Go.Proofs.YtclpanalnbmejaaDoor
namespace Rows

/-- THE TIED CARD OF 'tollbarlaw09.TableWrites'. -/
def tableWritesCard : Claim7 := { stood := { row := tableWritesRow, standIns := [], harness := (true, "9684a267e5a1bf5b748a410b81d4063e74f486dac435873e5e47118a2444429a"), looks := false }, kinds := [], alts := [], laidByText := true, laidKinds := [.data, .data, .data, .data, .pinned], laidTests := true, laidLooks := .later }
def TableWritesCardSaid : Prop := Claim7.holds Tryd.pinned (.plain (OpenSpec.ofChange tableWritesSpec)) tableWritesCard

/-- THE TIED CARD OF 'tollbarlaw09.TableBack'. -/
def tableBackCard : Claim7 := { stood := { row := tableBackRow, standIns := [], harness := (true, "9684a267e5a1bf5b748a410b81d4063e74f486dac435873e5e47118a2444429a"), looks := false }, kinds := [], alts := [], laidByText := true, laidKinds := [.data, .data, .data, .data, .pinned], laidTests := true, laidLooks := .later }
def TableBackCardSaid : Prop := Claim7.holds Tryd.pinned (.plain (OpenSpec.ofChange tableBackSpec)) tableBackCard

/-- THE TIED CARD OF 'tollbarlaw09.TableHosts'. -/
def tableHostsCard : Claim7 := { stood := { row := tableHostsRow, standIns := [], harness := (true, "9684a267e5a1bf5b748a410b81d4063e74f486dac435873e5e47118a2444429a"), looks := false }, kinds := [], alts := [], laidByText := true, laidKinds := [.data, .data, .data, .data, .pinned], laidTests := true, laidLooks := .later }
def TableHostsCardSaid : Prop := Claim7.holds Tryd.pinned (.plain (OpenSpec.ofChange tableHostsSpec)) tableHostsCard

/-- THE TIED CARD OF 'tollbarlaw09.TableTurns'. -/
def tableTurnsCard : Claim7 := { stood := { row := tableTurnsRow, standIns := [], harness := (true, "9684a267e5a1bf5b748a410b81d4063e74f486dac435873e5e47118a2444429a"), looks := false }, kinds := [], alts := [], laidByText := true, laidKinds := [.data, .data, .data, .data, .pinned], laidTests := true, laidLooks := .later }
def TableTurnsCardSaid : Prop := Claim7.holds Tryd.pinned (.plain (OpenSpec.ofChange tableTurnsSpec)) tableTurnsCard

/-- THE TIED CARD OF 'tollbarlaw09.TableBounds'. -/
def tableBoundsCard : Claim7 := { stood := { row := tableBoundsRow, standIns := [], harness := (true, "9684a267e5a1bf5b748a410b81d4063e74f486dac435873e5e47118a2444429a"), looks := false }, kinds := [], alts := [], laidByText := true, laidKinds := [.data, .data, .data, .data, .pinned], laidTests := true, laidLooks := .later }
def TableBoundsCardSaid : Prop := Claim7.holds Tryd.pinned (.plain (OpenSpec.ofChange tableBoundsSpec)) tableBoundsCard

/-- THE SECOND FORM's CARD OF 'tollbarlaw09.TableWrites'. -/
def tableWritesUptoCard : Claim7 := { stood := { row := tableWritesUptoRow, standIns := [], harness := (true, "9684a267e5a1bf5b748a410b81d4063e74f486dac435873e5e47118a2444429a"), looks := false }, kinds := [], alts := [], laidByText := true, laidKinds := [.data, .data, .data, .data, .pinned], laidTests := true, laidLooks := .later }
def TableWritesUptoCardSaid : Prop := Claim7.holds Tryd.pinned (.plain (OpenSpec.upto tableWritesSpec)) tableWritesUptoCard

/-- THE SECOND FORM's CARD OF 'tollbarlaw09.TableBack'. -/
def tableBackUptoCard : Claim7 := { stood := { row := tableBackUptoRow, standIns := [], harness := (true, "9684a267e5a1bf5b748a410b81d4063e74f486dac435873e5e47118a2444429a"), looks := false }, kinds := [], alts := [], laidByText := true, laidKinds := [.data, .data, .data, .data, .pinned], laidTests := true, laidLooks := .later }
def TableBackUptoCardSaid : Prop := Claim7.holds Tryd.pinned (.plain (OpenSpec.upto tableBackSpec)) tableBackUptoCard

/-- THE SECOND FORM's CARD OF 'tollbarlaw09.TableHosts'. -/
def tableHostsUptoCard : Claim7 := { stood := { row := tableHostsUptoRow, standIns := [], harness := (true, "9684a267e5a1bf5b748a410b81d4063e74f486dac435873e5e47118a2444429a"), looks := false }, kinds := [], alts := [], laidByText := true, laidKinds := [.data, .data, .data, .data, .pinned], laidTests := true, laidLooks := .later }
def TableHostsUptoCardSaid : Prop := Claim7.holds Tryd.pinned (.plain (OpenSpec.upto tableHostsSpec)) tableHostsUptoCard

/-- THE SECOND FORM's CARD OF 'tollbarlaw09.TableTurns'. -/
def tableTurnsUptoCard : Claim7 := { stood := { row := tableTurnsUptoRow, standIns := [], harness := (true, "9684a267e5a1bf5b748a410b81d4063e74f486dac435873e5e47118a2444429a"), looks := false }, kinds := [], alts := [], laidByText := true, laidKinds := [.data, .data, .data, .data, .pinned], laidTests := true, laidLooks := .later }
def TableTurnsUptoCardSaid : Prop := Claim7.holds Tryd.pinned (.plain (OpenSpec.upto tableTurnsSpec)) tableTurnsUptoCard

/-- THE SECOND FORM's CARD OF 'tollbarlaw09.TableBounds'. -/
def tableBoundsUptoCard : Claim7 := { stood := { row := tableBoundsUptoRow, standIns := [], harness := (true, "9684a267e5a1bf5b748a410b81d4063e74f486dac435873e5e47118a2444429a"), looks := false }, kinds := [], alts := [], laidByText := true, laidKinds := [.data, .data, .data, .data, .pinned], laidTests := true, laidLooks := .later }
def TableBoundsUptoCardSaid : Prop := Claim7.holds Tryd.pinned (.plain (OpenSpec.upto tableBoundsSpec)) tableBoundsUptoCard
end Rows
end Go.Proofs.YtclpanalnbmejaaDoor
