/-
  DERIVED. GIVEN WITH THE SEED: THE CARDS: each row of YtjgpifjfaiaidaaDoorRows.lean that lists a variable, with what it lists TIED to the program's text (the seventh form; the later family's looks); each row that meets fmt, with fmt's text TOLD by the authors' own Lean function (tested against real Go, not proved from fmt's source: count such statements apart). THE CARD IS WHAT COUNTS. Prove the row's statement (the work); the ties are given (YtjgpifjfaiaidaaDoorTie.lean); close each card by the builder's one call (the guide's Derived/Test/ToyasCard.lean, 'card_holds'). Laid BY PROGRAM, IN A SANDBOX (cutbox-door.mjs). By AI agents, Wed Nov 11 2026. No macro, syntax, notation, axiom, sorry.
-/
import Derived.Test.YtjgpifjfaiaidaaDoorRows
import GoSem.ClaimSeven
namespace Go.Proofs.YtjgpifjfaiaidaaDoor
namespace Rows

/-- THE TIED CARD OF 'tollbarlaw05.LineRequests'. -/
def lineRequestsCard : Claim7 := { stood := { row := lineRequestsRow, standIns := [], harness := (true, "c8f150e62d519ec4f575b51a86e430f558a23243370e9e54d1b2ae7b760b5e6f"), looks := false }, kinds := [], alts := [], laidByText := true, laidKinds := [.data, .data, .data, .data, .pinned], laidTests := true, laidLooks := .later }
def LineRequestsCardSaid : Prop := Claim7.holds Tryd.pinned (.plain (OpenSpec.ofChange lineRequestsSpec)) lineRequestsCard

/-- THE TIED CARD OF 'tollbarlaw05.LineStatuses'. -/
def lineStatusesCard : Claim7 := { stood := { row := lineStatusesRow, standIns := [], harness := (true, "c8f150e62d519ec4f575b51a86e430f558a23243370e9e54d1b2ae7b760b5e6f"), looks := false }, kinds := [], alts := [], laidByText := true, laidKinds := [.data, .data, .data, .data, .pinned], laidTests := true, laidLooks := .later }
def LineStatusesCardSaid : Prop := Claim7.holds Tryd.pinned (.plain (OpenSpec.ofChange lineStatusesSpec)) lineStatusesCard

/-- THE TIED CARD OF 'tollbarlaw05.LineHosts'. -/
def lineHostsCard : Claim7 := { stood := { row := lineHostsRow, standIns := [], harness := (true, "c8f150e62d519ec4f575b51a86e430f558a23243370e9e54d1b2ae7b760b5e6f"), looks := false }, kinds := [], alts := [], laidByText := true, laidKinds := [.data, .data, .data, .data, .pinned], laidTests := true, laidLooks := .later }
def LineHostsCardSaid : Prop := Claim7.holds Tryd.pinned (.plain (OpenSpec.ofChange lineHostsSpec)) lineHostsCard

/-- THE TIED CARD OF 'tollbarlaw05.LineTells'. -/
def lineTellsCard : Claim7 := { stood := { row := lineTellsRow, standIns := [], harness := (true, "c8f150e62d519ec4f575b51a86e430f558a23243370e9e54d1b2ae7b760b5e6f"), looks := false }, kinds := [], alts := [], laidByText := true, laidKinds := [.data, .data, .data, .data, .pinned], laidTests := true, laidLooks := .later }
def LineTellsCardSaid : Prop := Claim7.holds Tryd.pinned (.plain (OpenSpec.ofChange lineTellsSpec)) lineTellsCard

/-- THE TIED CARD OF 'tollbarlaw05.LineBack'. -/
def lineBackCard : Claim7 := { stood := { row := lineBackRow, standIns := [], harness := (true, "c8f150e62d519ec4f575b51a86e430f558a23243370e9e54d1b2ae7b760b5e6f"), looks := false }, kinds := [], alts := [], laidByText := true, laidKinds := [.data, .data, .data, .data, .pinned], laidTests := true, laidLooks := .later }
def LineBackCardSaid : Prop := Claim7.holds Tryd.pinned (.plain (OpenSpec.ofChange lineBackSpec)) lineBackCard

/-- THE TIED CARD OF 'tollbarlaw06.ChunkDecodes'. -/
def chunkDecodesCard : Claim7 := { stood := { row := chunkDecodesRow, standIns := [], harness := (true, "c8f150e62d519ec4f575b51a86e430f558a23243370e9e54d1b2ae7b760b5e6f"), looks := false }, kinds := [], alts := [], laidByText := true, laidKinds := [.data, .data, .data, .data, .pinned], laidTests := true, laidLooks := .later }
def ChunkDecodesCardSaid : Prop := Claim7.holds Tryd.pinned (.plain (OpenSpec.ofChange chunkDecodesSpec)) chunkDecodesCard

/-- THE TIED CARD OF 'tollbarlaw06.ChunkEncodes'. -/
def chunkEncodesCard : Claim7 := { stood := { row := chunkEncodesRow, standIns := [], harness := (true, "c8f150e62d519ec4f575b51a86e430f558a23243370e9e54d1b2ae7b760b5e6f"), looks := false }, kinds := [], alts := [], laidByText := true, laidKinds := [.data, .data, .data, .data, .pinned], laidTests := true, laidLooks := .later }
def ChunkEncodesCardSaid : Prop := Claim7.holds Tryd.pinned (.plain (OpenSpec.ofChange chunkEncodesSpec)) chunkEncodesCard

/-- THE TIED CARD OF 'tollbarlaw06.ChunkBack'. -/
def chunkBackCard : Claim7 := { stood := { row := chunkBackRow, standIns := [], harness := (true, "c8f150e62d519ec4f575b51a86e430f558a23243370e9e54d1b2ae7b760b5e6f"), looks := false }, kinds := [], alts := [], laidByText := true, laidKinds := [.data, .data, .data, .data, .pinned], laidTests := true, laidLooks := .later }
def ChunkBackCardSaid : Prop := Claim7.holds Tryd.pinned (.plain (OpenSpec.ofChange chunkBackSpec)) chunkBackCard

/-- THE TIED CARD OF 'tollbarlaw06.ChunkGrows'. -/
def chunkGrowsCard : Claim7 := { stood := { row := chunkGrowsRow, standIns := [], harness := (true, "c8f150e62d519ec4f575b51a86e430f558a23243370e9e54d1b2ae7b760b5e6f"), looks := false }, kinds := [], alts := [], laidByText := true, laidKinds := [.data, .data, .data, .data, .pinned], laidTests := true, laidLooks := .later }
def ChunkGrowsCardSaid : Prop := Claim7.holds Tryd.pinned (.plain (OpenSpec.ofChange chunkGrowsSpec)) chunkGrowsCard

/-- THE TIED CARD OF 'tollbarlaw06.ChunkSizes'. -/
def chunkSizesCard : Claim7 := { stood := { row := chunkSizesRow, standIns := [], harness := (true, "c8f150e62d519ec4f575b51a86e430f558a23243370e9e54d1b2ae7b760b5e6f"), looks := false }, kinds := [], alts := [], laidByText := true, laidKinds := [.data, .data, .data, .data, .pinned], laidTests := true, laidLooks := .later }
def ChunkSizesCardSaid : Prop := Claim7.holds Tryd.pinned (.plain (OpenSpec.ofChange chunkSizesSpec)) chunkSizesCard

/-- THE TIED CARD OF 'tollbarlaw06.ChunkTrails'. -/
def chunkTrailsCard : Claim7 := { stood := { row := chunkTrailsRow, standIns := [], harness := (true, "c8f150e62d519ec4f575b51a86e430f558a23243370e9e54d1b2ae7b760b5e6f"), looks := false }, kinds := [], alts := [], laidByText := true, laidKinds := [.data, .data, .data, .data, .pinned], laidTests := true, laidLooks := .later }
def ChunkTrailsCardSaid : Prop := Claim7.holds Tryd.pinned (.plain (OpenSpec.ofChange chunkTrailsSpec)) chunkTrailsCard

/-- THE TIED CARD OF 'tollbarlaw06.ChunkBare'. -/
def chunkBareCard : Claim7 := { stood := { row := chunkBareRow, standIns := [], harness := (true, "c8f150e62d519ec4f575b51a86e430f558a23243370e9e54d1b2ae7b760b5e6f"), looks := false }, kinds := [], alts := [], laidByText := true, laidKinds := [.data, .data, .data, .data, .pinned], laidTests := true, laidLooks := .later }
def ChunkBareCardSaid : Prop := Claim7.holds Tryd.pinned (.plain (OpenSpec.ofChange chunkBareSpec)) chunkBareCard

/-- THE SECOND FORM's CARD OF 'tollbarlaw05.LineRequests'. -/
def lineRequestsUptoCard : Claim7 := { stood := { row := lineRequestsUptoRow, standIns := [], harness := (true, "c8f150e62d519ec4f575b51a86e430f558a23243370e9e54d1b2ae7b760b5e6f"), looks := false }, kinds := [], alts := [], laidByText := true, laidKinds := [.data, .data, .data, .data, .pinned], laidTests := true, laidLooks := .later }
def LineRequestsUptoCardSaid : Prop := Claim7.holds Tryd.pinned (.plain (OpenSpec.upto lineRequestsSpec)) lineRequestsUptoCard

/-- THE SECOND FORM's CARD OF 'tollbarlaw05.LineStatuses'. -/
def lineStatusesUptoCard : Claim7 := { stood := { row := lineStatusesUptoRow, standIns := [], harness := (true, "c8f150e62d519ec4f575b51a86e430f558a23243370e9e54d1b2ae7b760b5e6f"), looks := false }, kinds := [], alts := [], laidByText := true, laidKinds := [.data, .data, .data, .data, .pinned], laidTests := true, laidLooks := .later }
def LineStatusesUptoCardSaid : Prop := Claim7.holds Tryd.pinned (.plain (OpenSpec.upto lineStatusesSpec)) lineStatusesUptoCard

/-- THE SECOND FORM's CARD OF 'tollbarlaw05.LineHosts'. -/
def lineHostsUptoCard : Claim7 := { stood := { row := lineHostsUptoRow, standIns := [], harness := (true, "c8f150e62d519ec4f575b51a86e430f558a23243370e9e54d1b2ae7b760b5e6f"), looks := false }, kinds := [], alts := [], laidByText := true, laidKinds := [.data, .data, .data, .data, .pinned], laidTests := true, laidLooks := .later }
def LineHostsUptoCardSaid : Prop := Claim7.holds Tryd.pinned (.plain (OpenSpec.upto lineHostsSpec)) lineHostsUptoCard

/-- THE SECOND FORM's CARD OF 'tollbarlaw05.LineTells'. -/
def lineTellsUptoCard : Claim7 := { stood := { row := lineTellsUptoRow, standIns := [], harness := (true, "c8f150e62d519ec4f575b51a86e430f558a23243370e9e54d1b2ae7b760b5e6f"), looks := false }, kinds := [], alts := [], laidByText := true, laidKinds := [.data, .data, .data, .data, .pinned], laidTests := true, laidLooks := .later }
def LineTellsUptoCardSaid : Prop := Claim7.holds Tryd.pinned (.plain (OpenSpec.upto lineTellsSpec)) lineTellsUptoCard

/-- THE SECOND FORM's CARD OF 'tollbarlaw05.LineBack'. -/
def lineBackUptoCard : Claim7 := { stood := { row := lineBackUptoRow, standIns := [], harness := (true, "c8f150e62d519ec4f575b51a86e430f558a23243370e9e54d1b2ae7b760b5e6f"), looks := false }, kinds := [], alts := [], laidByText := true, laidKinds := [.data, .data, .data, .data, .pinned], laidTests := true, laidLooks := .later }
def LineBackUptoCardSaid : Prop := Claim7.holds Tryd.pinned (.plain (OpenSpec.upto lineBackSpec)) lineBackUptoCard

/-- THE SECOND FORM's CARD OF 'tollbarlaw06.ChunkDecodes'. -/
def chunkDecodesUptoCard : Claim7 := { stood := { row := chunkDecodesUptoRow, standIns := [], harness := (true, "c8f150e62d519ec4f575b51a86e430f558a23243370e9e54d1b2ae7b760b5e6f"), looks := false }, kinds := [], alts := [], laidByText := true, laidKinds := [.data, .data, .data, .data, .pinned], laidTests := true, laidLooks := .later }
def ChunkDecodesUptoCardSaid : Prop := Claim7.holds Tryd.pinned (.plain (OpenSpec.upto chunkDecodesSpec)) chunkDecodesUptoCard

/-- THE SECOND FORM's CARD OF 'tollbarlaw06.ChunkEncodes'. -/
def chunkEncodesUptoCard : Claim7 := { stood := { row := chunkEncodesUptoRow, standIns := [], harness := (true, "c8f150e62d519ec4f575b51a86e430f558a23243370e9e54d1b2ae7b760b5e6f"), looks := false }, kinds := [], alts := [], laidByText := true, laidKinds := [.data, .data, .data, .data, .pinned], laidTests := true, laidLooks := .later }
def ChunkEncodesUptoCardSaid : Prop := Claim7.holds Tryd.pinned (.plain (OpenSpec.upto chunkEncodesSpec)) chunkEncodesUptoCard

/-- THE SECOND FORM's CARD OF 'tollbarlaw06.ChunkBack'. -/
def chunkBackUptoCard : Claim7 := { stood := { row := chunkBackUptoRow, standIns := [], harness := (true, "c8f150e62d519ec4f575b51a86e430f558a23243370e9e54d1b2ae7b760b5e6f"), looks := false }, kinds := [], alts := [], laidByText := true, laidKinds := [.data, .data, .data, .data, .pinned], laidTests := true, laidLooks := .later }
def ChunkBackUptoCardSaid : Prop := Claim7.holds Tryd.pinned (.plain (OpenSpec.upto chunkBackSpec)) chunkBackUptoCard

/-- THE SECOND FORM's CARD OF 'tollbarlaw06.ChunkGrows'. -/
def chunkGrowsUptoCard : Claim7 := { stood := { row := chunkGrowsUptoRow, standIns := [], harness := (true, "c8f150e62d519ec4f575b51a86e430f558a23243370e9e54d1b2ae7b760b5e6f"), looks := false }, kinds := [], alts := [], laidByText := true, laidKinds := [.data, .data, .data, .data, .pinned], laidTests := true, laidLooks := .later }
def ChunkGrowsUptoCardSaid : Prop := Claim7.holds Tryd.pinned (.plain (OpenSpec.upto chunkGrowsSpec)) chunkGrowsUptoCard

/-- THE SECOND FORM's CARD OF 'tollbarlaw06.ChunkSizes'. -/
def chunkSizesUptoCard : Claim7 := { stood := { row := chunkSizesUptoRow, standIns := [], harness := (true, "c8f150e62d519ec4f575b51a86e430f558a23243370e9e54d1b2ae7b760b5e6f"), looks := false }, kinds := [], alts := [], laidByText := true, laidKinds := [.data, .data, .data, .data, .pinned], laidTests := true, laidLooks := .later }
def ChunkSizesUptoCardSaid : Prop := Claim7.holds Tryd.pinned (.plain (OpenSpec.upto chunkSizesSpec)) chunkSizesUptoCard

/-- THE SECOND FORM's CARD OF 'tollbarlaw06.ChunkTrails'. -/
def chunkTrailsUptoCard : Claim7 := { stood := { row := chunkTrailsUptoRow, standIns := [], harness := (true, "c8f150e62d519ec4f575b51a86e430f558a23243370e9e54d1b2ae7b760b5e6f"), looks := false }, kinds := [], alts := [], laidByText := true, laidKinds := [.data, .data, .data, .data, .pinned], laidTests := true, laidLooks := .later }
def ChunkTrailsUptoCardSaid : Prop := Claim7.holds Tryd.pinned (.plain (OpenSpec.upto chunkTrailsSpec)) chunkTrailsUptoCard

/-- THE SECOND FORM's CARD OF 'tollbarlaw06.ChunkBare'. -/
def chunkBareUptoCard : Claim7 := { stood := { row := chunkBareUptoRow, standIns := [], harness := (true, "c8f150e62d519ec4f575b51a86e430f558a23243370e9e54d1b2ae7b760b5e6f"), looks := false }, kinds := [], alts := [], laidByText := true, laidKinds := [.data, .data, .data, .data, .pinned], laidTests := true, laidLooks := .later }
def ChunkBareUptoCardSaid : Prop := Claim7.holds Tryd.pinned (.plain (OpenSpec.upto chunkBareSpec)) chunkBareUptoCard
end Rows
end Go.Proofs.YtjgpifjfaiaidaaDoor
