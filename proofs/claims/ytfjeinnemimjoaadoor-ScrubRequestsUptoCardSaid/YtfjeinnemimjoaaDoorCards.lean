/-
  DERIVED. GIVEN WITH THE SEED: THE CARDS: each row of YtfjeinnemimjoaaDoorRows.lean that lists a variable, with what it lists TIED to the program's text (the seventh form; the later family's looks); each row that meets fmt, with fmt's text TOLD by the authors' own Lean function (tested against real Go, not proved from fmt's source: count such statements apart). THE CARD IS WHAT COUNTS. Prove the row's statement (the work); the ties are given (YtfjeinnemimjoaaDoorTie.lean); close each card by the builder's one call (the guide's Derived/Test/ToyasCard.lean, 'card_holds'). Laid BY PROGRAM, IN A SANDBOX (cutbox-door.mjs). By AI agents, Wed Nov 11 2026. No macro, syntax, notation, axiom, sorry.
-/
import Derived.Test.YtfjeinnemimjoaaDoorRows
import GoSem.ClaimSeven
namespace Go.Proofs.YtfjeinnemimjoaaDoor
namespace Rows

/-- THE TIED CARD OF 'tollbarlaw06.ChunkSizes'. -/
def chunkSizesCard : Claim7 := { stood := { row := chunkSizesRow, standIns := [], harness := (true, "df04caa3d3685b9814701c23405b225434887d35db0847cb42e5a6c6792519c8"), looks := false }, kinds := [], alts := [], laidByText := true, laidKinds := [.data, .data, .data, .data, .pinned], laidTests := true, laidLooks := .later }
def ChunkSizesCardSaid : Prop := Claim7.holds Tryd.pinned (.plain (OpenSpec.ofChange chunkSizesSpec)) chunkSizesCard

/-- THE TIED CARD OF 'tollbarlaw12.ScrubRequests'. -/
def scrubRequestsCard : Claim7 := { stood := { row := scrubRequestsRow, standIns := [], harness := (true, "df04caa3d3685b9814701c23405b225434887d35db0847cb42e5a6c6792519c8"), looks := false }, kinds := [], alts := [], laidByText := true, laidKinds := [.data, .data, .data, .data, .pinned], laidTests := true, laidLooks := .later }
def ScrubRequestsCardSaid : Prop := Claim7.holds Tryd.pinned (.plain (OpenSpec.ofChange scrubRequestsSpec)) scrubRequestsCard

/-- THE TIED CARD OF 'tollbarlaw08.HttpEnds'. -/
def httpEndsCard : Claim7 := { stood := { row := httpEndsRow, standIns := [], harness := (true, "df04caa3d3685b9814701c23405b225434887d35db0847cb42e5a6c6792519c8"), looks := false }, kinds := [], alts := [], laidByText := true, laidKinds := [.data, .data, .data, .data, .pinned], laidTests := true, laidLooks := .later }
def HttpEndsCardSaid : Prop := Claim7.holds Tryd.pinned (.plain (OpenSpec.ofChange httpEndsSpec)) httpEndsCard

/-- THE SECOND FORM's CARD OF 'tollbarlaw06.ChunkSizes'. -/
def chunkSizesUptoCard : Claim7 := { stood := { row := chunkSizesUptoRow, standIns := [], harness := (true, "df04caa3d3685b9814701c23405b225434887d35db0847cb42e5a6c6792519c8"), looks := false }, kinds := [], alts := [], laidByText := true, laidKinds := [.data, .data, .data, .data, .pinned], laidTests := true, laidLooks := .later }
def ChunkSizesUptoCardSaid : Prop := Claim7.holds Tryd.pinned (.plain (OpenSpec.upto chunkSizesSpec)) chunkSizesUptoCard

/-- THE SECOND FORM's CARD OF 'tollbarlaw12.ScrubRequests'. -/
def scrubRequestsUptoCard : Claim7 := { stood := { row := scrubRequestsUptoRow, standIns := [], harness := (true, "df04caa3d3685b9814701c23405b225434887d35db0847cb42e5a6c6792519c8"), looks := false }, kinds := [], alts := [], laidByText := true, laidKinds := [.data, .data, .data, .data, .pinned], laidTests := true, laidLooks := .later }
def ScrubRequestsUptoCardSaid : Prop := Claim7.holds Tryd.pinned (.plain (OpenSpec.upto scrubRequestsSpec)) scrubRequestsUptoCard

/-- THE SECOND FORM's CARD OF 'tollbarlaw08.HttpEnds'. -/
def httpEndsUptoCard : Claim7 := { stood := { row := httpEndsUptoRow, standIns := [], harness := (true, "df04caa3d3685b9814701c23405b225434887d35db0847cb42e5a6c6792519c8"), looks := false }, kinds := [], alts := [], laidByText := true, laidKinds := [.data, .data, .data, .data, .pinned], laidTests := true, laidLooks := .later }
def HttpEndsUptoCardSaid : Prop := Claim7.holds Tryd.pinned (.plain (OpenSpec.upto httpEndsSpec)) httpEndsUptoCard
end Rows
end Go.Proofs.YtfjeinnemimjoaaDoor
