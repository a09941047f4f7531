/-
  DERIVED. GIVEN WITH THE SEED: THE CARDS: each row of YtagffbblalldiaaGreatDoorRows.lean that lists a variable, with what it lists TIED to the program's text (the seventh form; the later family's looks); each row that meets fmt, with fmt's text TOLD by the authors' own Lean function (tested against real Go, not proved from fmt's source: count such statements apart). THE CARD IS WHAT COUNTS. Prove the row's statement (the work); the ties are given (YtagffbblalldiaaGreatDoorTie.lean); close each card by the builder's one call (the guide's Derived/Test/ToyasCard.lean, 'card_holds'). Laid BY PROGRAM, IN A SANDBOX (cutbox-door.mjs). By AI agents, Wed Nov 11 2026. No macro, syntax, notation, axiom, sorry.
-/
import Derived.Test.YtagffbblalldiaaGreatDoorRows
import GoSem.ClaimSeven
namespace Go.Proofs.YtagffbblalldiaaGreatDoor
namespace Rows

/-- THE TIED CARD OF 'tollbarlaw08.HttpRequests'. -/
def httpRequestsCard : Claim7 := { stood := { row := httpRequestsRow, standIns := [], harness := (true, "7de1b6812d04fa95a176443ca7ea4038b04e131e0a351548e6b1d84b069bd921"), looks := false }, kinds := [], alts := [], laidByText := true, laidKinds := [.data, .data, .data, .data, .pinned], laidTests := true, laidLooks := .later }
def HttpRequestsCardSaid : Prop := Claim7.holds Tryz.pinned (.plain (OpenSpec.ofChange httpRequestsSpec)) httpRequestsCard

/-- THE TIED CARD OF 'tollbarlaw08.HttpLimits'. -/
def httpLimitsCard : Claim7 := { stood := { row := httpLimitsRow, standIns := [], harness := (true, "7de1b6812d04fa95a176443ca7ea4038b04e131e0a351548e6b1d84b069bd921"), looks := false }, kinds := [], alts := [], laidByText := true, laidKinds := [.data, .data, .data, .data, .pinned], laidTests := true, laidLooks := .later }
def HttpLimitsCardSaid : Prop := Claim7.holds Tryz.pinned (.plain (OpenSpec.ofChange httpLimitsSpec)) httpLimitsCard

/-- THE TIED CARD OF 'tollbarlaw08.HttpBack'. -/
def httpBackCard : Claim7 := { stood := { row := httpBackRow, standIns := [], harness := (true, "7de1b6812d04fa95a176443ca7ea4038b04e131e0a351548e6b1d84b069bd921"), looks := false }, kinds := [], alts := [], laidByText := true, laidKinds := [.data, .data, .data, .data, .pinned], laidTests := true, laidLooks := .later }
def HttpBackCardSaid : Prop := Claim7.holds Tryz.pinned (.plain (OpenSpec.ofChange httpBackSpec)) httpBackCard

/-- THE TIED CARD OF 'tollbarlaw12.ScrubClean'. -/
def scrubCleanCard : Claim7 := { stood := { row := scrubCleanRow, standIns := [], harness := (true, "7de1b6812d04fa95a176443ca7ea4038b04e131e0a351548e6b1d84b069bd921"), looks := false }, kinds := [], alts := [], laidByText := true, laidKinds := [.data, .data, .data, .data, .pinned], laidTests := true, laidLooks := .later }
def ScrubCleanCardSaid : Prop := Claim7.holds Tryz.pinned (.plain (OpenSpec.ofChange scrubCleanSpec)) scrubCleanCard

/-- THE TIED CARD OF 'tollbarlaw12.ScrubDrops'. -/
def scrubDropsCard : Claim7 := { stood := { row := scrubDropsRow, standIns := [], harness := (true, "7de1b6812d04fa95a176443ca7ea4038b04e131e0a351548e6b1d84b069bd921"), looks := false }, kinds := [], alts := [], laidByText := true, laidKinds := [.data, .data, .data, .data, .pinned], laidTests := true, laidLooks := .later }
def ScrubDropsCardSaid : Prop := Claim7.holds Tryz.pinned (.plain (OpenSpec.ofChange scrubDropsSpec)) scrubDropsCard

/-- THE TIED CARD OF 'tollbarlaw12.ScrubAnswers'. -/
def scrubAnswersCard : Claim7 := { stood := { row := scrubAnswersRow, standIns := [], harness := (true, "7de1b6812d04fa95a176443ca7ea4038b04e131e0a351548e6b1d84b069bd921"), looks := false }, kinds := [], alts := [], laidByText := true, laidKinds := [.data, .data, .data, .data, .pinned], laidTests := true, laidLooks := .later }
def ScrubAnswersCardSaid : Prop := Claim7.holds Tryz.pinned (.plain (OpenSpec.ofChange scrubAnswersSpec)) scrubAnswersCard

/-- THE TIED CARD OF 'tollbarlaw12.ScrubOwns'. -/
def scrubOwnsCard : Claim7 := { stood := { row := scrubOwnsRow, standIns := [], harness := (true, "7de1b6812d04fa95a176443ca7ea4038b04e131e0a351548e6b1d84b069bd921"), looks := false }, kinds := [], alts := [], laidByText := true, laidKinds := [.data, .data, .data, .data, .pinned], laidTests := true, laidLooks := .later }
def ScrubOwnsCardSaid : Prop := Claim7.holds Tryz.pinned (.plain (OpenSpec.ofChange scrubOwnsSpec)) scrubOwnsCard

/-- THE TIED CARD OF 'tollbarlaw12.ScrubReads'. -/
def scrubReadsCard : Claim7 := { stood := { row := scrubReadsRow, standIns := [], harness := (true, "7de1b6812d04fa95a176443ca7ea4038b04e131e0a351548e6b1d84b069bd921"), looks := false }, kinds := [], alts := [], laidByText := true, laidKinds := [.data, .data, .data, .data, .pinned], laidTests := true, laidLooks := .later }
def ScrubReadsCardSaid : Prop := Claim7.holds Tryz.pinned (.plain (OpenSpec.ofChange scrubReadsSpec)) scrubReadsCard

/-- THE SECOND FORM's CARD OF 'tollbarlaw08.HttpRequests'. -/
def httpRequestsUptoCard : Claim7 := { stood := { row := httpRequestsUptoRow, standIns := [], harness := (true, "7de1b6812d04fa95a176443ca7ea4038b04e131e0a351548e6b1d84b069bd921"), looks := false }, kinds := [], alts := [], laidByText := true, laidKinds := [.data, .data, .data, .data, .pinned], laidTests := true, laidLooks := .later }
def HttpRequestsUptoCardSaid : Prop := Claim7.holds Tryz.pinned (.plain (OpenSpec.upto httpRequestsSpec)) httpRequestsUptoCard

/-- THE SECOND FORM's CARD OF 'tollbarlaw08.HttpLimits'. -/
def httpLimitsUptoCard : Claim7 := { stood := { row := httpLimitsUptoRow, standIns := [], harness := (true, "7de1b6812d04fa95a176443ca7ea4038b04e131e0a351548e6b1d84b069bd921"), looks := false }, kinds := [], alts := [], laidByText := true, laidKinds := [.data, .data, .data, .data, .pinned], laidTests := true, laidLooks := .later }
def HttpLimitsUptoCardSaid : Prop := Claim7.holds Tryz.pinned (.plain (OpenSpec.upto httpLimitsSpec)) httpLimitsUptoCard

/-- THE SECOND FORM's CARD OF 'tollbarlaw08.HttpBack'. -/
def httpBackUptoCard : Claim7 := { stood := { row := httpBackUptoRow, standIns := [], harness := (true, "7de1b6812d04fa95a176443ca7ea4038b04e131e0a351548e6b1d84b069bd921"), looks := false }, kinds := [], alts := [], laidByText := true, laidKinds := [.data, .data, .data, .data, .pinned], laidTests := true, laidLooks := .later }
def HttpBackUptoCardSaid : Prop := Claim7.holds Tryz.pinned (.plain (OpenSpec.upto httpBackSpec)) httpBackUptoCard

/-- THE SECOND FORM's CARD OF 'tollbarlaw12.ScrubClean'. -/
def scrubCleanUptoCard : Claim7 := { stood := { row := scrubCleanUptoRow, standIns := [], harness := (true, "7de1b6812d04fa95a176443ca7ea4038b04e131e0a351548e6b1d84b069bd921"), looks := false }, kinds := [], alts := [], laidByText := true, laidKinds := [.data, .data, .data, .data, .pinned], laidTests := true, laidLooks := .later }
def ScrubCleanUptoCardSaid : Prop := Claim7.holds Tryz.pinned (.plain (OpenSpec.upto scrubCleanSpec)) scrubCleanUptoCard

/-- THE SECOND FORM's CARD OF 'tollbarlaw12.ScrubDrops'. -/
def scrubDropsUptoCard : Claim7 := { stood := { row := scrubDropsUptoRow, standIns := [], harness := (true, "7de1b6812d04fa95a176443ca7ea4038b04e131e0a351548e6b1d84b069bd921"), looks := false }, kinds := [], alts := [], laidByText := true, laidKinds := [.data, .data, .data, .data, .pinned], laidTests := true, laidLooks := .later }
def ScrubDropsUptoCardSaid : Prop := Claim7.holds Tryz.pinned (.plain (OpenSpec.upto scrubDropsSpec)) scrubDropsUptoCard

/-- THE SECOND FORM's CARD OF 'tollbarlaw12.ScrubAnswers'. -/
def scrubAnswersUptoCard : Claim7 := { stood := { row := scrubAnswersUptoRow, standIns := [], harness := (true, "7de1b6812d04fa95a176443ca7ea4038b04e131e0a351548e6b1d84b069bd921"), looks := false }, kinds := [], alts := [], laidByText := true, laidKinds := [.data, .data, .data, .data, .pinned], laidTests := true, laidLooks := .later }
def ScrubAnswersUptoCardSaid : Prop := Claim7.holds Tryz.pinned (.plain (OpenSpec.upto scrubAnswersSpec)) scrubAnswersUptoCard

/-- THE SECOND FORM's CARD OF 'tollbarlaw12.ScrubOwns'. -/
def scrubOwnsUptoCard : Claim7 := { stood := { row := scrubOwnsUptoRow, standIns := [], harness := (true, "7de1b6812d04fa95a176443ca7ea4038b04e131e0a351548e6b1d84b069bd921"), looks := false }, kinds := [], alts := [], laidByText := true, laidKinds := [.data, .data, .data, .data, .pinned], laidTests := true, laidLooks := .later }
def ScrubOwnsUptoCardSaid : Prop := Claim7.holds Tryz.pinned (.plain (OpenSpec.upto scrubOwnsSpec)) scrubOwnsUptoCard

/-- THE SECOND FORM's CARD OF 'tollbarlaw12.ScrubReads'. -/
def scrubReadsUptoCard : Claim7 := { stood := { row := scrubReadsUptoRow, standIns := [], harness := (true, "7de1b6812d04fa95a176443ca7ea4038b04e131e0a351548e6b1d84b069bd921"), looks := false }, kinds := [], alts := [], laidByText := true, laidKinds := [.data, .data, .data, .data, .pinned], laidTests := true, laidLooks := .later }
def ScrubReadsUptoCardSaid : Prop := Claim7.holds Tryz.pinned (.plain (OpenSpec.upto scrubReadsSpec)) scrubReadsUptoCard
end Rows
end Go.Proofs.YtagffbblalldiaaGreatDoor
