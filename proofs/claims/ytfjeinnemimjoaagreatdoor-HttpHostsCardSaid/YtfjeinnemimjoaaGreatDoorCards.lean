/-
  DERIVED. GIVEN WITH THE SEED: THE CARDS: each row of YtfjeinnemimjoaaGreatDoorRows.lean that lists a variable, with what it lists TIED to the program's text (the seventh form; the later family's looks); each row that meets fmt, with fmt's text TOLD by the authors' own Lean function (tested against real Go, not proved from fmt's source: count such statements apart). THE CARD IS WHAT COUNTS. Prove the row's statement (the work); the ties are given (YtfjeinnemimjoaaGreatDoorTie.lean); close each card by the builder's one call (the guide's Derived/Test/ToyasCard.lean, 'card_holds'). Laid BY PROGRAM, IN A SANDBOX (cutbox-door.mjs). By AI agents, Wed Nov 11 2026. No macro, syntax, notation, axiom, sorry.
-/
import Derived.Test.YtfjeinnemimjoaaGreatDoorRows
import GoSem.ClaimSeven
namespace Go.Proofs.YtfjeinnemimjoaaGreatDoor
namespace Rows

/-- THE TIED CARD OF 'tollbarlaw12.ScrubResponses'. -/
def scrubResponsesCard : Claim7 := { stood := { row := scrubResponsesRow, standIns := [], harness := (true, "951c49bddbed986ea75d4bb32bcad9f38983a77b61d6871d262725cfeba06313"), looks := false }, kinds := [], alts := [], laidByText := true, laidKinds := [.data, .data, .data, .data, .pinned], laidTests := true, laidLooks := .later }
def ScrubResponsesCardSaid : Prop := Claim7.holds Tryz.pinned (.plain (OpenSpec.ofChange scrubResponsesSpec)) scrubResponsesCard

/-- THE TIED CARD OF 'tollbarlaw08.HttpRequests'. -/
def httpRequestsCard : Claim7 := { stood := { row := httpRequestsRow, standIns := [], harness := (true, "951c49bddbed986ea75d4bb32bcad9f38983a77b61d6871d262725cfeba06313"), looks := false }, kinds := [], alts := [], laidByText := true, laidKinds := [.data, .data, .data, .data, .pinned], laidTests := true, laidLooks := .later }
def HttpRequestsCardSaid : Prop := Claim7.holds Tryz.pinned (.plain (OpenSpec.ofChange httpRequestsSpec)) httpRequestsCard

/-- THE TIED CARD OF 'tollbarlaw08.HttpResponses'. -/
def httpResponsesCard : Claim7 := { stood := { row := httpResponsesRow, standIns := [], harness := (true, "951c49bddbed986ea75d4bb32bcad9f38983a77b61d6871d262725cfeba06313"), looks := false }, kinds := [], alts := [], laidByText := true, laidKinds := [.data, .data, .data, .data, .pinned], laidTests := true, laidLooks := .later }
def HttpResponsesCardSaid : Prop := Claim7.holds Tryz.pinned (.plain (OpenSpec.ofChange httpResponsesSpec)) httpResponsesCard

/-- THE TIED CARD OF 'tollbarlaw08.HttpBare'. -/
def httpBareCard : Claim7 := { stood := { row := httpBareRow, standIns := [], harness := (true, "951c49bddbed986ea75d4bb32bcad9f38983a77b61d6871d262725cfeba06313"), looks := false }, kinds := [], alts := [], laidByText := true, laidKinds := [.data, .data, .data, .data, .pinned], laidTests := true, laidLooks := .later }
def HttpBareCardSaid : Prop := Claim7.holds Tryz.pinned (.plain (OpenSpec.ofChange httpBareSpec)) httpBareCard

/-- THE TIED CARD OF 'tollbarlaw08.HttpLimits'. -/
def httpLimitsCard : Claim7 := { stood := { row := httpLimitsRow, standIns := [], harness := (true, "951c49bddbed986ea75d4bb32bcad9f38983a77b61d6871d262725cfeba06313"), looks := false }, kinds := [], alts := [], laidByText := true, laidKinds := [.data, .data, .data, .data, .pinned], laidTests := true, laidLooks := .later }
def HttpLimitsCardSaid : Prop := Claim7.holds Tryz.pinned (.plain (OpenSpec.ofChange httpLimitsSpec)) httpLimitsCard

/-- THE TIED CARD OF 'tollbarlaw08.HttpHosts'. -/
def httpHostsCard : Claim7 := { stood := { row := httpHostsRow, standIns := [], harness := (true, "951c49bddbed986ea75d4bb32bcad9f38983a77b61d6871d262725cfeba06313"), looks := false }, kinds := [], alts := [], laidByText := true, laidKinds := [.data, .data, .data, .data, .pinned], laidTests := true, laidLooks := .later }
def HttpHostsCardSaid : Prop := Claim7.holds Tryz.pinned (.plain (OpenSpec.ofChange httpHostsSpec)) httpHostsCard

/-- THE TIED CARD OF 'tollbarlaw08.HttpHeads'. -/
def httpHeadsCard : Claim7 := { stood := { row := httpHeadsRow, standIns := [], harness := (true, "951c49bddbed986ea75d4bb32bcad9f38983a77b61d6871d262725cfeba06313"), looks := false }, kinds := [], alts := [], laidByText := true, laidKinds := [.data, .data, .data, .data, .pinned], laidTests := true, laidLooks := .later }
def HttpHeadsCardSaid : Prop := Claim7.holds Tryz.pinned (.plain (OpenSpec.ofChange httpHeadsSpec)) httpHeadsCard

/-- THE TIED CARD OF 'tollbarlaw08.HttpWrites'. -/
def httpWritesCard : Claim7 := { stood := { row := httpWritesRow, standIns := [], harness := (true, "951c49bddbed986ea75d4bb32bcad9f38983a77b61d6871d262725cfeba06313"), looks := false }, kinds := [], alts := [], laidByText := true, laidKinds := [.data, .data, .data, .data, .pinned], laidTests := true, laidLooks := .later }
def HttpWritesCardSaid : Prop := Claim7.holds Tryz.pinned (.plain (OpenSpec.ofChange httpWritesSpec)) httpWritesCard

/-- THE TIED CARD OF 'tollbarlaw08.HttpGrows'. -/
def httpGrowsCard : Claim7 := { stood := { row := httpGrowsRow, standIns := [], harness := (true, "951c49bddbed986ea75d4bb32bcad9f38983a77b61d6871d262725cfeba06313"), looks := false }, kinds := [], alts := [], laidByText := true, laidKinds := [.data, .data, .data, .data, .pinned], laidTests := true, laidLooks := .later }
def HttpGrowsCardSaid : Prop := Claim7.holds Tryz.pinned (.plain (OpenSpec.ofChange httpGrowsSpec)) httpGrowsCard

/-- THE SECOND FORM's CARD OF 'tollbarlaw12.ScrubResponses'. -/
def scrubResponsesUptoCard : Claim7 := { stood := { row := scrubResponsesUptoRow, standIns := [], harness := (true, "951c49bddbed986ea75d4bb32bcad9f38983a77b61d6871d262725cfeba06313"), looks := false }, kinds := [], alts := [], laidByText := true, laidKinds := [.data, .data, .data, .data, .pinned], laidTests := true, laidLooks := .later }
def ScrubResponsesUptoCardSaid : Prop := Claim7.holds Tryz.pinned (.plain (OpenSpec.upto scrubResponsesSpec)) scrubResponsesUptoCard

/-- THE SECOND FORM's CARD OF 'tollbarlaw08.HttpRequests'. -/
def httpRequestsUptoCard : Claim7 := { stood := { row := httpRequestsUptoRow, standIns := [], harness := (true, "951c49bddbed986ea75d4bb32bcad9f38983a77b61d6871d262725cfeba06313"), looks := false }, kinds := [], alts := [], laidByText := true, laidKinds := [.data, .data, .data, .data, .pinned], laidTests := true, laidLooks := .later }
def HttpRequestsUptoCardSaid : Prop := Claim7.holds Tryz.pinned (.plain (OpenSpec.upto httpRequestsSpec)) httpRequestsUptoCard

/-- THE SECOND FORM's CARD OF 'tollbarlaw08.HttpResponses'. -/
def httpResponsesUptoCard : Claim7 := { stood := { row := httpResponsesUptoRow, standIns := [], harness := (true, "951c49bddbed986ea75d4bb32bcad9f38983a77b61d6871d262725cfeba06313"), looks := false }, kinds := [], alts := [], laidByText := true, laidKinds := [.data, .data, .data, .data, .pinned], laidTests := true, laidLooks := .later }
def HttpResponsesUptoCardSaid : Prop := Claim7.holds Tryz.pinned (.plain (OpenSpec.upto httpResponsesSpec)) httpResponsesUptoCard

/-- THE SECOND FORM's CARD OF 'tollbarlaw08.HttpBare'. -/
def httpBareUptoCard : Claim7 := { stood := { row := httpBareUptoRow, standIns := [], harness := (true, "951c49bddbed986ea75d4bb32bcad9f38983a77b61d6871d262725cfeba06313"), looks := false }, kinds := [], alts := [], laidByText := true, laidKinds := [.data, .data, .data, .data, .pinned], laidTests := true, laidLooks := .later }
def HttpBareUptoCardSaid : Prop := Claim7.holds Tryz.pinned (.plain (OpenSpec.upto httpBareSpec)) httpBareUptoCard

/-- THE SECOND FORM's CARD OF 'tollbarlaw08.HttpLimits'. -/
def httpLimitsUptoCard : Claim7 := { stood := { row := httpLimitsUptoRow, standIns := [], harness := (true, "951c49bddbed986ea75d4bb32bcad9f38983a77b61d6871d262725cfeba06313"), looks := false }, kinds := [], alts := [], laidByText := true, laidKinds := [.data, .data, .data, .data, .pinned], laidTests := true, laidLooks := .later }
def HttpLimitsUptoCardSaid : Prop := Claim7.holds Tryz.pinned (.plain (OpenSpec.upto httpLimitsSpec)) httpLimitsUptoCard

/-- THE SECOND FORM's CARD OF 'tollbarlaw08.HttpHosts'. -/
def httpHostsUptoCard : Claim7 := { stood := { row := httpHostsUptoRow, standIns := [], harness := (true, "951c49bddbed986ea75d4bb32bcad9f38983a77b61d6871d262725cfeba06313"), looks := false }, kinds := [], alts := [], laidByText := true, laidKinds := [.data, .data, .data, .data, .pinned], laidTests := true, laidLooks := .later }
def HttpHostsUptoCardSaid : Prop := Claim7.holds Tryz.pinned (.plain (OpenSpec.upto httpHostsSpec)) httpHostsUptoCard

/-- THE SECOND FORM's CARD OF 'tollbarlaw08.HttpHeads'. -/
def httpHeadsUptoCard : Claim7 := { stood := { row := httpHeadsUptoRow, standIns := [], harness := (true, "951c49bddbed986ea75d4bb32bcad9f38983a77b61d6871d262725cfeba06313"), looks := false }, kinds := [], alts := [], laidByText := true, laidKinds := [.data, .data, .data, .data, .pinned], laidTests := true, laidLooks := .later }
def HttpHeadsUptoCardSaid : Prop := Claim7.holds Tryz.pinned (.plain (OpenSpec.upto httpHeadsSpec)) httpHeadsUptoCard

/-- THE SECOND FORM's CARD OF 'tollbarlaw08.HttpWrites'. -/
def httpWritesUptoCard : Claim7 := { stood := { row := httpWritesUptoRow, standIns := [], harness := (true, "951c49bddbed986ea75d4bb32bcad9f38983a77b61d6871d262725cfeba06313"), looks := false }, kinds := [], alts := [], laidByText := true, laidKinds := [.data, .data, .data, .data, .pinned], laidTests := true, laidLooks := .later }
def HttpWritesUptoCardSaid : Prop := Claim7.holds Tryz.pinned (.plain (OpenSpec.upto httpWritesSpec)) httpWritesUptoCard

/-- THE SECOND FORM's CARD OF 'tollbarlaw08.HttpGrows'. -/
def httpGrowsUptoCard : Claim7 := { stood := { row := httpGrowsUptoRow, standIns := [], harness := (true, "951c49bddbed986ea75d4bb32bcad9f38983a77b61d6871d262725cfeba06313"), looks := false }, kinds := [], alts := [], laidByText := true, laidKinds := [.data, .data, .data, .data, .pinned], laidTests := true, laidLooks := .later }
def HttpGrowsUptoCardSaid : Prop := Claim7.holds Tryz.pinned (.plain (OpenSpec.upto httpGrowsSpec)) httpGrowsUptoCard
end Rows
end Go.Proofs.YtfjeinnemimjoaaGreatDoor
