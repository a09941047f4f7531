/-
  DERIVED. GIVEN WITH THE SEED: THE CARDS: each row of YthkkkfeiklfjoaaDoorRows.lean that lists a variable, with what it lists TIED to the program's text (the seventh form; the later family's looks); each row that meets fmt, with fmt's text TOLD by the authors' own Lean function (tested against real Go, not proved from fmt's source: count such statements apart). THE CARD IS WHAT COUNTS. Prove the row's statement (the work); the ties are given (YthkkkfeiklfjoaaDoorTie.lean); close each card by the builder's one call (the guide's Derived/Test/ToyasCard.lean, 'card_holds'). Laid BY PROGRAM, IN A SANDBOX (cutbox-door.mjs). By AI agents, Wed Nov 11 2026. No macro, syntax, notation, axiom, sorry.
-/
import Derived.Test.YthkkkfeiklfjoaaDoorRows
import GoSem.ClaimSeven
namespace Go.Proofs.YthkkkfeiklfjoaaDoor
namespace Rows

/-- THE TIED CARD OF 'tollbarlaw02.SignNumbers'. -/
def signNumbersCard : Claim7 := { stood := { row := signNumbersRow, standIns := [], harness := (true, "69367ca635ea0b22850dfff1e26456f435627f6e580b01015d7874cf37248d20"), looks := false }, kinds := [], alts := [], laidByText := true, laidKinds := [.data, .data, .data], laidTests := true, laidLooks := .later }
def SignNumbersCardSaid : Prop := Claim7.holds Tryd.pinned (.plain (OpenSpec.ofChange signNumbersSpec)) signNumbersCard

/-- THE TIED CARD OF 'tollbarlaw02.SignTells'. -/
def signTellsCard : Claim7 := { stood := { row := signTellsRow, standIns := [], harness := (true, "69367ca635ea0b22850dfff1e26456f435627f6e580b01015d7874cf37248d20"), looks := false }, kinds := [], alts := [], laidByText := true, laidKinds := [.data, .data, .data], laidTests := true, laidLooks := .later }
def SignTellsCardSaid : Prop := Claim7.holds Tryd.pinned (.plain (OpenSpec.ofChange signTellsSpec)) signTellsCard

/-- THE TIED CARD OF 'tollbarlaw02.SignTexts'. -/
def signTextsCard : Claim7 := { stood := { row := signTextsRow, standIns := [], harness := (true, "69367ca635ea0b22850dfff1e26456f435627f6e580b01015d7874cf37248d20"), looks := false }, kinds := [], alts := [], laidByText := true, laidKinds := [.data, .pinned], laidTests := true, laidLooks := .later }
def SignTextsCardSaid : Prop := Claim7.holds Tryd.pinned (.plain (OpenSpec.ofChange signTextsSpec)) signTextsCard

/-- THE TIED CARD OF 'tollbarlaw02.SignFolds'. -/
def signFoldsCard : Claim7 := { stood := { row := signFoldsRow, standIns := [], harness := (true, "69367ca635ea0b22850dfff1e26456f435627f6e580b01015d7874cf37248d20"), looks := false }, kinds := [], alts := [], laidByText := true, laidKinds := [.data, .pinned], laidTests := true, laidLooks := .later }
def SignFoldsCardSaid : Prop := Claim7.holds Tryd.pinned (.plain (OpenSpec.ofChange signFoldsSpec)) signFoldsCard

/-- THE TIED CARD OF 'tollbarlaw02.SignParts'. -/
def signPartsCard : Claim7 := { stood := { row := signPartsRow, standIns := [], harness := (true, "69367ca635ea0b22850dfff1e26456f435627f6e580b01015d7874cf37248d20"), looks := false }, kinds := [], alts := [], laidByText := true, laidKinds := [.data, .pinned], laidTests := true, laidLooks := .later }
def SignPartsCardSaid : Prop := Claim7.holds Tryd.pinned (.plain (OpenSpec.ofChange signPartsSpec)) signPartsCard

/-- THE TIED CARD OF 'tollbarlaw02.SignTrims'. -/
def signTrimsCard : Claim7 := { stood := { row := signTrimsRow, standIns := [], harness := (true, "69367ca635ea0b22850dfff1e26456f435627f6e580b01015d7874cf37248d20"), looks := false }, kinds := [], alts := [], laidByText := true, laidKinds := [.data, .pinned], laidTests := true, laidLooks := .later }
def SignTrimsCardSaid : Prop := Claim7.holds Tryd.pinned (.plain (OpenSpec.ofChange signTrimsSpec)) signTrimsCard

/-- THE SECOND FORM's CARD OF 'tollbarlaw02.SignNumbers'. -/
def signNumbersUptoCard : Claim7 := { stood := { row := signNumbersUptoRow, standIns := [], harness := (true, "69367ca635ea0b22850dfff1e26456f435627f6e580b01015d7874cf37248d20"), looks := false }, kinds := [], alts := [], laidByText := true, laidKinds := [.data, .data, .data], laidTests := true, laidLooks := .later }
def SignNumbersUptoCardSaid : Prop := Claim7.holds Tryd.pinned (.plain (OpenSpec.upto signNumbersSpec)) signNumbersUptoCard

/-- THE SECOND FORM's CARD OF 'tollbarlaw02.SignTells'. -/
def signTellsUptoCard : Claim7 := { stood := { row := signTellsUptoRow, standIns := [], harness := (true, "69367ca635ea0b22850dfff1e26456f435627f6e580b01015d7874cf37248d20"), looks := false }, kinds := [], alts := [], laidByText := true, laidKinds := [.data, .data, .data], laidTests := true, laidLooks := .later }
def SignTellsUptoCardSaid : Prop := Claim7.holds Tryd.pinned (.plain (OpenSpec.upto signTellsSpec)) signTellsUptoCard

/-- THE SECOND FORM's CARD OF 'tollbarlaw02.SignTexts'. -/
def signTextsUptoCard : Claim7 := { stood := { row := signTextsUptoRow, standIns := [], harness := (true, "69367ca635ea0b22850dfff1e26456f435627f6e580b01015d7874cf37248d20"), looks := false }, kinds := [], alts := [], laidByText := true, laidKinds := [.data, .pinned], laidTests := true, laidLooks := .later }
def SignTextsUptoCardSaid : Prop := Claim7.holds Tryd.pinned (.plain (OpenSpec.upto signTextsSpec)) signTextsUptoCard

/-- THE SECOND FORM's CARD OF 'tollbarlaw02.SignFolds'. -/
def signFoldsUptoCard : Claim7 := { stood := { row := signFoldsUptoRow, standIns := [], harness := (true, "69367ca635ea0b22850dfff1e26456f435627f6e580b01015d7874cf37248d20"), looks := false }, kinds := [], alts := [], laidByText := true, laidKinds := [.data, .pinned], laidTests := true, laidLooks := .later }
def SignFoldsUptoCardSaid : Prop := Claim7.holds Tryd.pinned (.plain (OpenSpec.upto signFoldsSpec)) signFoldsUptoCard

/-- THE SECOND FORM's CARD OF 'tollbarlaw02.SignParts'. -/
def signPartsUptoCard : Claim7 := { stood := { row := signPartsUptoRow, standIns := [], harness := (true, "69367ca635ea0b22850dfff1e26456f435627f6e580b01015d7874cf37248d20"), looks := false }, kinds := [], alts := [], laidByText := true, laidKinds := [.data, .pinned], laidTests := true, laidLooks := .later }
def SignPartsUptoCardSaid : Prop := Claim7.holds Tryd.pinned (.plain (OpenSpec.upto signPartsSpec)) signPartsUptoCard

/-- THE SECOND FORM's CARD OF 'tollbarlaw02.SignTrims'. -/
def signTrimsUptoCard : Claim7 := { stood := { row := signTrimsUptoRow, standIns := [], harness := (true, "69367ca635ea0b22850dfff1e26456f435627f6e580b01015d7874cf37248d20"), looks := false }, kinds := [], alts := [], laidByText := true, laidKinds := [.data, .pinned], laidTests := true, laidLooks := .later }
def SignTrimsUptoCardSaid : Prop := Claim7.holds Tryd.pinned (.plain (OpenSpec.upto signTrimsSpec)) signTrimsUptoCard
end Rows
end Go.Proofs.YthkkkfeiklfjoaaDoor
