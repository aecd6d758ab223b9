/-
  DERIVED. GIVEN WITH THE SEED: THE CARDS: each row of YtcemageindmbkaaDoorRows.lean that lists a variable, with what it lists TIED to the program's text (the seventh form; the later family's looks); each row that meets fmt, with fmt's text TOLD by the authors' own Lean function (tested against real Go, not proved from fmt's source: count such statements apart). THE CARD IS WHAT COUNTS. Prove the row's statement (the work); the ties are given (YtcemageindmbkaaDoorTie.lean); close each card by the builder's one call (the guide's Derived/Test/ToyasCard.lean, 'card_holds'). Laid BY PROGRAM, IN A SANDBOX (cutbox-door.mjs). By AI agents, Wed Nov 11 2026. No macro, syntax, notation, axiom, sorry.
-/
import Derived.Test.YtcemageindmbkaaDoorRows
import GoSem.ClaimSeven
namespace Go.Proofs.YtcemageindmbkaaDoor
namespace Rows

/-- THE TIED CARD OF 'keepsakelaw06.SlotSpans'. -/
def slotSpansCard : Claim7 := { stood := { row := slotSpansRow, standIns := [], harness := (true, "4726cab8438cce3db2bb13aeedb02c700030f2d6115c4540c3c86b96834fbcc4"), looks := false }, kinds := [], alts := [], laidByText := true, laidKinds := [.data], laidTests := true, laidLooks := .later }
def SlotSpansCardSaid : Prop := Claim7.holds Tryd.pinned (.plain (OpenSpec.ofChange slotSpansSpec)) slotSpansCard

/-- THE TIED CARD OF 'keepsakelaw06.SlotBytes'. -/
def slotBytesCard : Claim7 := { stood := { row := slotBytesRow, standIns := [], harness := (true, "4726cab8438cce3db2bb13aeedb02c700030f2d6115c4540c3c86b96834fbcc4"), looks := false }, kinds := [], alts := [], laidByText := true, laidKinds := [.data], laidTests := true, laidLooks := .later }
def SlotBytesCardSaid : Prop := Claim7.holds Tryd.pinned (.plain (OpenSpec.ofChange slotBytesSpec)) slotBytesCard

/-- THE TIED CARD OF 'keepsakelaw06.SlotStranger'. -/
def slotStrangerCard : Claim7 := { stood := { row := slotStrangerRow, standIns := [], harness := (true, "4726cab8438cce3db2bb13aeedb02c700030f2d6115c4540c3c86b96834fbcc4"), looks := false }, kinds := [], alts := [], laidByText := true, laidKinds := [.data], laidTests := true, laidLooks := .later }
def SlotStrangerCardSaid : Prop := Claim7.holds Tryd.pinned (.plain (OpenSpec.ofChange slotStrangerSpec)) slotStrangerCard

/-- THE TIED CARD OF 'keepsakelaw10.EepromPlays'. -/
def eepromPlaysCard : Claim7 := { stood := { row := eepromPlaysRow, standIns := [], harness := (true, "4726cab8438cce3db2bb13aeedb02c700030f2d6115c4540c3c86b96834fbcc4"), looks := false }, kinds := [], alts := [], laidByText := true, laidKinds := [.data], laidTests := true, laidLooks := .later }
def EepromPlaysCardSaid : Prop := Claim7.holds Tryd.pinned (.plain (OpenSpec.ofChange eepromPlaysSpec)) eepromPlaysCard

/-- THE TIED CARD OF 'keepsakelaw10.EepromCut'. -/
def eepromCutCard : Claim7 := { stood := { row := eepromCutRow, standIns := [], harness := (true, "4726cab8438cce3db2bb13aeedb02c700030f2d6115c4540c3c86b96834fbcc4"), looks := false }, kinds := [], alts := [], laidByText := true, laidKinds := [.data], laidTests := true, laidLooks := .later }
def EepromCutCardSaid : Prop := Claim7.holds Tryd.pinned (.plain (OpenSpec.ofChange eepromCutSpec)) eepromCutCard

/-- THE SECOND FORM's CARD OF 'keepsakelaw06.SlotSpans'. -/
def slotSpansUptoCard : Claim7 := { stood := { row := slotSpansUptoRow, standIns := [], harness := (true, "4726cab8438cce3db2bb13aeedb02c700030f2d6115c4540c3c86b96834fbcc4"), looks := false }, kinds := [], alts := [], laidByText := true, laidKinds := [.data], laidTests := true, laidLooks := .later }
def SlotSpansUptoCardSaid : Prop := Claim7.holds Tryd.pinned (.plain (OpenSpec.upto slotSpansSpec)) slotSpansUptoCard

/-- THE SECOND FORM's CARD OF 'keepsakelaw06.SlotBytes'. -/
def slotBytesUptoCard : Claim7 := { stood := { row := slotBytesUptoRow, standIns := [], harness := (true, "4726cab8438cce3db2bb13aeedb02c700030f2d6115c4540c3c86b96834fbcc4"), looks := false }, kinds := [], alts := [], laidByText := true, laidKinds := [.data], laidTests := true, laidLooks := .later }
def SlotBytesUptoCardSaid : Prop := Claim7.holds Tryd.pinned (.plain (OpenSpec.upto slotBytesSpec)) slotBytesUptoCard

/-- THE SECOND FORM's CARD OF 'keepsakelaw06.SlotStranger'. -/
def slotStrangerUptoCard : Claim7 := { stood := { row := slotStrangerUptoRow, standIns := [], harness := (true, "4726cab8438cce3db2bb13aeedb02c700030f2d6115c4540c3c86b96834fbcc4"), looks := false }, kinds := [], alts := [], laidByText := true, laidKinds := [.data], laidTests := true, laidLooks := .later }
def SlotStrangerUptoCardSaid : Prop := Claim7.holds Tryd.pinned (.plain (OpenSpec.upto slotStrangerSpec)) slotStrangerUptoCard

/-- THE SECOND FORM's CARD OF 'keepsakelaw10.EepromPlays'. -/
def eepromPlaysUptoCard : Claim7 := { stood := { row := eepromPlaysUptoRow, standIns := [], harness := (true, "4726cab8438cce3db2bb13aeedb02c700030f2d6115c4540c3c86b96834fbcc4"), looks := false }, kinds := [], alts := [], laidByText := true, laidKinds := [.data], laidTests := true, laidLooks := .later }
def EepromPlaysUptoCardSaid : Prop := Claim7.holds Tryd.pinned (.plain (OpenSpec.upto eepromPlaysSpec)) eepromPlaysUptoCard

/-- THE SECOND FORM's CARD OF 'keepsakelaw10.EepromCut'. -/
def eepromCutUptoCard : Claim7 := { stood := { row := eepromCutUptoRow, standIns := [], harness := (true, "4726cab8438cce3db2bb13aeedb02c700030f2d6115c4540c3c86b96834fbcc4"), looks := false }, kinds := [], alts := [], laidByText := true, laidKinds := [.data], laidTests := true, laidLooks := .later }
def EepromCutUptoCardSaid : Prop := Claim7.holds Tryd.pinned (.plain (OpenSpec.upto eepromCutSpec)) eepromCutUptoCard
end Rows
end Go.Proofs.YtcemageindmbkaaDoor
