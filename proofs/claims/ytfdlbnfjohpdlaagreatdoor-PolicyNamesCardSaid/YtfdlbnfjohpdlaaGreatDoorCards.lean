/-
  DERIVED. GIVEN WITH THE SEED: THE CARDS: each row of YtfdlbnfjohpdlaaGreatDoorRows.lean that lists a variable, with what it lists TIED to the program's text (the seventh form; the later family's looks); each row that meets fmt, with fmt's text TOLD by the authors' own Lean function (tested against real Go, not proved from fmt's source: count such statements apart). THE CARD IS WHAT COUNTS. Prove the row's statement (the work); the ties are given (YtfdlbnfjohpdlaaGreatDoorTie.lean); close each card by the builder's one call (the guide's Derived/Test/ToyasCard.lean, 'card_holds'). Laid BY PROGRAM, IN A SANDBOX (cutbox-door.mjs). By AI agents, Wed Nov 11 2026. No macro, syntax, notation, axiom, sorry.
-/
import Derived.Test.YtfdlbnfjohpdlaaGreatDoorRows
import GoSem.ClaimSeven
namespace Go.Proofs.YtfdlbnfjohpdlaaGreatDoor
namespace Rows

/-- THE TIED CARD OF 'rootcellarlaw16.PolicyKeeps'. -/
def policyKeepsCard : Claim7 := { stood := { row := policyKeepsRow, standIns := [], harness := (true, "3f4bdcf052c03d7c0b4f82c20745eeff6bfd656f7d139071a0ab752b6278a599"), looks := false }, kinds := [], alts := [], laidByText := true, laidKinds := [.data, .data, .data, .data, .pinned], laidTests := true, laidLooks := .later }
def PolicyKeepsCardSaid : Prop := Claim7.holds Tryz.pinned (.plain (OpenSpec.ofChange policyKeepsSpec)) policyKeepsCard

/-- THE TIED CARD OF 'rootcellarlaw16.PolicyParts'. -/
def policyPartsCard : Claim7 := { stood := { row := policyPartsRow, standIns := [], harness := (true, "3f4bdcf052c03d7c0b4f82c20745eeff6bfd656f7d139071a0ab752b6278a599"), looks := false }, kinds := [], alts := [], laidByText := true, laidKinds := [.data, .data, .data, .data, .pinned], laidTests := true, laidLooks := .later }
def PolicyPartsCardSaid : Prop := Claim7.holds Tryz.pinned (.plain (OpenSpec.ofChange policyPartsSpec)) policyPartsCard

/-- THE TIED CARD OF 'rootcellarlaw16.PolicyMore'. -/
def policyMoreCard : Claim7 := { stood := { row := policyMoreRow, standIns := [], harness := (true, "3f4bdcf052c03d7c0b4f82c20745eeff6bfd656f7d139071a0ab752b6278a599"), looks := false }, kinds := [], alts := [], laidByText := true, laidKinds := [.data, .data, .data, .data, .pinned], laidTests := true, laidLooks := .later }
def PolicyMoreCardSaid : Prop := Claim7.holds Tryz.pinned (.plain (OpenSpec.ofChange policyMoreSpec)) policyMoreCard

/-- THE TIED CARD OF 'rootcellarlaw16.PolicyDaily'. -/
def policyDailyCard : Claim7 := { stood := { row := policyDailyRow, standIns := [], harness := (true, "3f4bdcf052c03d7c0b4f82c20745eeff6bfd656f7d139071a0ab752b6278a599"), looks := false }, kinds := [], alts := [], laidByText := true, laidKinds := [.data, .data, .data, .data, .pinned], laidTests := true, laidLooks := .later }
def PolicyDailyCardSaid : Prop := Claim7.holds Tryz.pinned (.plain (OpenSpec.ofChange policyDailySpec)) policyDailyCard

/-- THE TIED CARD OF 'rootcellarlaw16.PolicyNames'. -/
def policyNamesCard : Claim7 := { stood := { row := policyNamesRow, standIns := [], harness := (true, "3f4bdcf052c03d7c0b4f82c20745eeff6bfd656f7d139071a0ab752b6278a599"), looks := false }, kinds := [], alts := [], laidByText := true, laidKinds := [.data, .data, .data, .data, .pinned], laidTests := true, laidLooks := .later }
def PolicyNamesCardSaid : Prop := Claim7.holds Tryz.pinned (.plain (OpenSpec.ofChange policyNamesSpec)) policyNamesCard

/-- THE TIED CARD OF 'rootcellarlaw16.PolicyReads'. -/
def policyReadsCard : Claim7 := { stood := { row := policyReadsRow, standIns := [], harness := (true, "3f4bdcf052c03d7c0b4f82c20745eeff6bfd656f7d139071a0ab752b6278a599"), looks := false }, kinds := [], alts := [], laidByText := true, laidKinds := [.data, .data, .data, .data, .pinned], laidTests := true, laidLooks := .later }
def PolicyReadsCardSaid : Prop := Claim7.holds Tryz.pinned (.plain (OpenSpec.ofChange policyReadsSpec)) policyReadsCard

/-- THE TIED CARD OF 'rootcellarlaw16.PolicyBack'. -/
def policyBackCard : Claim7 := { stood := { row := policyBackRow, standIns := [], harness := (true, "3f4bdcf052c03d7c0b4f82c20745eeff6bfd656f7d139071a0ab752b6278a599"), looks := false }, kinds := [], alts := [], laidByText := true, laidKinds := [.data, .data, .data, .data, .pinned], laidTests := true, laidLooks := .later }
def PolicyBackCardSaid : Prop := Claim7.holds Tryz.pinned (.plain (OpenSpec.ofChange policyBackSpec)) policyBackCard

/-- THE SECOND FORM's CARD OF 'rootcellarlaw16.PolicyKeeps'. -/
def policyKeepsUptoCard : Claim7 := { stood := { row := policyKeepsUptoRow, standIns := [], harness := (true, "3f4bdcf052c03d7c0b4f82c20745eeff6bfd656f7d139071a0ab752b6278a599"), looks := false }, kinds := [], alts := [], laidByText := true, laidKinds := [.data, .data, .data, .data, .pinned], laidTests := true, laidLooks := .later }
def PolicyKeepsUptoCardSaid : Prop := Claim7.holds Tryz.pinned (.plain (OpenSpec.upto policyKeepsSpec)) policyKeepsUptoCard

/-- THE SECOND FORM's CARD OF 'rootcellarlaw16.PolicyParts'. -/
def policyPartsUptoCard : Claim7 := { stood := { row := policyPartsUptoRow, standIns := [], harness := (true, "3f4bdcf052c03d7c0b4f82c20745eeff6bfd656f7d139071a0ab752b6278a599"), looks := false }, kinds := [], alts := [], laidByText := true, laidKinds := [.data, .data, .data, .data, .pinned], laidTests := true, laidLooks := .later }
def PolicyPartsUptoCardSaid : Prop := Claim7.holds Tryz.pinned (.plain (OpenSpec.upto policyPartsSpec)) policyPartsUptoCard

/-- THE SECOND FORM's CARD OF 'rootcellarlaw16.PolicyMore'. -/
def policyMoreUptoCard : Claim7 := { stood := { row := policyMoreUptoRow, standIns := [], harness := (true, "3f4bdcf052c03d7c0b4f82c20745eeff6bfd656f7d139071a0ab752b6278a599"), looks := false }, kinds := [], alts := [], laidByText := true, laidKinds := [.data, .data, .data, .data, .pinned], laidTests := true, laidLooks := .later }
def PolicyMoreUptoCardSaid : Prop := Claim7.holds Tryz.pinned (.plain (OpenSpec.upto policyMoreSpec)) policyMoreUptoCard

/-- THE SECOND FORM's CARD OF 'rootcellarlaw16.PolicyDaily'. -/
def policyDailyUptoCard : Claim7 := { stood := { row := policyDailyUptoRow, standIns := [], harness := (true, "3f4bdcf052c03d7c0b4f82c20745eeff6bfd656f7d139071a0ab752b6278a599"), looks := false }, kinds := [], alts := [], laidByText := true, laidKinds := [.data, .data, .data, .data, .pinned], laidTests := true, laidLooks := .later }
def PolicyDailyUptoCardSaid : Prop := Claim7.holds Tryz.pinned (.plain (OpenSpec.upto policyDailySpec)) policyDailyUptoCard

/-- THE SECOND FORM's CARD OF 'rootcellarlaw16.PolicyNames'. -/
def policyNamesUptoCard : Claim7 := { stood := { row := policyNamesUptoRow, standIns := [], harness := (true, "3f4bdcf052c03d7c0b4f82c20745eeff6bfd656f7d139071a0ab752b6278a599"), looks := false }, kinds := [], alts := [], laidByText := true, laidKinds := [.data, .data, .data, .data, .pinned], laidTests := true, laidLooks := .later }
def PolicyNamesUptoCardSaid : Prop := Claim7.holds Tryz.pinned (.plain (OpenSpec.upto policyNamesSpec)) policyNamesUptoCard

/-- THE SECOND FORM's CARD OF 'rootcellarlaw16.PolicyReads'. -/
def policyReadsUptoCard : Claim7 := { stood := { row := policyReadsUptoRow, standIns := [], harness := (true, "3f4bdcf052c03d7c0b4f82c20745eeff6bfd656f7d139071a0ab752b6278a599"), looks := false }, kinds := [], alts := [], laidByText := true, laidKinds := [.data, .data, .data, .data, .pinned], laidTests := true, laidLooks := .later }
def PolicyReadsUptoCardSaid : Prop := Claim7.holds Tryz.pinned (.plain (OpenSpec.upto policyReadsSpec)) policyReadsUptoCard

/-- THE SECOND FORM's CARD OF 'rootcellarlaw16.PolicyBack'. -/
def policyBackUptoCard : Claim7 := { stood := { row := policyBackUptoRow, standIns := [], harness := (true, "3f4bdcf052c03d7c0b4f82c20745eeff6bfd656f7d139071a0ab752b6278a599"), looks := false }, kinds := [], alts := [], laidByText := true, laidKinds := [.data, .data, .data, .data, .pinned], laidTests := true, laidLooks := .later }
def PolicyBackUptoCardSaid : Prop := Claim7.holds Tryz.pinned (.plain (OpenSpec.upto policyBackSpec)) policyBackUptoCard
end Rows
end Go.Proofs.YtfdlbnfjohpdlaaGreatDoor
