/-
  DERIVED. GIVEN WITH THE SEED: THE CARDS: each row of YtcclaidbikjhiaaGreatDoorRows.lean that lists a variable, with what it lists TIED to the program's text (the seventh form; the later family's looks); each row that meets fmt, with fmt's text TOLD by the authors' own Lean function (tested against real Go, not proved from fmt's source: count such statements apart). THE CARD IS WHAT COUNTS. Prove the row's statement (the work); the ties are given (YtcclaidbikjhiaaGreatDoorTie.lean); close each card by the builder's one call (the guide's Derived/Test/ToyasCard.lean, 'card_holds'). Laid BY PROGRAM, IN A SANDBOX (cutbox-door.mjs). By AI agents, Wed Nov 11 2026. No macro, syntax, notation, axiom, sorry.
-/
import Derived.Test.YtcclaidbikjhiaaGreatDoorRows
import GoSem.ClaimSeven
namespace Go.Proofs.YtcclaidbikjhiaaGreatDoor
namespace Rows

/-- THE TIED CARD OF 'rootcellarlaw8.VolTwo'. -/
def volTwoCard : Claim7 := { stood := { row := volTwoRow, standIns := [], harness := (true, "a4558a24cbb33948f2c867f108d5d8f92f0cc0ef74cff0baba3a1d02e45b63ce"), looks := false }, kinds := [], alts := [], laidByText := true, laidKinds := [.data, .pinned], laidTests := true, laidLooks := .later }
def VolTwoCardSaid : Prop := Claim7.holds Tryz.pinned (.plain (OpenSpec.ofChange volTwoSpec)) volTwoCard

/-- THE TIED CARD OF 'rootcellarlaw8.VolMany'. -/
def volManyCard : Claim7 := { stood := { row := volManyRow, standIns := [], harness := (true, "a4558a24cbb33948f2c867f108d5d8f92f0cc0ef74cff0baba3a1d02e45b63ce"), looks := false }, kinds := [], alts := [], laidByText := true, laidKinds := [.data, .pinned], laidTests := true, laidLooks := .later }
def VolManyCardSaid : Prop := Claim7.holds Tryz.pinned (.plain (OpenSpec.ofChange volManySpec)) volManyCard

/-- THE TIED CARD OF 'rootcellarlaw8.VolReads'. -/
def volReadsCard : Claim7 := { stood := { row := volReadsRow, standIns := [], harness := (true, "a4558a24cbb33948f2c867f108d5d8f92f0cc0ef74cff0baba3a1d02e45b63ce"), looks := false }, kinds := [], alts := [], laidByText := true, laidKinds := [.data, .pinned], laidTests := true, laidLooks := .later }
def VolReadsCardSaid : Prop := Claim7.holds Tryz.pinned (.plain (OpenSpec.ofChange volReadsSpec)) volReadsCard

/-- THE TIED CARD OF 'rootcellarlaw8.VolWhole'. -/
def volWholeCard : Claim7 := { stood := { row := volWholeRow, standIns := [], harness := (true, "a4558a24cbb33948f2c867f108d5d8f92f0cc0ef74cff0baba3a1d02e45b63ce"), looks := false }, kinds := [], alts := [], laidByText := true, laidKinds := [.data, .pinned], laidTests := true, laidLooks := .later }
def VolWholeCardSaid : Prop := Claim7.holds Tryz.pinned (.plain (OpenSpec.ofChange volWholeSpec)) volWholeCard

/-- THE TIED CARD OF 'rootcellarlaw8.VolMounts'. -/
def volMountsCard : Claim7 := { stood := { row := volMountsRow, standIns := [], harness := (true, "a4558a24cbb33948f2c867f108d5d8f92f0cc0ef74cff0baba3a1d02e45b63ce"), looks := false }, kinds := [], alts := [], laidByText := true, laidKinds := [.data, .pinned], laidTests := true, laidLooks := .later }
def VolMountsCardSaid : Prop := Claim7.holds Tryz.pinned (.plain (OpenSpec.ofChange volMountsSpec)) volMountsCard

/-- THE TIED CARD OF 'rootcellarlaw8.VolSpace'. -/
def volSpaceCard : Claim7 := { stood := { row := volSpaceRow, standIns := [], harness := (true, "a4558a24cbb33948f2c867f108d5d8f92f0cc0ef74cff0baba3a1d02e45b63ce"), looks := false }, kinds := [], alts := [], laidByText := true, laidKinds := [.data, .pinned], laidTests := true, laidLooks := .later }
def VolSpaceCardSaid : Prop := Claim7.holds Tryz.pinned (.plain (OpenSpec.ofChange volSpaceSpec)) volSpaceCard

/-- THE TIED CARD OF 'rootcellarlaw8.VolPlays'. -/
def volPlaysCard : Claim7 := { stood := { row := volPlaysRow, standIns := [], harness := (true, "a4558a24cbb33948f2c867f108d5d8f92f0cc0ef74cff0baba3a1d02e45b63ce"), looks := false }, kinds := [], alts := [], laidByText := true, laidKinds := [.data, .pinned], laidTests := true, laidLooks := .later }
def VolPlaysCardSaid : Prop := Claim7.holds Tryz.pinned (.plain (OpenSpec.ofChange volPlaysSpec)) volPlaysCard

/-- THE SECOND FORM's CARD OF 'rootcellarlaw8.VolTwo'. -/
def volTwoUptoCard : Claim7 := { stood := { row := volTwoUptoRow, standIns := [], harness := (true, "a4558a24cbb33948f2c867f108d5d8f92f0cc0ef74cff0baba3a1d02e45b63ce"), looks := false }, kinds := [], alts := [], laidByText := true, laidKinds := [.data, .pinned], laidTests := true, laidLooks := .later }
def VolTwoUptoCardSaid : Prop := Claim7.holds Tryz.pinned (.plain (OpenSpec.upto volTwoSpec)) volTwoUptoCard

/-- THE SECOND FORM's CARD OF 'rootcellarlaw8.VolMany'. -/
def volManyUptoCard : Claim7 := { stood := { row := volManyUptoRow, standIns := [], harness := (true, "a4558a24cbb33948f2c867f108d5d8f92f0cc0ef74cff0baba3a1d02e45b63ce"), looks := false }, kinds := [], alts := [], laidByText := true, laidKinds := [.data, .pinned], laidTests := true, laidLooks := .later }
def VolManyUptoCardSaid : Prop := Claim7.holds Tryz.pinned (.plain (OpenSpec.upto volManySpec)) volManyUptoCard

/-- THE SECOND FORM's CARD OF 'rootcellarlaw8.VolReads'. -/
def volReadsUptoCard : Claim7 := { stood := { row := volReadsUptoRow, standIns := [], harness := (true, "a4558a24cbb33948f2c867f108d5d8f92f0cc0ef74cff0baba3a1d02e45b63ce"), looks := false }, kinds := [], alts := [], laidByText := true, laidKinds := [.data, .pinned], laidTests := true, laidLooks := .later }
def VolReadsUptoCardSaid : Prop := Claim7.holds Tryz.pinned (.plain (OpenSpec.upto volReadsSpec)) volReadsUptoCard

/-- THE SECOND FORM's CARD OF 'rootcellarlaw8.VolWhole'. -/
def volWholeUptoCard : Claim7 := { stood := { row := volWholeUptoRow, standIns := [], harness := (true, "a4558a24cbb33948f2c867f108d5d8f92f0cc0ef74cff0baba3a1d02e45b63ce"), looks := false }, kinds := [], alts := [], laidByText := true, laidKinds := [.data, .pinned], laidTests := true, laidLooks := .later }
def VolWholeUptoCardSaid : Prop := Claim7.holds Tryz.pinned (.plain (OpenSpec.upto volWholeSpec)) volWholeUptoCard

/-- THE SECOND FORM's CARD OF 'rootcellarlaw8.VolMounts'. -/
def volMountsUptoCard : Claim7 := { stood := { row := volMountsUptoRow, standIns := [], harness := (true, "a4558a24cbb33948f2c867f108d5d8f92f0cc0ef74cff0baba3a1d02e45b63ce"), looks := false }, kinds := [], alts := [], laidByText := true, laidKinds := [.data, .pinned], laidTests := true, laidLooks := .later }
def VolMountsUptoCardSaid : Prop := Claim7.holds Tryz.pinned (.plain (OpenSpec.upto volMountsSpec)) volMountsUptoCard

/-- THE SECOND FORM's CARD OF 'rootcellarlaw8.VolSpace'. -/
def volSpaceUptoCard : Claim7 := { stood := { row := volSpaceUptoRow, standIns := [], harness := (true, "a4558a24cbb33948f2c867f108d5d8f92f0cc0ef74cff0baba3a1d02e45b63ce"), looks := false }, kinds := [], alts := [], laidByText := true, laidKinds := [.data, .pinned], laidTests := true, laidLooks := .later }
def VolSpaceUptoCardSaid : Prop := Claim7.holds Tryz.pinned (.plain (OpenSpec.upto volSpaceSpec)) volSpaceUptoCard

/-- THE SECOND FORM's CARD OF 'rootcellarlaw8.VolPlays'. -/
def volPlaysUptoCard : Claim7 := { stood := { row := volPlaysUptoRow, standIns := [], harness := (true, "a4558a24cbb33948f2c867f108d5d8f92f0cc0ef74cff0baba3a1d02e45b63ce"), looks := false }, kinds := [], alts := [], laidByText := true, laidKinds := [.data, .pinned], laidTests := true, laidLooks := .later }
def VolPlaysUptoCardSaid : Prop := Claim7.holds Tryz.pinned (.plain (OpenSpec.upto volPlaysSpec)) volPlaysUptoCard
end Rows
end Go.Proofs.YtcclaidbikjhiaaGreatDoor
