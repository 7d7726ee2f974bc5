/-
  DERIVED. GIVEN WITH THE SEED: THE CARDS: each row of YtppbcankhkgpfaaDoorRows.lean that lists a variable, with what it lists TIED to the program's text (the seventh form; the later family's looks); each row that meets fmt, with fmt's text TOLD by the authors' own Lean function (tested against real Go, not proved from fmt's source: count such statements apart). THE CARD IS WHAT COUNTS. Prove the row's statement (the work); the ties are given (YtppbcankhkgpfaaDoorTie.lean); close each card by the builder's one call (the guide's Derived/Test/ToyasCard.lean, 'card_holds'). Laid BY PROGRAM, IN A SANDBOX (cutbox-door.mjs). By AI agents, Wed Nov 11 2026. No macro, syntax, notation, axiom, sorry.
-/
import Derived.Test.YtppbcankhkgpfaaDoorRows
import GoSem.ClaimSeven
namespace Go.Proofs.YtppbcankhkgpfaaDoor
namespace Rows

/-- THE TIED CARD OF 'rootcellarlaw7.DirTakes'. -/
def dirTakesCard : Claim7 := { stood := { row := dirTakesRow, standIns := [], harness := (true, "d973ca343971e168ddd3da1f6ba26c8a38adf59080ed92615652e975884b494f"), looks := false }, kinds := [], alts := [], laidByText := true, laidKinds := [.data, .pinned], laidTests := true, laidLooks := .later }
def DirTakesCardSaid : Prop := Claim7.holds Tryd.pinned (.plain (OpenSpec.ofChange dirTakesSpec)) dirTakesCard

/-- THE TIED CARD OF 'rootcellarlaw7.DirBack'. -/
def dirBackCard : Claim7 := { stood := { row := dirBackRow, standIns := [], harness := (true, "d973ca343971e168ddd3da1f6ba26c8a38adf59080ed92615652e975884b494f"), looks := false }, kinds := [], alts := [], laidByText := true, laidKinds := [.data, .pinned], laidTests := true, laidLooks := .later }
def DirBackCardSaid : Prop := Claim7.holds Tryd.pinned (.plain (OpenSpec.ofChange dirBackSpec)) dirBackCard

/-- THE TIED CARD OF 'rootcellarlaw7.DirTurned'. -/
def dirTurnedCard : Claim7 := { stood := { row := dirTurnedRow, standIns := [], harness := (true, "d973ca343971e168ddd3da1f6ba26c8a38adf59080ed92615652e975884b494f"), looks := false }, kinds := [], alts := [], laidByText := true, laidKinds := [.data, .pinned], laidTests := true, laidLooks := .later }
def DirTurnedCardSaid : Prop := Claim7.holds Tryd.pinned (.plain (OpenSpec.ofChange dirTurnedSpec)) dirTurnedCard

/-- THE TIED CARD OF 'rootcellarlaw7.DirFiles'. -/
def dirFilesCard : Claim7 := { stood := { row := dirFilesRow, standIns := [], harness := (true, "d973ca343971e168ddd3da1f6ba26c8a38adf59080ed92615652e975884b494f"), looks := false }, kinds := [], alts := [], laidByText := true, laidKinds := [.data, .pinned], laidTests := true, laidLooks := .later }
def DirFilesCardSaid : Prop := Claim7.holds Tryd.pinned (.plain (OpenSpec.ofChange dirFilesSpec)) dirFilesCard

/-- THE TIED CARD OF 'rootcellarlaw7.DirKeeps'. -/
def dirKeepsCard : Claim7 := { stood := { row := dirKeepsRow, standIns := [], harness := (true, "d973ca343971e168ddd3da1f6ba26c8a38adf59080ed92615652e975884b494f"), looks := false }, kinds := [], alts := [], laidByText := true, laidKinds := [.data, .pinned], laidTests := true, laidLooks := .later }
def DirKeepsCardSaid : Prop := Claim7.holds Tryd.pinned (.plain (OpenSpec.ofChange dirKeepsSpec)) dirKeepsCard

/-- THE TIED CARD OF 'rootcellarlaw7.DirUses'. -/
def dirUsesCard : Claim7 := { stood := { row := dirUsesRow, standIns := [], harness := (true, "d973ca343971e168ddd3da1f6ba26c8a38adf59080ed92615652e975884b494f"), looks := false }, kinds := [], alts := [], laidByText := true, laidKinds := [.data, .pinned], laidTests := true, laidLooks := .later }
def DirUsesCardSaid : Prop := Claim7.holds Tryd.pinned (.plain (OpenSpec.ofChange dirUsesSpec)) dirUsesCard

/-- THE TIED CARD OF 'rootcellarlaw7.DirPuts'. -/
def dirPutsCard : Claim7 := { stood := { row := dirPutsRow, standIns := [], harness := (true, "d973ca343971e168ddd3da1f6ba26c8a38adf59080ed92615652e975884b494f"), looks := false }, kinds := [], alts := [], laidByText := true, laidKinds := [.data, .pinned], laidTests := true, laidLooks := .later }
def DirPutsCardSaid : Prop := Claim7.holds Tryd.pinned (.plain (OpenSpec.ofChange dirPutsSpec)) dirPutsCard

/-- THE SECOND FORM's CARD OF 'rootcellarlaw7.DirTakes'. -/
def dirTakesUptoCard : Claim7 := { stood := { row := dirTakesUptoRow, standIns := [], harness := (true, "d973ca343971e168ddd3da1f6ba26c8a38adf59080ed92615652e975884b494f"), looks := false }, kinds := [], alts := [], laidByText := true, laidKinds := [.data, .pinned], laidTests := true, laidLooks := .later }
def DirTakesUptoCardSaid : Prop := Claim7.holds Tryd.pinned (.plain (OpenSpec.upto dirTakesSpec)) dirTakesUptoCard

/-- THE SECOND FORM's CARD OF 'rootcellarlaw7.DirBack'. -/
def dirBackUptoCard : Claim7 := { stood := { row := dirBackUptoRow, standIns := [], harness := (true, "d973ca343971e168ddd3da1f6ba26c8a38adf59080ed92615652e975884b494f"), looks := false }, kinds := [], alts := [], laidByText := true, laidKinds := [.data, .pinned], laidTests := true, laidLooks := .later }
def DirBackUptoCardSaid : Prop := Claim7.holds Tryd.pinned (.plain (OpenSpec.upto dirBackSpec)) dirBackUptoCard

/-- THE SECOND FORM's CARD OF 'rootcellarlaw7.DirTurned'. -/
def dirTurnedUptoCard : Claim7 := { stood := { row := dirTurnedUptoRow, standIns := [], harness := (true, "d973ca343971e168ddd3da1f6ba26c8a38adf59080ed92615652e975884b494f"), looks := false }, kinds := [], alts := [], laidByText := true, laidKinds := [.data, .pinned], laidTests := true, laidLooks := .later }
def DirTurnedUptoCardSaid : Prop := Claim7.holds Tryd.pinned (.plain (OpenSpec.upto dirTurnedSpec)) dirTurnedUptoCard

/-- THE SECOND FORM's CARD OF 'rootcellarlaw7.DirFiles'. -/
def dirFilesUptoCard : Claim7 := { stood := { row := dirFilesUptoRow, standIns := [], harness := (true, "d973ca343971e168ddd3da1f6ba26c8a38adf59080ed92615652e975884b494f"), looks := false }, kinds := [], alts := [], laidByText := true, laidKinds := [.data, .pinned], laidTests := true, laidLooks := .later }
def DirFilesUptoCardSaid : Prop := Claim7.holds Tryd.pinned (.plain (OpenSpec.upto dirFilesSpec)) dirFilesUptoCard

/-- THE SECOND FORM's CARD OF 'rootcellarlaw7.DirKeeps'. -/
def dirKeepsUptoCard : Claim7 := { stood := { row := dirKeepsUptoRow, standIns := [], harness := (true, "d973ca343971e168ddd3da1f6ba26c8a38adf59080ed92615652e975884b494f"), looks := false }, kinds := [], alts := [], laidByText := true, laidKinds := [.data, .pinned], laidTests := true, laidLooks := .later }
def DirKeepsUptoCardSaid : Prop := Claim7.holds Tryd.pinned (.plain (OpenSpec.upto dirKeepsSpec)) dirKeepsUptoCard

/-- THE SECOND FORM's CARD OF 'rootcellarlaw7.DirUses'. -/
def dirUsesUptoCard : Claim7 := { stood := { row := dirUsesUptoRow, standIns := [], harness := (true, "d973ca343971e168ddd3da1f6ba26c8a38adf59080ed92615652e975884b494f"), looks := false }, kinds := [], alts := [], laidByText := true, laidKinds := [.data, .pinned], laidTests := true, laidLooks := .later }
def DirUsesUptoCardSaid : Prop := Claim7.holds Tryd.pinned (.plain (OpenSpec.upto dirUsesSpec)) dirUsesUptoCard

/-- THE SECOND FORM's CARD OF 'rootcellarlaw7.DirPuts'. -/
def dirPutsUptoCard : Claim7 := { stood := { row := dirPutsUptoRow, standIns := [], harness := (true, "d973ca343971e168ddd3da1f6ba26c8a38adf59080ed92615652e975884b494f"), looks := false }, kinds := [], alts := [], laidByText := true, laidKinds := [.data, .pinned], laidTests := true, laidLooks := .later }
def DirPutsUptoCardSaid : Prop := Claim7.holds Tryd.pinned (.plain (OpenSpec.upto dirPutsSpec)) dirPutsUptoCard
end Rows
end Go.Proofs.YtppbcankhkgpfaaDoor
