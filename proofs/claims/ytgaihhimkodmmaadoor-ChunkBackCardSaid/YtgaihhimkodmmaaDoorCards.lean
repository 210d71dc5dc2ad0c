/-
  DERIVED. GIVEN WITH THE SEED: THE CARDS: each row of YtgaihhimkodmmaaDoorRows.lean that lists a variable, with what it lists TIED to the program's text (the seventh form; the later family's looks); each row that meets fmt, with fmt's text TOLD by the authors' own Lean function (tested against real Go, not proved from fmt's source: count such statements apart). THE CARD IS WHAT COUNTS. Prove the row's statement (the work); the ties are given (YtgaihhimkodmmaaDoorTie.lean); close each card by the builder's one call (the guide's Derived/Test/ToyasCard.lean, 'card_holds'). Laid BY PROGRAM, IN A SANDBOX (cutbox-door.mjs). By AI agents, Wed Nov 11 2026. No macro, syntax, notation, axiom, sorry.
-/
import Derived.Test.YtgaihhimkodmmaaDoorRows
import GoSem.ClaimSeven
namespace Go.Proofs.YtgaihhimkodmmaaDoor
namespace Rows

/-- THE TIED CARD OF 'ferrylaw20.ChunkBack'. -/
def chunkBackCard : Claim7 := { stood := { row := chunkBackRow, standIns := [], harness := (true, "0aba2892dadaef05bb924c7ab3bcbb8043e7457084ad53263f8e1ae098efecbd"), looks := true }, kinds := [], alts := [], laidByText := true, laidKinds := [.data, .sentinel, .sentinel, .sentinel, .sentinel, .sentinel, .sentinel, .sentinel], laidTests := true, laidLooks := .later }
def ChunkBackCardSaid : Prop := Claim7.holds Tryd.pinned (.plain (OpenSpec.ofChange chunkBackSpec)) chunkBackCard

/-- THE TIED CARD OF 'ferrylaw22.XferComes'. -/
def xferComesCard : Claim7 := { stood := { row := xferComesRow, standIns := [], harness := (true, "0aba2892dadaef05bb924c7ab3bcbb8043e7457084ad53263f8e1ae098efecbd"), looks := true }, kinds := [], alts := [], laidByText := true, laidKinds := [.sentinel, .sentinel, .sentinel, .sentinel, .sentinel, .sentinel, .sentinel], laidTests := true, laidLooks := .later }
def XferComesCardSaid : Prop := Claim7.holds Tryd.pinned (.plain (OpenSpec.ofChange xferComesSpec)) xferComesCard

/-- THE TIED CARD OF 'ferrylaw22.XferArrives'. -/
def xferArrivesCard : Claim7 := { stood := { row := xferArrivesRow, standIns := [], harness := (true, "0aba2892dadaef05bb924c7ab3bcbb8043e7457084ad53263f8e1ae098efecbd"), looks := true }, kinds := [], alts := [], laidByText := true, laidKinds := [.sentinel, .sentinel, .sentinel, .sentinel, .sentinel, .sentinel, .sentinel], laidTests := true, laidLooks := .later }
def XferArrivesCardSaid : Prop := Claim7.holds Tryd.pinned (.plain (OpenSpec.ofChange xferArrivesSpec)) xferArrivesCard

/-- THE TIED CARD OF 'ferrylaw22.XferKeeps'. -/
def xferKeepsCard : Claim7 := { stood := { row := xferKeepsRow, standIns := [], harness := (true, "0aba2892dadaef05bb924c7ab3bcbb8043e7457084ad53263f8e1ae098efecbd"), looks := true }, kinds := [], alts := [], laidByText := true, laidKinds := [.sentinel, .sentinel, .sentinel, .sentinel, .sentinel, .sentinel, .sentinel], laidTests := true, laidLooks := .later }
def XferKeepsCardSaid : Prop := Claim7.holds Tryd.pinned (.plain (OpenSpec.ofChange xferKeepsSpec)) xferKeepsCard

/-- THE TIED CARD OF 'ferrylaw20.ChunkArrives'. -/
def chunkArrivesCard : Claim7 := { stood := { row := chunkArrivesRow, standIns := [], harness := (true, "0aba2892dadaef05bb924c7ab3bcbb8043e7457084ad53263f8e1ae098efecbd"), looks := true }, kinds := [], alts := [], laidByText := true, laidKinds := [.sentinel, .sentinel, .sentinel, .sentinel, .sentinel, .sentinel, .sentinel, .sentinel, .sentinel, .sentinel], laidTests := true, laidLooks := .later }
def ChunkArrivesCardSaid : Prop := Claim7.holds Tryd.pinned (.plain (OpenSpec.ofChange chunkArrivesSpec)) chunkArrivesCard

/-- THE TIED CARD OF 'ferrylaw20.ChunkNotes'. -/
def chunkNotesCard : Claim7 := { stood := { row := chunkNotesRow, standIns := [], harness := (true, "0aba2892dadaef05bb924c7ab3bcbb8043e7457084ad53263f8e1ae098efecbd"), looks := true }, kinds := [], alts := [], laidByText := true, laidKinds := [.handle, .sentinel, .sentinel, .sentinel, .sentinel, .sentinel, .sentinel, .sentinel, .sentinel, .sentinel, .sentinel, .sentinel, .sentinel, .sentinel, .sentinel, .sentinel, .sentinel, .sentinel, .sentinel, .sentinel, .sentinel], laidTests := true, laidLooks := .later }
def ChunkNotesCardSaid : Prop := Claim7.holds Tryd.pinned (.plain (OpenSpec.ofChange chunkNotesSpec)) chunkNotesCard

/-- THE TIED CARD OF 'ferrylaw20.ChunkCuts'. -/
def chunkCutsCard : Claim7 := { stood := { row := chunkCutsRow, standIns := [], harness := (true, "0aba2892dadaef05bb924c7ab3bcbb8043e7457084ad53263f8e1ae098efecbd"), looks := true }, kinds := [], alts := [], laidByText := true, laidKinds := [.handle, .sentinel, .sentinel, .sentinel, .sentinel, .sentinel, .sentinel, .sentinel, .sentinel, .sentinel, .sentinel, .sentinel, .sentinel, .sentinel, .sentinel, .sentinel, .sentinel, .sentinel, .sentinel, .sentinel, .sentinel], laidTests := true, laidLooks := .later }
def ChunkCutsCardSaid : Prop := Claim7.holds Tryd.pinned (.plain (OpenSpec.ofChange chunkCutsSpec)) chunkCutsCard

/-- THE TIED CARD OF 'ferrylaw22.XferStarts'. -/
def xferStartsCard : Claim7 := { stood := { row := xferStartsRow, standIns := [], harness := (true, "0aba2892dadaef05bb924c7ab3bcbb8043e7457084ad53263f8e1ae098efecbd"), looks := true }, kinds := [], alts := [], laidByText := true, laidKinds := [.handle, .sentinel, .sentinel, .sentinel, .sentinel, .sentinel, .sentinel, .sentinel, .sentinel, .sentinel, .sentinel, .sentinel, .sentinel, .sentinel, .sentinel, .sentinel, .sentinel, .sentinel, .sentinel, .sentinel, .sentinel], laidTests := true, laidLooks := .later }
def XferStartsCardSaid : Prop := Claim7.holds Tryd.pinned (.plain (OpenSpec.ofChange xferStartsSpec)) xferStartsCard

/-- THE TIED CARD OF 'ferrylaw22.XferTakes'. -/
def xferTakesCard : Claim7 := { stood := { row := xferTakesRow, standIns := [], harness := (true, "0aba2892dadaef05bb924c7ab3bcbb8043e7457084ad53263f8e1ae098efecbd"), looks := true }, kinds := [], alts := [], laidByText := true, laidKinds := [.handle, .sentinel, .sentinel, .sentinel, .sentinel, .sentinel, .sentinel, .sentinel, .sentinel, .sentinel, .sentinel, .sentinel, .sentinel, .sentinel, .sentinel, .sentinel, .sentinel, .sentinel, .sentinel, .sentinel, .sentinel], laidTests := true, laidLooks := .later }
def XferTakesCardSaid : Prop := Claim7.holds Tryd.pinned (.plain (OpenSpec.ofChange xferTakesSpec)) xferTakesCard

/-- THE TIED CARD OF 'ferrylaw22.XferSends'. -/
def xferSendsCard : Claim7 := { stood := { row := xferSendsRow, standIns := [], harness := (true, "0aba2892dadaef05bb924c7ab3bcbb8043e7457084ad53263f8e1ae098efecbd"), looks := true }, kinds := [], alts := [], laidByText := true, laidKinds := [.handle, .sentinel, .sentinel, .sentinel, .sentinel, .sentinel, .sentinel, .sentinel, .sentinel, .sentinel, .sentinel, .sentinel, .sentinel, .sentinel, .sentinel, .sentinel, .sentinel, .sentinel, .sentinel, .sentinel, .sentinel], laidTests := true, laidLooks := .later }
def XferSendsCardSaid : Prop := Claim7.holds Tryd.pinned (.plain (OpenSpec.ofChange xferSendsSpec)) xferSendsCard

/-- THE SECOND FORM's CARD OF 'ferrylaw20.ChunkBack'. -/
def chunkBackUptoCard : Claim7 := { stood := { row := chunkBackUptoRow, standIns := [], harness := (true, "0aba2892dadaef05bb924c7ab3bcbb8043e7457084ad53263f8e1ae098efecbd"), looks := true }, kinds := [], alts := [], laidByText := true, laidKinds := [.data, .sentinel, .sentinel, .sentinel, .sentinel, .sentinel, .sentinel, .sentinel], laidTests := true, laidLooks := .later }
def ChunkBackUptoCardSaid : Prop := Claim7.holds Tryd.pinned (.plain (OpenSpec.upto chunkBackSpec)) chunkBackUptoCard

/-- THE SECOND FORM's CARD OF 'ferrylaw22.XferComes'. -/
def xferComesUptoCard : Claim7 := { stood := { row := xferComesUptoRow, standIns := [], harness := (true, "0aba2892dadaef05bb924c7ab3bcbb8043e7457084ad53263f8e1ae098efecbd"), looks := true }, kinds := [], alts := [], laidByText := true, laidKinds := [.sentinel, .sentinel, .sentinel, .sentinel, .sentinel, .sentinel, .sentinel], laidTests := true, laidLooks := .later }
def XferComesUptoCardSaid : Prop := Claim7.holds Tryd.pinned (.plain (OpenSpec.upto xferComesSpec)) xferComesUptoCard

/-- THE SECOND FORM's CARD OF 'ferrylaw22.XferArrives'. -/
def xferArrivesUptoCard : Claim7 := { stood := { row := xferArrivesUptoRow, standIns := [], harness := (true, "0aba2892dadaef05bb924c7ab3bcbb8043e7457084ad53263f8e1ae098efecbd"), looks := true }, kinds := [], alts := [], laidByText := true, laidKinds := [.sentinel, .sentinel, .sentinel, .sentinel, .sentinel, .sentinel, .sentinel], laidTests := true, laidLooks := .later }
def XferArrivesUptoCardSaid : Prop := Claim7.holds Tryd.pinned (.plain (OpenSpec.upto xferArrivesSpec)) xferArrivesUptoCard

/-- THE SECOND FORM's CARD OF 'ferrylaw22.XferKeeps'. -/
def xferKeepsUptoCard : Claim7 := { stood := { row := xferKeepsUptoRow, standIns := [], harness := (true, "0aba2892dadaef05bb924c7ab3bcbb8043e7457084ad53263f8e1ae098efecbd"), looks := true }, kinds := [], alts := [], laidByText := true, laidKinds := [.sentinel, .sentinel, .sentinel, .sentinel, .sentinel, .sentinel, .sentinel], laidTests := true, laidLooks := .later }
def XferKeepsUptoCardSaid : Prop := Claim7.holds Tryd.pinned (.plain (OpenSpec.upto xferKeepsSpec)) xferKeepsUptoCard

/-- THE SECOND FORM's CARD OF 'ferrylaw20.ChunkArrives'. -/
def chunkArrivesUptoCard : Claim7 := { stood := { row := chunkArrivesUptoRow, standIns := [], harness := (true, "0aba2892dadaef05bb924c7ab3bcbb8043e7457084ad53263f8e1ae098efecbd"), looks := true }, kinds := [], alts := [], laidByText := true, laidKinds := [.sentinel, .sentinel, .sentinel, .sentinel, .sentinel, .sentinel, .sentinel, .sentinel, .sentinel, .sentinel], laidTests := true, laidLooks := .later }
def ChunkArrivesUptoCardSaid : Prop := Claim7.holds Tryd.pinned (.plain (OpenSpec.upto chunkArrivesSpec)) chunkArrivesUptoCard

/-- THE SECOND FORM's CARD OF 'ferrylaw20.ChunkNotes'. -/
def chunkNotesUptoCard : Claim7 := { stood := { row := chunkNotesUptoRow, standIns := [], harness := (true, "0aba2892dadaef05bb924c7ab3bcbb8043e7457084ad53263f8e1ae098efecbd"), looks := true }, kinds := [], alts := [], laidByText := true, laidKinds := [.handle, .sentinel, .sentinel, .sentinel, .sentinel, .sentinel, .sentinel, .sentinel, .sentinel, .sentinel, .sentinel, .sentinel, .sentinel, .sentinel, .sentinel, .sentinel, .sentinel, .sentinel, .sentinel, .sentinel, .sentinel], laidTests := true, laidLooks := .later }
def ChunkNotesUptoCardSaid : Prop := Claim7.holds Tryd.pinned (.plain (OpenSpec.upto chunkNotesSpec)) chunkNotesUptoCard

/-- THE SECOND FORM's CARD OF 'ferrylaw20.ChunkCuts'. -/
def chunkCutsUptoCard : Claim7 := { stood := { row := chunkCutsUptoRow, standIns := [], harness := (true, "0aba2892dadaef05bb924c7ab3bcbb8043e7457084ad53263f8e1ae098efecbd"), looks := true }, kinds := [], alts := [], laidByText := true, laidKinds := [.handle, .sentinel, .sentinel, .sentinel, .sentinel, .sentinel, .sentinel, .sentinel, .sentinel, .sentinel, .sentinel, .sentinel, .sentinel, .sentinel, .sentinel, .sentinel, .sentinel, .sentinel, .sentinel, .sentinel, .sentinel], laidTests := true, laidLooks := .later }
def ChunkCutsUptoCardSaid : Prop := Claim7.holds Tryd.pinned (.plain (OpenSpec.upto chunkCutsSpec)) chunkCutsUptoCard

/-- THE SECOND FORM's CARD OF 'ferrylaw22.XferStarts'. -/
def xferStartsUptoCard : Claim7 := { stood := { row := xferStartsUptoRow, standIns := [], harness := (true, "0aba2892dadaef05bb924c7ab3bcbb8043e7457084ad53263f8e1ae098efecbd"), looks := true }, kinds := [], alts := [], laidByText := true, laidKinds := [.handle, .sentinel, .sentinel, .sentinel, .sentinel, .sentinel, .sentinel, .sentinel, .sentinel, .sentinel, .sentinel, .sentinel, .sentinel, .sentinel, .sentinel, .sentinel, .sentinel, .sentinel, .sentinel, .sentinel, .sentinel], laidTests := true, laidLooks := .later }
def XferStartsUptoCardSaid : Prop := Claim7.holds Tryd.pinned (.plain (OpenSpec.upto xferStartsSpec)) xferStartsUptoCard

/-- THE SECOND FORM's CARD OF 'ferrylaw22.XferTakes'. -/
def xferTakesUptoCard : Claim7 := { stood := { row := xferTakesUptoRow, standIns := [], harness := (true, "0aba2892dadaef05bb924c7ab3bcbb8043e7457084ad53263f8e1ae098efecbd"), looks := true }, kinds := [], alts := [], laidByText := true, laidKinds := [.handle, .sentinel, .sentinel, .sentinel, .sentinel, .sentinel, .sentinel, .sentinel, .sentinel, .sentinel, .sentinel, .sentinel, .sentinel, .sentinel, .sentinel, .sentinel, .sentinel, .sentinel, .sentinel, .sentinel, .sentinel], laidTests := true, laidLooks := .later }
def XferTakesUptoCardSaid : Prop := Claim7.holds Tryd.pinned (.plain (OpenSpec.upto xferTakesSpec)) xferTakesUptoCard

/-- THE SECOND FORM's CARD OF 'ferrylaw22.XferSends'. -/
def xferSendsUptoCard : Claim7 := { stood := { row := xferSendsUptoRow, standIns := [], harness := (true, "0aba2892dadaef05bb924c7ab3bcbb8043e7457084ad53263f8e1ae098efecbd"), looks := true }, kinds := [], alts := [], laidByText := true, laidKinds := [.handle, .sentinel, .sentinel, .sentinel, .sentinel, .sentinel, .sentinel, .sentinel, .sentinel, .sentinel, .sentinel, .sentinel, .sentinel, .sentinel, .sentinel, .sentinel, .sentinel, .sentinel, .sentinel, .sentinel, .sentinel], laidTests := true, laidLooks := .later }
def XferSendsUptoCardSaid : Prop := Claim7.holds Tryd.pinned (.plain (OpenSpec.upto xferSendsSpec)) xferSendsUptoCard
end Rows
end Go.Proofs.YtgaihhimkodmmaaDoor
