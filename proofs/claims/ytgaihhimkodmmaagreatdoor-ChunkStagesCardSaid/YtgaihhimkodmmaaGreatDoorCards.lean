/-
  DERIVED. GIVEN WITH THE SEED: THE CARDS: each row of YtgaihhimkodmmaaGreatDoorRows.lean that lists a variable, with what it lists TIED to the program's text (the seventh form; the later family's looks); each row that meets fmt, with fmt's text TOLD by the authors' own Lean function (tested against real Go, not proved from fmt's source: count such statements apart). THE CARD IS WHAT COUNTS. Prove the row's statement (the work); the ties are given (YtgaihhimkodmmaaGreatDoorTie.lean); close each card by the builder's one call (the guide's Derived/Test/ToyasCard.lean, 'card_holds'). Laid BY PROGRAM, IN A SANDBOX (cutbox-door.mjs). By AI agents, Wed Nov 11 2026. No macro, syntax, notation, axiom, sorry.
-/
import Derived.Test.YtgaihhimkodmmaaGreatDoorRows
import GoSem.ClaimSeven
namespace Go.Proofs.YtgaihhimkodmmaaGreatDoor
namespace Rows

/-- THE TIED CARD OF 'ferrylaw20.ChunkApart'. -/
def chunkApartCard : Claim7 := { stood := { row := chunkApartRow, standIns := [], harness := (true, "1897226f9da1ace78cf53a9337a019878f86e1833f862b252016faf773deea59"), looks := true }, kinds := [], alts := [], laidByText := true, laidKinds := [.handle, .sentinel, .sentinel, .sentinel, .sentinel, .sentinel, .sentinel, .sentinel, .sentinel, .sentinel, .sentinel, .sentinel, .sentinel, .sentinel, .sentinel, .sentinel, .sentinel, .sentinel, .sentinel, .sentinel, .sentinel], laidTests := true, laidLooks := .later }
def ChunkApartCardSaid : Prop := Claim7.holds Tryz.pinned (.plain (OpenSpec.ofChange chunkApartSpec)) chunkApartCard

/-- THE TIED CARD OF 'ferrylaw20.ChunkStages'. -/
def chunkStagesCard : Claim7 := { stood := { row := chunkStagesRow, standIns := [], harness := (true, "1897226f9da1ace78cf53a9337a019878f86e1833f862b252016faf773deea59"), looks := true }, kinds := [], alts := [], laidByText := true, laidKinds := [.handle, .sentinel, .sentinel, .sentinel, .sentinel, .sentinel, .sentinel, .sentinel, .sentinel, .sentinel, .sentinel, .sentinel, .sentinel, .sentinel, .sentinel, .sentinel, .sentinel, .sentinel, .sentinel, .sentinel, .sentinel], laidTests := true, laidLooks := .later }
def ChunkStagesCardSaid : Prop := Claim7.holds Tryz.pinned (.plain (OpenSpec.ofChange chunkStagesSpec)) chunkStagesCard

/-- THE SECOND FORM's CARD OF 'ferrylaw20.ChunkApart'. -/
def chunkApartUptoCard : Claim7 := { stood := { row := chunkApartUptoRow, standIns := [], harness := (true, "1897226f9da1ace78cf53a9337a019878f86e1833f862b252016faf773deea59"), looks := true }, kinds := [], alts := [], laidByText := true, laidKinds := [.handle, .sentinel, .sentinel, .sentinel, .sentinel, .sentinel, .sentinel, .sentinel, .sentinel, .sentinel, .sentinel, .sentinel, .sentinel, .sentinel, .sentinel, .sentinel, .sentinel, .sentinel, .sentinel, .sentinel, .sentinel], laidTests := true, laidLooks := .later }
def ChunkApartUptoCardSaid : Prop := Claim7.holds Tryz.pinned (.plain (OpenSpec.upto chunkApartSpec)) chunkApartUptoCard

/-- THE SECOND FORM's CARD OF 'ferrylaw20.ChunkStages'. -/
def chunkStagesUptoCard : Claim7 := { stood := { row := chunkStagesUptoRow, standIns := [], harness := (true, "1897226f9da1ace78cf53a9337a019878f86e1833f862b252016faf773deea59"), looks := true }, kinds := [], alts := [], laidByText := true, laidKinds := [.handle, .sentinel, .sentinel, .sentinel, .sentinel, .sentinel, .sentinel, .sentinel, .sentinel, .sentinel, .sentinel, .sentinel, .sentinel, .sentinel, .sentinel, .sentinel, .sentinel, .sentinel, .sentinel, .sentinel, .sentinel], laidTests := true, laidLooks := .later }
def ChunkStagesUptoCardSaid : Prop := Claim7.holds Tryz.pinned (.plain (OpenSpec.upto chunkStagesSpec)) chunkStagesUptoCard
end Rows
end Go.Proofs.YtgaihhimkodmmaaGreatDoor
