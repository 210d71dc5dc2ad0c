/-
  DERIVED. GIVEN WITH THE SEED: THE CARDS: each row of YtpmgdmbcdohgcaaDoorRows.lean that lists a variable, with what it lists TIED to the program's text (the seventh form; the later family's looks); each row that meets fmt, with fmt's text TOLD by the authors' own Lean function (tested against real Go, not proved from fmt's source: count such statements apart). THE CARD IS WHAT COUNTS. Prove the row's statement (the work); the ties are given (YtpmgdmbcdohgcaaDoorTie.lean); close each card by the builder's one call (the guide's Derived/Test/ToyasCard.lean, 'card_holds'). Laid BY PROGRAM, IN A SANDBOX (cutbox-door.mjs). By AI agents, Wed Nov 11 2026. No macro, syntax, notation, axiom, sorry.
-/
import Derived.Test.YtpmgdmbcdohgcaaDoorRows
import GoSem.ClaimSeven
namespace Go.Proofs.YtpmgdmbcdohgcaaDoor
namespace Rows

/-- THE TIED CARD OF 'ferrylaw16.ImageFillApart'. -/
def imageFillApartCard : Claim7 := { stood := { row := imageFillApartRow, standIns := [], harness := (true, "4d54e295e198290be5e5231690219c45547993aafc6cc7cf98f76922a41d6937"), looks := true }, kinds := [], alts := [], laidByText := true, laidKinds := [.handle, .sentinel, .sentinel, .sentinel, .sentinel, .sentinel, .sentinel, .sentinel, .sentinel, .sentinel, .sentinel, .sentinel, .sentinel, .sentinel, .sentinel, .sentinel, .sentinel, .sentinel, .sentinel, .sentinel, .sentinel], laidTests := true, laidLooks := .later }
def ImageFillApartCardSaid : Prop := Claim7.holds Tryd.pinned (.plain (OpenSpec.ofChange imageFillApartSpec)) imageFillApartCard

/-- THE TIED CARD OF 'ferrylaw16.ImagePacks'. -/
def imagePacksCard : Claim7 := { stood := { row := imagePacksRow, standIns := [], harness := (true, "4d54e295e198290be5e5231690219c45547993aafc6cc7cf98f76922a41d6937"), looks := true }, kinds := [], alts := [], laidByText := true, laidKinds := [.handle, .sentinel, .sentinel, .sentinel, .sentinel, .sentinel, .sentinel, .sentinel, .sentinel, .sentinel, .sentinel, .sentinel, .sentinel, .sentinel, .sentinel, .sentinel, .sentinel, .sentinel, .sentinel, .sentinel, .sentinel], laidTests := true, laidLooks := .later }
def ImagePacksCardSaid : Prop := Claim7.holds Tryd.pinned (.plain (OpenSpec.ofChange imagePacksSpec)) imagePacksCard

/-- THE TIED CARD OF 'ferrylaw16.ImageFills'. -/
def imageFillsCard : Claim7 := { stood := { row := imageFillsRow, standIns := [], harness := (true, "4d54e295e198290be5e5231690219c45547993aafc6cc7cf98f76922a41d6937"), looks := true }, kinds := [], alts := [], laidByText := true, laidKinds := [.handle, .sentinel, .sentinel, .sentinel, .sentinel, .sentinel, .sentinel, .sentinel, .sentinel, .sentinel, .sentinel, .sentinel, .sentinel, .sentinel, .sentinel, .sentinel, .sentinel, .sentinel, .sentinel, .sentinel, .sentinel], laidTests := true, laidLooks := .later }
def ImageFillsCardSaid : Prop := Claim7.holds Tryd.pinned (.plain (OpenSpec.ofChange imageFillsSpec)) imageFillsCard

/-- THE SECOND FORM's CARD OF 'ferrylaw16.ImageFillApart'. -/
def imageFillApartUptoCard : Claim7 := { stood := { row := imageFillApartUptoRow, standIns := [], harness := (true, "4d54e295e198290be5e5231690219c45547993aafc6cc7cf98f76922a41d6937"), looks := true }, kinds := [], alts := [], laidByText := true, laidKinds := [.handle, .sentinel, .sentinel, .sentinel, .sentinel, .sentinel, .sentinel, .sentinel, .sentinel, .sentinel, .sentinel, .sentinel, .sentinel, .sentinel, .sentinel, .sentinel, .sentinel, .sentinel, .sentinel, .sentinel, .sentinel], laidTests := true, laidLooks := .later }
def ImageFillApartUptoCardSaid : Prop := Claim7.holds Tryd.pinned (.plain (OpenSpec.upto imageFillApartSpec)) imageFillApartUptoCard

/-- THE SECOND FORM's CARD OF 'ferrylaw16.ImagePacks'. -/
def imagePacksUptoCard : Claim7 := { stood := { row := imagePacksUptoRow, standIns := [], harness := (true, "4d54e295e198290be5e5231690219c45547993aafc6cc7cf98f76922a41d6937"), looks := true }, kinds := [], alts := [], laidByText := true, laidKinds := [.handle, .sentinel, .sentinel, .sentinel, .sentinel, .sentinel, .sentinel, .sentinel, .sentinel, .sentinel, .sentinel, .sentinel, .sentinel, .sentinel, .sentinel, .sentinel, .sentinel, .sentinel, .sentinel, .sentinel, .sentinel], laidTests := true, laidLooks := .later }
def ImagePacksUptoCardSaid : Prop := Claim7.holds Tryd.pinned (.plain (OpenSpec.upto imagePacksSpec)) imagePacksUptoCard

/-- THE SECOND FORM's CARD OF 'ferrylaw16.ImageFills'. -/
def imageFillsUptoCard : Claim7 := { stood := { row := imageFillsUptoRow, standIns := [], harness := (true, "4d54e295e198290be5e5231690219c45547993aafc6cc7cf98f76922a41d6937"), looks := true }, kinds := [], alts := [], laidByText := true, laidKinds := [.handle, .sentinel, .sentinel, .sentinel, .sentinel, .sentinel, .sentinel, .sentinel, .sentinel, .sentinel, .sentinel, .sentinel, .sentinel, .sentinel, .sentinel, .sentinel, .sentinel, .sentinel, .sentinel, .sentinel, .sentinel], laidTests := true, laidLooks := .later }
def ImageFillsUptoCardSaid : Prop := Claim7.holds Tryd.pinned (.plain (OpenSpec.upto imageFillsSpec)) imageFillsUptoCard
end Rows
end Go.Proofs.YtpmgdmbcdohgcaaDoor
