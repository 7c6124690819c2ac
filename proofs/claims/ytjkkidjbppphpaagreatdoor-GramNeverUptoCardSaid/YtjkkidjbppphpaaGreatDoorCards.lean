/-
  DERIVED. GIVEN WITH THE SEED: THE CARDS: each row of YtjkkidjbppphpaaGreatDoorRows.lean that lists a variable, with what it lists TIED to the program's text (the seventh form; the later family's looks); each row that meets fmt, with fmt's text TOLD by the authors' own Lean function (tested against real Go, not proved from fmt's source: count such statements apart). THE CARD IS WHAT COUNTS. Prove the row's statement (the work); the ties are given (YtjkkidjbppphpaaGreatDoorTie.lean); close each card by the builder's one call (the guide's Derived/Test/ToyasCard.lean, 'card_holds'). Laid BY PROGRAM, IN A SANDBOX (cutbox-door.mjs). By AI agents, Wed Nov 11 2026. No macro, syntax, notation, axiom, sorry.
-/
import Derived.Test.YtjkkidjbppphpaaGreatDoorRows
import GoSem.ClaimSeven
namespace Go.Proofs.YtjkkidjbppphpaaGreatDoor
namespace Rows

/-- THE TIED CARD OF 'cincturelaw9.BoundOver'. -/
def boundOverCard : Claim7 := { stood := { row := boundOverRow, standIns := [], harness := (true, "5b44ca5a381ed27718028a62fe31c2d1f5f03007e5db35bf7a84014fc026c84d"), looks := false }, kinds := [], alts := [], laidByText := true, laidKinds := [.data], laidTests := true, laidLooks := .later }
def BoundOverCardSaid : Prop := Claim7.holds Tryz.pinned (.plain (OpenSpec.ofChange boundOverSpec)) boundOverCard

/-- THE TIED CARD OF 'cincturelaw9.BoundAdds'. -/
def boundAddsCard : Claim7 := { stood := { row := boundAddsRow, standIns := [], harness := (true, "5b44ca5a381ed27718028a62fe31c2d1f5f03007e5db35bf7a84014fc026c84d"), looks := false }, kinds := [], alts := [], laidByText := true, laidKinds := [.data], laidTests := true, laidLooks := .later }
def BoundAddsCardSaid : Prop := Claim7.holds Tryz.pinned (.plain (OpenSpec.ofChange boundAddsSpec)) boundAddsCard

/-- THE TIED CARD OF 'cincturelaw9.BoundHalves'. -/
def boundHalvesCard : Claim7 := { stood := { row := boundHalvesRow, standIns := [], harness := (true, "5b44ca5a381ed27718028a62fe31c2d1f5f03007e5db35bf7a84014fc026c84d"), looks := false }, kinds := [], alts := [], laidByText := true, laidKinds := [.data], laidTests := true, laidLooks := .later }
def BoundHalvesCardSaid : Prop := Claim7.holds Tryz.pinned (.plain (OpenSpec.ofChange boundHalvesSpec)) boundHalvesCard

/-- THE TIED CARD OF 'cincturelaw13.GramNever'. -/
def gramNeverCard : Claim7 := { stood := { row := gramNeverRow, standIns := [], harness := (true, "5b44ca5a381ed27718028a62fe31c2d1f5f03007e5db35bf7a84014fc026c84d"), looks := false }, kinds := [], alts := [], laidByText := true, laidKinds := [.data], laidTests := true, laidLooks := .later }
def GramNeverCardSaid : Prop := Claim7.holds Tryz.pinned (.plain (OpenSpec.ofChange gramNeverSpec)) gramNeverCard

/-- THE TIED CARD OF 'cincturelaw10.BernAdds'. -/
def bernAddsCard : Claim7 := { stood := { row := bernAddsRow, standIns := [], harness := (true, "5b44ca5a381ed27718028a62fe31c2d1f5f03007e5db35bf7a84014fc026c84d"), looks := false }, kinds := [], alts := [], laidByText := true, laidKinds := [.data], laidTests := true, laidLooks := .later }
def BernAddsCardSaid : Prop := Claim7.holds Tryz.pinned (.plain (OpenSpec.ofChange bernAddsSpec)) bernAddsCard

/-- THE TIED CARD OF 'cincturelaw9.BoundLinear'. -/
def boundLinearCard : Claim7 := { stood := { row := boundLinearRow, standIns := [], harness := (true, "5b44ca5a381ed27718028a62fe31c2d1f5f03007e5db35bf7a84014fc026c84d"), looks := false }, kinds := [], alts := [], laidByText := true, laidKinds := [.data], laidTests := true, laidLooks := .later }
def BoundLinearCardSaid : Prop := Claim7.holds Tryz.pinned (.plain (OpenSpec.ofChange boundLinearSpec)) boundLinearCard

/-- THE TIED CARD OF 'cincturelaw10.BernTells'. -/
def bernTellsCard : Claim7 := { stood := { row := bernTellsRow, standIns := [], harness := (true, "5b44ca5a381ed27718028a62fe31c2d1f5f03007e5db35bf7a84014fc026c84d"), looks := false }, kinds := [], alts := [], laidByText := true, laidKinds := [.data], laidTests := true, laidLooks := .later }
def BernTellsCardSaid : Prop := Claim7.holds Tryz.pinned (.plain (OpenSpec.ofChange bernTellsSpec)) bernTellsCard

/-- THE TIED CARD OF 'cincturelaw10.BernCorners'. -/
def bernCornersCard : Claim7 := { stood := { row := bernCornersRow, standIns := [], harness := (true, "5b44ca5a381ed27718028a62fe31c2d1f5f03007e5db35bf7a84014fc026c84d"), looks := false }, kinds := [], alts := [], laidByText := true, laidKinds := [.data], laidTests := true, laidLooks := .later }
def BernCornersCardSaid : Prop := Claim7.holds Tryz.pinned (.plain (OpenSpec.ofChange bernCornersSpec)) bernCornersCard

/-- THE TIED CARD OF 'cincturelaw9.BoundTells'. -/
def boundTellsCard : Claim7 := { stood := { row := boundTellsRow, standIns := [], harness := (true, "5b44ca5a381ed27718028a62fe31c2d1f5f03007e5db35bf7a84014fc026c84d"), looks := false }, kinds := [], alts := [], laidByText := true, laidKinds := [.data], laidTests := true, laidLooks := .later }
def BoundTellsCardSaid : Prop := Claim7.holds Tryz.pinned (.plain (OpenSpec.ofChange boundTellsSpec)) boundTellsCard

/-- THE TIED CARD OF 'cincturelaw9.BoundHas'. -/
def boundHasCard : Claim7 := { stood := { row := boundHasRow, standIns := [], harness := (true, "5b44ca5a381ed27718028a62fe31c2d1f5f03007e5db35bf7a84014fc026c84d"), looks := false }, kinds := [], alts := [], laidByText := true, laidKinds := [.data], laidTests := true, laidLooks := .later }
def BoundHasCardSaid : Prop := Claim7.holds Tryz.pinned (.plain (OpenSpec.ofChange boundHasSpec)) boundHasCard

/-- THE TIED CARD OF 'cincturelaw10.BernAts'. -/
def bernAtsCard : Claim7 := { stood := { row := bernAtsRow, standIns := [], harness := (true, "5b44ca5a381ed27718028a62fe31c2d1f5f03007e5db35bf7a84014fc026c84d"), looks := false }, kinds := [], alts := [], laidByText := true, laidKinds := [.data], laidTests := true, laidLooks := .later }
def BernAtsCardSaid : Prop := Claim7.holds Tryz.pinned (.plain (OpenSpec.ofChange bernAtsSpec)) bernAtsCard

/-- THE TIED CARD OF 'cincturelaw10.BernHalves'. -/
def bernHalvesCard : Claim7 := { stood := { row := bernHalvesRow, standIns := [], harness := (true, "5b44ca5a381ed27718028a62fe31c2d1f5f03007e5db35bf7a84014fc026c84d"), looks := false }, kinds := [], alts := [], laidByText := true, laidKinds := [.data], laidTests := true, laidLooks := .later }
def BernHalvesCardSaid : Prop := Claim7.holds Tryz.pinned (.plain (OpenSpec.ofChange bernHalvesSpec)) bernHalvesCard

/-- THE SECOND FORM's CARD OF 'cincturelaw9.BoundOver'. -/
def boundOverUptoCard : Claim7 := { stood := { row := boundOverUptoRow, standIns := [], harness := (true, "5b44ca5a381ed27718028a62fe31c2d1f5f03007e5db35bf7a84014fc026c84d"), looks := false }, kinds := [], alts := [], laidByText := true, laidKinds := [.data], laidTests := true, laidLooks := .later }
def BoundOverUptoCardSaid : Prop := Claim7.holds Tryz.pinned (.plain (OpenSpec.upto boundOverSpec)) boundOverUptoCard

/-- THE SECOND FORM's CARD OF 'cincturelaw9.BoundAdds'. -/
def boundAddsUptoCard : Claim7 := { stood := { row := boundAddsUptoRow, standIns := [], harness := (true, "5b44ca5a381ed27718028a62fe31c2d1f5f03007e5db35bf7a84014fc026c84d"), looks := false }, kinds := [], alts := [], laidByText := true, laidKinds := [.data], laidTests := true, laidLooks := .later }
def BoundAddsUptoCardSaid : Prop := Claim7.holds Tryz.pinned (.plain (OpenSpec.upto boundAddsSpec)) boundAddsUptoCard

/-- THE SECOND FORM's CARD OF 'cincturelaw9.BoundHalves'. -/
def boundHalvesUptoCard : Claim7 := { stood := { row := boundHalvesUptoRow, standIns := [], harness := (true, "5b44ca5a381ed27718028a62fe31c2d1f5f03007e5db35bf7a84014fc026c84d"), looks := false }, kinds := [], alts := [], laidByText := true, laidKinds := [.data], laidTests := true, laidLooks := .later }
def BoundHalvesUptoCardSaid : Prop := Claim7.holds Tryz.pinned (.plain (OpenSpec.upto boundHalvesSpec)) boundHalvesUptoCard

/-- THE SECOND FORM's CARD OF 'cincturelaw13.GramNever'. -/
def gramNeverUptoCard : Claim7 := { stood := { row := gramNeverUptoRow, standIns := [], harness := (true, "5b44ca5a381ed27718028a62fe31c2d1f5f03007e5db35bf7a84014fc026c84d"), looks := false }, kinds := [], alts := [], laidByText := true, laidKinds := [.data], laidTests := true, laidLooks := .later }
def GramNeverUptoCardSaid : Prop := Claim7.holds Tryz.pinned (.plain (OpenSpec.upto gramNeverSpec)) gramNeverUptoCard

/-- THE SECOND FORM's CARD OF 'cincturelaw10.BernAdds'. -/
def bernAddsUptoCard : Claim7 := { stood := { row := bernAddsUptoRow, standIns := [], harness := (true, "5b44ca5a381ed27718028a62fe31c2d1f5f03007e5db35bf7a84014fc026c84d"), looks := false }, kinds := [], alts := [], laidByText := true, laidKinds := [.data], laidTests := true, laidLooks := .later }
def BernAddsUptoCardSaid : Prop := Claim7.holds Tryz.pinned (.plain (OpenSpec.upto bernAddsSpec)) bernAddsUptoCard

/-- THE SECOND FORM's CARD OF 'cincturelaw9.BoundLinear'. -/
def boundLinearUptoCard : Claim7 := { stood := { row := boundLinearUptoRow, standIns := [], harness := (true, "5b44ca5a381ed27718028a62fe31c2d1f5f03007e5db35bf7a84014fc026c84d"), looks := false }, kinds := [], alts := [], laidByText := true, laidKinds := [.data], laidTests := true, laidLooks := .later }
def BoundLinearUptoCardSaid : Prop := Claim7.holds Tryz.pinned (.plain (OpenSpec.upto boundLinearSpec)) boundLinearUptoCard

/-- THE SECOND FORM's CARD OF 'cincturelaw10.BernTells'. -/
def bernTellsUptoCard : Claim7 := { stood := { row := bernTellsUptoRow, standIns := [], harness := (true, "5b44ca5a381ed27718028a62fe31c2d1f5f03007e5db35bf7a84014fc026c84d"), looks := false }, kinds := [], alts := [], laidByText := true, laidKinds := [.data], laidTests := true, laidLooks := .later }
def BernTellsUptoCardSaid : Prop := Claim7.holds Tryz.pinned (.plain (OpenSpec.upto bernTellsSpec)) bernTellsUptoCard

/-- THE SECOND FORM's CARD OF 'cincturelaw10.BernCorners'. -/
def bernCornersUptoCard : Claim7 := { stood := { row := bernCornersUptoRow, standIns := [], harness := (true, "5b44ca5a381ed27718028a62fe31c2d1f5f03007e5db35bf7a84014fc026c84d"), looks := false }, kinds := [], alts := [], laidByText := true, laidKinds := [.data], laidTests := true, laidLooks := .later }
def BernCornersUptoCardSaid : Prop := Claim7.holds Tryz.pinned (.plain (OpenSpec.upto bernCornersSpec)) bernCornersUptoCard

/-- THE SECOND FORM's CARD OF 'cincturelaw9.BoundTells'. -/
def boundTellsUptoCard : Claim7 := { stood := { row := boundTellsUptoRow, standIns := [], harness := (true, "5b44ca5a381ed27718028a62fe31c2d1f5f03007e5db35bf7a84014fc026c84d"), looks := false }, kinds := [], alts := [], laidByText := true, laidKinds := [.data], laidTests := true, laidLooks := .later }
def BoundTellsUptoCardSaid : Prop := Claim7.holds Tryz.pinned (.plain (OpenSpec.upto boundTellsSpec)) boundTellsUptoCard

/-- THE SECOND FORM's CARD OF 'cincturelaw9.BoundHas'. -/
def boundHasUptoCard : Claim7 := { stood := { row := boundHasUptoRow, standIns := [], harness := (true, "5b44ca5a381ed27718028a62fe31c2d1f5f03007e5db35bf7a84014fc026c84d"), looks := false }, kinds := [], alts := [], laidByText := true, laidKinds := [.data], laidTests := true, laidLooks := .later }
def BoundHasUptoCardSaid : Prop := Claim7.holds Tryz.pinned (.plain (OpenSpec.upto boundHasSpec)) boundHasUptoCard

/-- THE SECOND FORM's CARD OF 'cincturelaw10.BernAts'. -/
def bernAtsUptoCard : Claim7 := { stood := { row := bernAtsUptoRow, standIns := [], harness := (true, "5b44ca5a381ed27718028a62fe31c2d1f5f03007e5db35bf7a84014fc026c84d"), looks := false }, kinds := [], alts := [], laidByText := true, laidKinds := [.data], laidTests := true, laidLooks := .later }
def BernAtsUptoCardSaid : Prop := Claim7.holds Tryz.pinned (.plain (OpenSpec.upto bernAtsSpec)) bernAtsUptoCard

/-- THE SECOND FORM's CARD OF 'cincturelaw10.BernHalves'. -/
def bernHalvesUptoCard : Claim7 := { stood := { row := bernHalvesUptoRow, standIns := [], harness := (true, "5b44ca5a381ed27718028a62fe31c2d1f5f03007e5db35bf7a84014fc026c84d"), looks := false }, kinds := [], alts := [], laidByText := true, laidKinds := [.data], laidTests := true, laidLooks := .later }
def BernHalvesUptoCardSaid : Prop := Claim7.holds Tryz.pinned (.plain (OpenSpec.upto bernHalvesSpec)) bernHalvesUptoCard
end Rows
end Go.Proofs.YtjkkidjbppphpaaGreatDoor
