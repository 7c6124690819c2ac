/-
  DERIVED. GIVEN WITH THE SEED: THE CARDS: each row of YtnlmddaakeigdaaGreatDoorRows.lean that lists a variable, with what it lists TIED to the program's text (the seventh form; the later family's looks); each row that meets fmt, with fmt's text TOLD by the authors' own Lean function (tested against real Go, not proved from fmt's source: count such statements apart). THE CARD IS WHAT COUNTS. Prove the row's statement (the work); the ties are given (YtnlmddaakeigdaaGreatDoorTie.lean); close each card by the builder's one call (the guide's Derived/Test/ToyasCard.lean, 'card_holds'). Laid BY PROGRAM, IN A SANDBOX (cutbox-door.mjs). By AI agents, Wed Nov 11 2026. No macro, syntax, notation, axiom, sorry.
-/
import Derived.Test.YtnlmddaakeigdaaGreatDoorRows
import GoSem.ClaimSeven
namespace Go.Proofs.YtnlmddaakeigdaaGreatDoor
namespace Rows

/-- THE TIED CARD OF 'cincturelaw13.GramParts'. -/
def gramPartsCard : Claim7 := { stood := { row := gramPartsRow, standIns := [], harness := (true, "88540a9a8d7d0188924759638b4b3c0b18065183dc4599dc77623ef66aa8a420"), looks := false }, kinds := [], alts := [], laidByText := true, laidKinds := [.data], laidTests := true, laidLooks := .later }
def GramPartsCardSaid : Prop := Claim7.holds Tryz.pinned (.plain (OpenSpec.ofChange gramPartsSpec)) gramPartsCard

/-- THE TIED CARD OF 'cincturelaw13.GramNever'. -/
def gramNeverCard : Claim7 := { stood := { row := gramNeverRow, standIns := [], harness := (true, "88540a9a8d7d0188924759638b4b3c0b18065183dc4599dc77623ef66aa8a420"), looks := false }, kinds := [], alts := [], laidByText := true, laidKinds := [.data], laidTests := true, laidLooks := .later }
def GramNeverCardSaid : Prop := Claim7.holds Tryz.pinned (.plain (OpenSpec.ofChange gramNeverSpec)) gramNeverCard

/-- THE TIED CARD OF 'cincturelaw9.BoundOver'. -/
def boundOverCard : Claim7 := { stood := { row := boundOverRow, standIns := [], harness := (true, "88540a9a8d7d0188924759638b4b3c0b18065183dc4599dc77623ef66aa8a420"), looks := false }, kinds := [], alts := [], laidByText := true, laidKinds := [.data], laidTests := true, laidLooks := .later }
def BoundOverCardSaid : Prop := Claim7.holds Tryz.pinned (.plain (OpenSpec.ofChange boundOverSpec)) boundOverCard

/-- THE TIED CARD OF 'cincturelaw9.BoundAdds'. -/
def boundAddsCard : Claim7 := { stood := { row := boundAddsRow, standIns := [], harness := (true, "88540a9a8d7d0188924759638b4b3c0b18065183dc4599dc77623ef66aa8a420"), looks := false }, kinds := [], alts := [], laidByText := true, laidKinds := [.data], laidTests := true, laidLooks := .later }
def BoundAddsCardSaid : Prop := Claim7.holds Tryz.pinned (.plain (OpenSpec.ofChange boundAddsSpec)) boundAddsCard

/-- THE TIED CARD OF 'cincturelaw9.BoundHalves'. -/
def boundHalvesCard : Claim7 := { stood := { row := boundHalvesRow, standIns := [], harness := (true, "88540a9a8d7d0188924759638b4b3c0b18065183dc4599dc77623ef66aa8a420"), looks := false }, kinds := [], alts := [], laidByText := true, laidKinds := [.data], laidTests := true, laidLooks := .later }
def BoundHalvesCardSaid : Prop := Claim7.holds Tryz.pinned (.plain (OpenSpec.ofChange boundHalvesSpec)) boundHalvesCard

/-- THE TIED CARD OF 'cincturelaw9.BoundLinear'. -/
def boundLinearCard : Claim7 := { stood := { row := boundLinearRow, standIns := [], harness := (true, "88540a9a8d7d0188924759638b4b3c0b18065183dc4599dc77623ef66aa8a420"), looks := false }, kinds := [], alts := [], laidByText := true, laidKinds := [.data], laidTests := true, laidLooks := .later }
def BoundLinearCardSaid : Prop := Claim7.holds Tryz.pinned (.plain (OpenSpec.ofChange boundLinearSpec)) boundLinearCard

/-- THE TIED CARD OF 'cincturelaw9.BoundTells'. -/
def boundTellsCard : Claim7 := { stood := { row := boundTellsRow, standIns := [], harness := (true, "88540a9a8d7d0188924759638b4b3c0b18065183dc4599dc77623ef66aa8a420"), looks := false }, kinds := [], alts := [], laidByText := true, laidKinds := [.data], laidTests := true, laidLooks := .later }
def BoundTellsCardSaid : Prop := Claim7.holds Tryz.pinned (.plain (OpenSpec.ofChange boundTellsSpec)) boundTellsCard

/-- THE TIED CARD OF 'cincturelaw9.BoundHas'. -/
def boundHasCard : Claim7 := { stood := { row := boundHasRow, standIns := [], harness := (true, "88540a9a8d7d0188924759638b4b3c0b18065183dc4599dc77623ef66aa8a420"), looks := false }, kinds := [], alts := [], laidByText := true, laidKinds := [.data], laidTests := true, laidLooks := .later }
def BoundHasCardSaid : Prop := Claim7.holds Tryz.pinned (.plain (OpenSpec.ofChange boundHasSpec)) boundHasCard

/-- THE SECOND FORM's CARD OF 'cincturelaw13.GramParts'. -/
def gramPartsUptoCard : Claim7 := { stood := { row := gramPartsUptoRow, standIns := [], harness := (true, "88540a9a8d7d0188924759638b4b3c0b18065183dc4599dc77623ef66aa8a420"), looks := false }, kinds := [], alts := [], laidByText := true, laidKinds := [.data], laidTests := true, laidLooks := .later }
def GramPartsUptoCardSaid : Prop := Claim7.holds Tryz.pinned (.plain (OpenSpec.upto gramPartsSpec)) gramPartsUptoCard

/-- THE SECOND FORM's CARD OF 'cincturelaw13.GramNever'. -/
def gramNeverUptoCard : Claim7 := { stood := { row := gramNeverUptoRow, standIns := [], harness := (true, "88540a9a8d7d0188924759638b4b3c0b18065183dc4599dc77623ef66aa8a420"), looks := false }, kinds := [], alts := [], laidByText := true, laidKinds := [.data], laidTests := true, laidLooks := .later }
def GramNeverUptoCardSaid : Prop := Claim7.holds Tryz.pinned (.plain (OpenSpec.upto gramNeverSpec)) gramNeverUptoCard

/-- THE SECOND FORM's CARD OF 'cincturelaw9.BoundOver'. -/
def boundOverUptoCard : Claim7 := { stood := { row := boundOverUptoRow, standIns := [], harness := (true, "88540a9a8d7d0188924759638b4b3c0b18065183dc4599dc77623ef66aa8a420"), looks := false }, kinds := [], alts := [], laidByText := true, laidKinds := [.data], laidTests := true, laidLooks := .later }
def BoundOverUptoCardSaid : Prop := Claim7.holds Tryz.pinned (.plain (OpenSpec.upto boundOverSpec)) boundOverUptoCard

/-- THE SECOND FORM's CARD OF 'cincturelaw9.BoundAdds'. -/
def boundAddsUptoCard : Claim7 := { stood := { row := boundAddsUptoRow, standIns := [], harness := (true, "88540a9a8d7d0188924759638b4b3c0b18065183dc4599dc77623ef66aa8a420"), looks := false }, kinds := [], alts := [], laidByText := true, laidKinds := [.data], laidTests := true, laidLooks := .later }
def BoundAddsUptoCardSaid : Prop := Claim7.holds Tryz.pinned (.plain (OpenSpec.upto boundAddsSpec)) boundAddsUptoCard

/-- THE SECOND FORM's CARD OF 'cincturelaw9.BoundHalves'. -/
def boundHalvesUptoCard : Claim7 := { stood := { row := boundHalvesUptoRow, standIns := [], harness := (true, "88540a9a8d7d0188924759638b4b3c0b18065183dc4599dc77623ef66aa8a420"), looks := false }, kinds := [], alts := [], laidByText := true, laidKinds := [.data], laidTests := true, laidLooks := .later }
def BoundHalvesUptoCardSaid : Prop := Claim7.holds Tryz.pinned (.plain (OpenSpec.upto boundHalvesSpec)) boundHalvesUptoCard

/-- THE SECOND FORM's CARD OF 'cincturelaw9.BoundLinear'. -/
def boundLinearUptoCard : Claim7 := { stood := { row := boundLinearUptoRow, standIns := [], harness := (true, "88540a9a8d7d0188924759638b4b3c0b18065183dc4599dc77623ef66aa8a420"), looks := false }, kinds := [], alts := [], laidByText := true, laidKinds := [.data], laidTests := true, laidLooks := .later }
def BoundLinearUptoCardSaid : Prop := Claim7.holds Tryz.pinned (.plain (OpenSpec.upto boundLinearSpec)) boundLinearUptoCard

/-- THE SECOND FORM's CARD OF 'cincturelaw9.BoundTells'. -/
def boundTellsUptoCard : Claim7 := { stood := { row := boundTellsUptoRow, standIns := [], harness := (true, "88540a9a8d7d0188924759638b4b3c0b18065183dc4599dc77623ef66aa8a420"), looks := false }, kinds := [], alts := [], laidByText := true, laidKinds := [.data], laidTests := true, laidLooks := .later }
def BoundTellsUptoCardSaid : Prop := Claim7.holds Tryz.pinned (.plain (OpenSpec.upto boundTellsSpec)) boundTellsUptoCard

/-- THE SECOND FORM's CARD OF 'cincturelaw9.BoundHas'. -/
def boundHasUptoCard : Claim7 := { stood := { row := boundHasUptoRow, standIns := [], harness := (true, "88540a9a8d7d0188924759638b4b3c0b18065183dc4599dc77623ef66aa8a420"), looks := false }, kinds := [], alts := [], laidByText := true, laidKinds := [.data], laidTests := true, laidLooks := .later }
def BoundHasUptoCardSaid : Prop := Claim7.holds Tryz.pinned (.plain (OpenSpec.upto boundHasSpec)) boundHasUptoCard
end Rows
end Go.Proofs.YtnlmddaakeigdaaGreatDoor
