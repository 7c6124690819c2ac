/-
  DERIVED. GIVEN WITH THE SEED: THE CARDS: each row of YtokefihiadbkbaaGreatDoorRows.lean that lists a variable, with what it lists TIED to the program's text (the seventh form; the later family's looks); each row that meets fmt, with fmt's text TOLD by the authors' own Lean function (tested against real Go, not proved from fmt's source: count such statements apart). THE CARD IS WHAT COUNTS. Prove the row's statement (the work); the ties are given (YtokefihiadbkbaaGreatDoorTie.lean); close each card by the builder's one call (the guide's Derived/Test/ToyasCard.lean, 'card_holds'). Laid BY PROGRAM, IN A SANDBOX (cutbox-door.mjs). By AI agents, Wed Nov 11 2026. No macro, syntax, notation, axiom, sorry.
-/
import Derived.Test.YtokefihiadbkbaaGreatDoorRows
import GoSem.ClaimSeven
namespace Go.Proofs.YtokefihiadbkbaaGreatDoor
namespace Rows

/-- THE TIED CARD OF 'cincturelaw10.BernAdds'. -/
def bernAddsCard : Claim7 := { stood := { row := bernAddsRow, standIns := [], harness := (true, "255b1c456741df55e9f5c6966f2455dd1dee8510f1857ed3dabfe8bb7bd26bd4"), looks := false }, kinds := [], alts := [], laidByText := true, laidKinds := [.data], laidTests := true, laidLooks := .later }
def BernAddsCardSaid : Prop := Claim7.holds Tryz.pinned (.plain (OpenSpec.ofChange bernAddsSpec)) bernAddsCard

/-- THE TIED CARD OF 'cincturelaw10.BernTells'. -/
def bernTellsCard : Claim7 := { stood := { row := bernTellsRow, standIns := [], harness := (true, "255b1c456741df55e9f5c6966f2455dd1dee8510f1857ed3dabfe8bb7bd26bd4"), looks := false }, kinds := [], alts := [], laidByText := true, laidKinds := [.data], laidTests := true, laidLooks := .later }
def BernTellsCardSaid : Prop := Claim7.holds Tryz.pinned (.plain (OpenSpec.ofChange bernTellsSpec)) bernTellsCard

/-- THE TIED CARD OF 'cincturelaw10.BernCorners'. -/
def bernCornersCard : Claim7 := { stood := { row := bernCornersRow, standIns := [], harness := (true, "255b1c456741df55e9f5c6966f2455dd1dee8510f1857ed3dabfe8bb7bd26bd4"), looks := false }, kinds := [], alts := [], laidByText := true, laidKinds := [.data], laidTests := true, laidLooks := .later }
def BernCornersCardSaid : Prop := Claim7.holds Tryz.pinned (.plain (OpenSpec.ofChange bernCornersSpec)) bernCornersCard

/-- THE TIED CARD OF 'cincturelaw10.BernAts'. -/
def bernAtsCard : Claim7 := { stood := { row := bernAtsRow, standIns := [], harness := (true, "255b1c456741df55e9f5c6966f2455dd1dee8510f1857ed3dabfe8bb7bd26bd4"), looks := false }, kinds := [], alts := [], laidByText := true, laidKinds := [.data], laidTests := true, laidLooks := .later }
def BernAtsCardSaid : Prop := Claim7.holds Tryz.pinned (.plain (OpenSpec.ofChange bernAtsSpec)) bernAtsCard

/-- THE TIED CARD OF 'cincturelaw10.BernHalves'. -/
def bernHalvesCard : Claim7 := { stood := { row := bernHalvesRow, standIns := [], harness := (true, "255b1c456741df55e9f5c6966f2455dd1dee8510f1857ed3dabfe8bb7bd26bd4"), looks := false }, kinds := [], alts := [], laidByText := true, laidKinds := [.data], laidTests := true, laidLooks := .later }
def BernHalvesCardSaid : Prop := Claim7.holds Tryz.pinned (.plain (OpenSpec.ofChange bernHalvesSpec)) bernHalvesCard

/-- THE TIED CARD OF 'cincturelaw10.BernNear'. -/
def bernNearCard : Claim7 := { stood := { row := bernNearRow, standIns := [], harness := (true, "255b1c456741df55e9f5c6966f2455dd1dee8510f1857ed3dabfe8bb7bd26bd4"), looks := false }, kinds := [], alts := [], laidByText := true, laidKinds := [.data], laidTests := true, laidLooks := .later }
def BernNearCardSaid : Prop := Claim7.holds Tryz.pinned (.plain (OpenSpec.ofChange bernNearSpec)) bernNearCard

/-- THE TIED CARD OF 'cincturelaw10.BernHas'. -/
def bernHasCard : Claim7 := { stood := { row := bernHasRow, standIns := [], harness := (true, "255b1c456741df55e9f5c6966f2455dd1dee8510f1857ed3dabfe8bb7bd26bd4"), looks := false }, kinds := [], alts := [], laidByText := true, laidKinds := [.data], laidTests := true, laidLooks := .later }
def BernHasCardSaid : Prop := Claim7.holds Tryz.pinned (.plain (OpenSpec.ofChange bernHasSpec)) bernHasCard

/-- THE SECOND FORM's CARD OF 'cincturelaw10.BernAdds'. -/
def bernAddsUptoCard : Claim7 := { stood := { row := bernAddsUptoRow, standIns := [], harness := (true, "255b1c456741df55e9f5c6966f2455dd1dee8510f1857ed3dabfe8bb7bd26bd4"), looks := false }, kinds := [], alts := [], laidByText := true, laidKinds := [.data], laidTests := true, laidLooks := .later }
def BernAddsUptoCardSaid : Prop := Claim7.holds Tryz.pinned (.plain (OpenSpec.upto bernAddsSpec)) bernAddsUptoCard

/-- THE SECOND FORM's CARD OF 'cincturelaw10.BernTells'. -/
def bernTellsUptoCard : Claim7 := { stood := { row := bernTellsUptoRow, standIns := [], harness := (true, "255b1c456741df55e9f5c6966f2455dd1dee8510f1857ed3dabfe8bb7bd26bd4"), looks := false }, kinds := [], alts := [], laidByText := true, laidKinds := [.data], laidTests := true, laidLooks := .later }
def BernTellsUptoCardSaid : Prop := Claim7.holds Tryz.pinned (.plain (OpenSpec.upto bernTellsSpec)) bernTellsUptoCard

/-- THE SECOND FORM's CARD OF 'cincturelaw10.BernCorners'. -/
def bernCornersUptoCard : Claim7 := { stood := { row := bernCornersUptoRow, standIns := [], harness := (true, "255b1c456741df55e9f5c6966f2455dd1dee8510f1857ed3dabfe8bb7bd26bd4"), looks := false }, kinds := [], alts := [], laidByText := true, laidKinds := [.data], laidTests := true, laidLooks := .later }
def BernCornersUptoCardSaid : Prop := Claim7.holds Tryz.pinned (.plain (OpenSpec.upto bernCornersSpec)) bernCornersUptoCard

/-- THE SECOND FORM's CARD OF 'cincturelaw10.BernAts'. -/
def bernAtsUptoCard : Claim7 := { stood := { row := bernAtsUptoRow, standIns := [], harness := (true, "255b1c456741df55e9f5c6966f2455dd1dee8510f1857ed3dabfe8bb7bd26bd4"), looks := false }, kinds := [], alts := [], laidByText := true, laidKinds := [.data], laidTests := true, laidLooks := .later }
def BernAtsUptoCardSaid : Prop := Claim7.holds Tryz.pinned (.plain (OpenSpec.upto bernAtsSpec)) bernAtsUptoCard

/-- THE SECOND FORM's CARD OF 'cincturelaw10.BernHalves'. -/
def bernHalvesUptoCard : Claim7 := { stood := { row := bernHalvesUptoRow, standIns := [], harness := (true, "255b1c456741df55e9f5c6966f2455dd1dee8510f1857ed3dabfe8bb7bd26bd4"), looks := false }, kinds := [], alts := [], laidByText := true, laidKinds := [.data], laidTests := true, laidLooks := .later }
def BernHalvesUptoCardSaid : Prop := Claim7.holds Tryz.pinned (.plain (OpenSpec.upto bernHalvesSpec)) bernHalvesUptoCard

/-- THE SECOND FORM's CARD OF 'cincturelaw10.BernNear'. -/
def bernNearUptoCard : Claim7 := { stood := { row := bernNearUptoRow, standIns := [], harness := (true, "255b1c456741df55e9f5c6966f2455dd1dee8510f1857ed3dabfe8bb7bd26bd4"), looks := false }, kinds := [], alts := [], laidByText := true, laidKinds := [.data], laidTests := true, laidLooks := .later }
def BernNearUptoCardSaid : Prop := Claim7.holds Tryz.pinned (.plain (OpenSpec.upto bernNearSpec)) bernNearUptoCard

/-- THE SECOND FORM's CARD OF 'cincturelaw10.BernHas'. -/
def bernHasUptoCard : Claim7 := { stood := { row := bernHasUptoRow, standIns := [], harness := (true, "255b1c456741df55e9f5c6966f2455dd1dee8510f1857ed3dabfe8bb7bd26bd4"), looks := false }, kinds := [], alts := [], laidByText := true, laidKinds := [.data], laidTests := true, laidLooks := .later }
def BernHasUptoCardSaid : Prop := Claim7.holds Tryz.pinned (.plain (OpenSpec.upto bernHasSpec)) bernHasUptoCard
end Rows
end Go.Proofs.YtokefihiadbkbaaGreatDoor
