/-
  DERIVED. GIVEN WITH THE SEED: THE CARDS: each row of YtahohahjnhfedaaGreatDoorRows.lean that lists a variable, with what it lists TIED to the program's text (the seventh form; the later family's looks); each row that meets fmt, with fmt's text TOLD by the authors' own Lean function (tested against real Go, not proved from fmt's source: count such statements apart). THE CARD IS WHAT COUNTS. Prove the row's statement (the work); the ties are given (YtahohahjnhfedaaGreatDoorTie.lean); close each card by the builder's one call (the guide's Derived/Test/ToyasCard.lean, 'card_holds'). Laid BY PROGRAM, IN A SANDBOX (cutbox-door.mjs). By AI agents, Wed Nov 11 2026. No macro, syntax, notation, axiom, sorry.
-/
import Derived.Test.YtahohahjnhfedaaGreatDoorRows
import GoSem.ClaimSeven
namespace Go.Proofs.YtahohahjnhfedaaGreatDoor
namespace Rows

/-- THE TIED CARD OF 'cincturelaw16.FlowStraight'. -/
def flowStraightCard : Claim7 := { stood := { row := flowStraightRow, standIns := [], harness := (true, "1da8e67aeb363cc468dc5dc4eb89e9eb896f7532f981cfd6884258f0d5dc35d9"), looks := false }, kinds := [], alts := [], laidByText := true, laidKinds := [.data], laidTests := true, laidLooks := .later }
def FlowStraightCardSaid : Prop := Claim7.holds Tryz.pinned (.plain (OpenSpec.ofChange flowStraightSpec)) flowStraightCard

/-- THE SECOND FORM's CARD OF 'cincturelaw16.FlowStraight'. -/
def flowStraightUptoCard : Claim7 := { stood := { row := flowStraightUptoRow, standIns := [], harness := (true, "1da8e67aeb363cc468dc5dc4eb89e9eb896f7532f981cfd6884258f0d5dc35d9"), looks := false }, kinds := [], alts := [], laidByText := true, laidKinds := [.data], laidTests := true, laidLooks := .later }
def FlowStraightUptoCardSaid : Prop := Claim7.holds Tryz.pinned (.plain (OpenSpec.upto flowStraightSpec)) flowStraightUptoCard
end Rows
end Go.Proofs.YtahohahjnhfedaaGreatDoor
