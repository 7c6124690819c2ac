/-
  DERIVED. GIVEN WITH THE SEED: THE CARDS: each row of YtkgeopnakkcdoaaGreatDoorRows.lean that lists a variable, with what it lists TIED to the program's text (the seventh form; the later family's looks); each row that meets fmt, with fmt's text TOLD by the authors' own Lean function (tested against real Go, not proved from fmt's source: count such statements apart). THE CARD IS WHAT COUNTS. Prove the row's statement (the work); the ties are given (YtkgeopnakkcdoaaGreatDoorTie.lean); close each card by the builder's one call (the guide's Derived/Test/ToyasCard.lean, 'card_holds'). Laid BY PROGRAM, IN A SANDBOX (cutbox-door.mjs). By AI agents, Wed Nov 11 2026. No macro, syntax, notation, axiom, sorry.
-/
import Derived.Test.YtkgeopnakkcdoaaGreatDoorRows
import GoSem.ClaimSeven
namespace Go.Proofs.YtkgeopnakkcdoaaGreatDoor
namespace Rows

/-- THE TIED CARD OF 'cincturelaw12.KrawInside'. -/
def krawInsideCard : Claim7 := { stood := { row := krawInsideRow, standIns := [], harness := (true, "0b94de33954ccd916284686993b97e6b4783ae929927c8d4fc46930b3f89c677"), looks := false }, kinds := [], alts := [], laidByText := true, laidKinds := [.data], laidTests := true, laidLooks := .later }
def KrawInsideCardSaid : Prop := Claim7.holds Tryz.pinned (.plain (OpenSpec.ofChange krawInsideSpec)) krawInsideCard

/-- THE TIED CARD OF 'cincturelaw12.KrawJacobi'. -/
def krawJacobiCard : Claim7 := { stood := { row := krawJacobiRow, standIns := [], harness := (true, "0b94de33954ccd916284686993b97e6b4783ae929927c8d4fc46930b3f89c677"), looks := false }, kinds := [], alts := [], laidByText := true, laidKinds := [.data], laidTests := true, laidLooks := .later }
def KrawJacobiCardSaid : Prop := Claim7.holds Tryz.pinned (.plain (OpenSpec.ofChange krawJacobiSpec)) krawJacobiCard

/-- THE TIED CARD OF 'cincturelaw12.KrawOne'. -/
def krawOneCard : Claim7 := { stood := { row := krawOneRow, standIns := [], harness := (true, "0b94de33954ccd916284686993b97e6b4783ae929927c8d4fc46930b3f89c677"), looks := false }, kinds := [], alts := [], laidByText := true, laidKinds := [.data], laidTests := true, laidLooks := .later }
def KrawOneCardSaid : Prop := Claim7.holds Tryz.pinned (.plain (OpenSpec.ofChange krawOneSpec)) krawOneCard

/-- THE TIED CARD OF 'cincturelaw12.KrawZeros'. -/
def krawZerosCard : Claim7 := { stood := { row := krawZerosRow, standIns := [], harness := (true, "0b94de33954ccd916284686993b97e6b4783ae929927c8d4fc46930b3f89c677"), looks := false }, kinds := [], alts := [], laidByText := true, laidKinds := [.data], laidTests := true, laidLooks := .later }
def KrawZerosCardSaid : Prop := Claim7.holds Tryz.pinned (.plain (OpenSpec.ofChange krawZerosSpec)) krawZerosCard

/-- THE TIED CARD OF 'cincturelaw12.KrawLinear'. -/
def krawLinearCard : Claim7 := { stood := { row := krawLinearRow, standIns := [], harness := (true, "0b94de33954ccd916284686993b97e6b4783ae929927c8d4fc46930b3f89c677"), looks := false }, kinds := [], alts := [], laidByText := true, laidKinds := [.data], laidTests := true, laidLooks := .later }
def KrawLinearCardSaid : Prop := Claim7.holds Tryz.pinned (.plain (OpenSpec.ofChange krawLinearSpec)) krawLinearCard

/-- THE TIED CARD OF 'cincturelaw12.KrawTells'. -/
def krawTellsCard : Claim7 := { stood := { row := krawTellsRow, standIns := [], harness := (true, "0b94de33954ccd916284686993b97e6b4783ae929927c8d4fc46930b3f89c677"), looks := false }, kinds := [], alts := [], laidByText := true, laidKinds := [.data], laidTests := true, laidLooks := .later }
def KrawTellsCardSaid : Prop := Claim7.holds Tryz.pinned (.plain (OpenSpec.ofChange krawTellsSpec)) krawTellsCard

/-- THE SECOND FORM's CARD OF 'cincturelaw12.KrawInside'. -/
def krawInsideUptoCard : Claim7 := { stood := { row := krawInsideUptoRow, standIns := [], harness := (true, "0b94de33954ccd916284686993b97e6b4783ae929927c8d4fc46930b3f89c677"), looks := false }, kinds := [], alts := [], laidByText := true, laidKinds := [.data], laidTests := true, laidLooks := .later }
def KrawInsideUptoCardSaid : Prop := Claim7.holds Tryz.pinned (.plain (OpenSpec.upto krawInsideSpec)) krawInsideUptoCard

/-- THE SECOND FORM's CARD OF 'cincturelaw12.KrawJacobi'. -/
def krawJacobiUptoCard : Claim7 := { stood := { row := krawJacobiUptoRow, standIns := [], harness := (true, "0b94de33954ccd916284686993b97e6b4783ae929927c8d4fc46930b3f89c677"), looks := false }, kinds := [], alts := [], laidByText := true, laidKinds := [.data], laidTests := true, laidLooks := .later }
def KrawJacobiUptoCardSaid : Prop := Claim7.holds Tryz.pinned (.plain (OpenSpec.upto krawJacobiSpec)) krawJacobiUptoCard

/-- THE SECOND FORM's CARD OF 'cincturelaw12.KrawOne'. -/
def krawOneUptoCard : Claim7 := { stood := { row := krawOneUptoRow, standIns := [], harness := (true, "0b94de33954ccd916284686993b97e6b4783ae929927c8d4fc46930b3f89c677"), looks := false }, kinds := [], alts := [], laidByText := true, laidKinds := [.data], laidTests := true, laidLooks := .later }
def KrawOneUptoCardSaid : Prop := Claim7.holds Tryz.pinned (.plain (OpenSpec.upto krawOneSpec)) krawOneUptoCard

/-- THE SECOND FORM's CARD OF 'cincturelaw12.KrawZeros'. -/
def krawZerosUptoCard : Claim7 := { stood := { row := krawZerosUptoRow, standIns := [], harness := (true, "0b94de33954ccd916284686993b97e6b4783ae929927c8d4fc46930b3f89c677"), looks := false }, kinds := [], alts := [], laidByText := true, laidKinds := [.data], laidTests := true, laidLooks := .later }
def KrawZerosUptoCardSaid : Prop := Claim7.holds Tryz.pinned (.plain (OpenSpec.upto krawZerosSpec)) krawZerosUptoCard

/-- THE SECOND FORM's CARD OF 'cincturelaw12.KrawLinear'. -/
def krawLinearUptoCard : Claim7 := { stood := { row := krawLinearUptoRow, standIns := [], harness := (true, "0b94de33954ccd916284686993b97e6b4783ae929927c8d4fc46930b3f89c677"), looks := false }, kinds := [], alts := [], laidByText := true, laidKinds := [.data], laidTests := true, laidLooks := .later }
def KrawLinearUptoCardSaid : Prop := Claim7.holds Tryz.pinned (.plain (OpenSpec.upto krawLinearSpec)) krawLinearUptoCard

/-- THE SECOND FORM's CARD OF 'cincturelaw12.KrawTells'. -/
def krawTellsUptoCard : Claim7 := { stood := { row := krawTellsUptoRow, standIns := [], harness := (true, "0b94de33954ccd916284686993b97e6b4783ae929927c8d4fc46930b3f89c677"), looks := false }, kinds := [], alts := [], laidByText := true, laidKinds := [.data], laidTests := true, laidLooks := .later }
def KrawTellsUptoCardSaid : Prop := Claim7.holds Tryz.pinned (.plain (OpenSpec.upto krawTellsSpec)) krawTellsUptoCard
end Rows
end Go.Proofs.YtkgeopnakkcdoaaGreatDoor
