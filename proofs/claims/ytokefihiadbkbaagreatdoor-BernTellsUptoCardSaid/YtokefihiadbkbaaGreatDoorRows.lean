/-
  NARROWER THAN 'FOR EVERY INPUT', by the rows' own cells (each row's printed sentence says how): BernAdds: laid · BernTells: laid · BernCorners: laid · BernAts: laid · BernHalves: laid · BernNear: laid · BernHas: laid.
  DERIVED. THE GIVEN ROWS OF THIS SEAT. 7 by the template 'for every input the law returns true; each argument reads behind the call as it read before'; 0 by the template 'total and deterministic' (their statements: YtokefihiadbkbaaGreatDoorTotals.lean).
  GIVEN WITH THE SEED: the statements are not yours to turn. If you find one false, say at which input.
  Laid BY PROGRAM, IN A SANDBOX (cutbox-rows.mjs): the forced cells as the released guide's own fill.sh prints them over the translation e69ca05f268906b7… (all of the seat's roots in one cut). By AI agents, Wed Nov 11 2026. No macro, syntax, notation, axiom, sorry.
-/
import Derived.Test.YtokefihiadbkbaaGreatDoorChecked
import GoSem.Claim
import GoSem.ClaimJoined
import GoSem.ClaimMapViews
import Derived.JoinedTies
import Derived.KernelRfl
namespace Go.Proofs.YtokefihiadbkbaaGreatDoor
/- THE CELL 'sum', in the pinned program and in every row, IS THE sha256 OF THE DUMP (.gsa) THAT YtokefihiadbkbaaGreatDoorProg.lean LOADS. Nothing in Lean hashes anything: it is a label: what it is worth is what the hold of that sum in a sandbox is worth. -/
noncomputable def Tryz.pinned : Pinned := { name := "ytokefihiadbkbaagreatdoor", sum := "e69ca05f268906b7f55b557e304100f35d2f4b04e10e6bdab8c0069bcc990265", checked := Tryz.checked }
namespace Rows
def none {H : Type} : Left H := { results := [], args := [] }

/- WHAT THE LISTED PACKAGE-LEVEL VARIABLES READ AS WHEN THE CALL BEGINS. Each datum BY PROGRAM (the guide's laid-datum.mjs) off the statement by which the dump's own 'gosem.cut.vars' lays the variable. In a bare row this is a premise. The card (YtokefihiadbkbaaGreatDoorCards.lean) ties it to the program's text. -/
def laid_math_bits_deBruijn32tab {H : Type} : DataW H := .agg [.lit (.int .u8 0), .lit (.int .u8 1), .lit (.int .u8 28), .lit (.int .u8 2), .lit (.int .u8 29), .lit (.int .u8 14), .lit (.int .u8 24), .lit (.int .u8 3), .lit (.int .u8 30), .lit (.int .u8 22), .lit (.int .u8 20), .lit (.int .u8 15), .lit (.int .u8 25), .lit (.int .u8 17), .lit (.int .u8 4), .lit (.int .u8 8), .lit (.int .u8 31), .lit (.int .u8 27), .lit (.int .u8 13), .lit (.int .u8 23), .lit (.int .u8 21), .lit (.int .u8 19), .lit (.int .u8 16), .lit (.int .u8 7), .lit (.int .u8 26), .lit (.int .u8 12), .lit (.int .u8 18), .lit (.int .u8 6), .lit (.int .u8 11), .lit (.int .u8 5), .lit (.int .u8 10), .lit (.int .u8 9)]

/-- 'cincturelaw10.BernAdds': WHATEVER THE INPUT: true; the input reads as it did. -/
def bernAddsSpec : ChangeSpec := { name := "bernAdds", fn := fun _ => fun
  | [d1, d2, d3, d4] => { results := [.lit (.bool true)], args := [d1, d2, d3, d4] }
  | _ => none }
def bernAddsRow : OpenClaim := { program := "ytokefihiadbkbaagreatdoor", sum := "e69ca05f268906b7f55b557e304100f35d2f4b04e10e6bdab8c0069bcc990265", func := "cincture/cincturelaw10.BernAdds", spec := "bernAdds", inPlace := ["internal/bytealg.IndexByteString", "internal/bytealg.IndexString"], unfollowed := true, recurses := true, named := ["internal/bytealg.MaxLen", "math/bits.deBruijn32tab"], plainKeys := false, apart := false, laid := [("math/bits.deBruijn32tab", laid_math_bits_deBruijn32tab)] }
def BernAddsSaid : Prop := bernAddsRow.holds Tryz.pinned (OpenSpec.ofChange bernAddsSpec)

/-- ITS FALSE NEIGHBOUR: 'it returns false'. Refute it at one input. -/
def bernAddsWrong : ChangeSpec := { name := "bernAdds", fn := fun _ => fun
  | [d1, d2, d3, d4] => { results := [.lit (.bool false)], args := [d1, d2, d3, d4] }
  | _ => none }
def BernAddsWrongFalsely : Prop := bernAddsRow.holds Tryz.pinned (OpenSpec.ofChange bernAddsWrong)

/-- 'cincturelaw10.BernTells': WHATEVER THE INPUT: true; the input reads as it did. -/
def bernTellsSpec : ChangeSpec := { name := "bernTells", fn := fun _ => fun
  | [d1, d2] => { results := [.lit (.bool true)], args := [d1, d2] }
  | _ => none }
def bernTellsRow : OpenClaim := { program := "ytokefihiadbkbaagreatdoor", sum := "e69ca05f268906b7f55b557e304100f35d2f4b04e10e6bdab8c0069bcc990265", func := "cincture/cincturelaw10.BernTells", spec := "bernTells", inPlace := ["internal/bytealg.IndexByteString", "internal/bytealg.IndexString"], unfollowed := true, recurses := true, named := ["internal/bytealg.MaxLen", "math/bits.deBruijn32tab"], plainKeys := false, apart := false, laid := [("math/bits.deBruijn32tab", laid_math_bits_deBruijn32tab)] }
def BernTellsSaid : Prop := bernTellsRow.holds Tryz.pinned (OpenSpec.ofChange bernTellsSpec)

/-- ITS FALSE NEIGHBOUR: 'it returns false'. Refute it at one input. -/
def bernTellsWrong : ChangeSpec := { name := "bernTells", fn := fun _ => fun
  | [d1, d2] => { results := [.lit (.bool false)], args := [d1, d2] }
  | _ => none }
def BernTellsWrongFalsely : Prop := bernTellsRow.holds Tryz.pinned (OpenSpec.ofChange bernTellsWrong)

/-- 'cincturelaw10.BernCorners': WHATEVER THE INPUT: true; the input reads as it did. -/
def bernCornersSpec : ChangeSpec := { name := "bernCorners", fn := fun _ => fun
  | [d1, d2, d3] => { results := [.lit (.bool true)], args := [d1, d2, d3] }
  | _ => none }
def bernCornersRow : OpenClaim := { program := "ytokefihiadbkbaagreatdoor", sum := "e69ca05f268906b7f55b557e304100f35d2f4b04e10e6bdab8c0069bcc990265", func := "cincture/cincturelaw10.BernCorners", spec := "bernCorners", inPlace := ["internal/bytealg.IndexByteString", "internal/bytealg.IndexString"], unfollowed := true, recurses := true, named := ["internal/bytealg.MaxLen", "math/bits.deBruijn32tab"], plainKeys := false, apart := false, laid := [("math/bits.deBruijn32tab", laid_math_bits_deBruijn32tab)] }
def BernCornersSaid : Prop := bernCornersRow.holds Tryz.pinned (OpenSpec.ofChange bernCornersSpec)

/-- ITS FALSE NEIGHBOUR: 'it returns false'. Refute it at one input. -/
def bernCornersWrong : ChangeSpec := { name := "bernCorners", fn := fun _ => fun
  | [d1, d2, d3] => { results := [.lit (.bool false)], args := [d1, d2, d3] }
  | _ => none }
def BernCornersWrongFalsely : Prop := bernCornersRow.holds Tryz.pinned (OpenSpec.ofChange bernCornersWrong)

/-- 'cincturelaw10.BernAts': WHATEVER THE INPUT: true; the input reads as it did. -/
def bernAtsSpec : ChangeSpec := { name := "bernAts", fn := fun _ => fun
  | [d1, d2, d3, d4] => { results := [.lit (.bool true)], args := [d1, d2, d3, d4] }
  | _ => none }
def bernAtsRow : OpenClaim := { program := "ytokefihiadbkbaagreatdoor", sum := "e69ca05f268906b7f55b557e304100f35d2f4b04e10e6bdab8c0069bcc990265", func := "cincture/cincturelaw10.BernAts", spec := "bernAts", inPlace := ["internal/bytealg.IndexByteString", "internal/bytealg.IndexString"], unfollowed := true, recurses := true, named := ["internal/bytealg.MaxLen", "math/bits.deBruijn32tab"], plainKeys := false, apart := false, laid := [("math/bits.deBruijn32tab", laid_math_bits_deBruijn32tab)] }
def BernAtsSaid : Prop := bernAtsRow.holds Tryz.pinned (OpenSpec.ofChange bernAtsSpec)

/-- ITS FALSE NEIGHBOUR: 'it returns false'. Refute it at one input. -/
def bernAtsWrong : ChangeSpec := { name := "bernAts", fn := fun _ => fun
  | [d1, d2, d3, d4] => { results := [.lit (.bool false)], args := [d1, d2, d3, d4] }
  | _ => none }
def BernAtsWrongFalsely : Prop := bernAtsRow.holds Tryz.pinned (OpenSpec.ofChange bernAtsWrong)

/-- 'cincturelaw10.BernHalves': WHATEVER THE INPUT: true; the input reads as it did. -/
def bernHalvesSpec : ChangeSpec := { name := "bernHalves", fn := fun _ => fun
  | [d1, d2, d3] => { results := [.lit (.bool true)], args := [d1, d2, d3] }
  | _ => none }
def bernHalvesRow : OpenClaim := { program := "ytokefihiadbkbaagreatdoor", sum := "e69ca05f268906b7f55b557e304100f35d2f4b04e10e6bdab8c0069bcc990265", func := "cincture/cincturelaw10.BernHalves", spec := "bernHalves", inPlace := ["internal/bytealg.IndexByteString", "internal/bytealg.IndexString"], unfollowed := true, recurses := true, named := ["internal/bytealg.MaxLen", "math/bits.deBruijn32tab"], plainKeys := false, apart := false, laid := [("math/bits.deBruijn32tab", laid_math_bits_deBruijn32tab)] }
def BernHalvesSaid : Prop := bernHalvesRow.holds Tryz.pinned (OpenSpec.ofChange bernHalvesSpec)

/-- ITS FALSE NEIGHBOUR: 'it returns false'. Refute it at one input. -/
def bernHalvesWrong : ChangeSpec := { name := "bernHalves", fn := fun _ => fun
  | [d1, d2, d3] => { results := [.lit (.bool false)], args := [d1, d2, d3] }
  | _ => none }
def BernHalvesWrongFalsely : Prop := bernHalvesRow.holds Tryz.pinned (OpenSpec.ofChange bernHalvesWrong)

/-- 'cincturelaw10.BernNear': WHATEVER THE INPUT: true; the input reads as it did. -/
def bernNearSpec : ChangeSpec := { name := "bernNear", fn := fun _ => fun
  | [d1, d2] => { results := [.lit (.bool true)], args := [d1, d2] }
  | _ => none }
def bernNearRow : OpenClaim := { program := "ytokefihiadbkbaagreatdoor", sum := "e69ca05f268906b7f55b557e304100f35d2f4b04e10e6bdab8c0069bcc990265", func := "cincture/cincturelaw10.BernNear", spec := "bernNear", inPlace := ["internal/bytealg.IndexByteString", "internal/bytealg.IndexString"], unfollowed := true, recurses := true, named := ["internal/bytealg.MaxLen", "math/bits.deBruijn32tab"], plainKeys := false, apart := false, laid := [("math/bits.deBruijn32tab", laid_math_bits_deBruijn32tab)] }
def BernNearSaid : Prop := bernNearRow.holds Tryz.pinned (OpenSpec.ofChange bernNearSpec)

/-- ITS FALSE NEIGHBOUR: 'it returns false'. Refute it at one input. -/
def bernNearWrong : ChangeSpec := { name := "bernNear", fn := fun _ => fun
  | [d1, d2] => { results := [.lit (.bool false)], args := [d1, d2] }
  | _ => none }
def BernNearWrongFalsely : Prop := bernNearRow.holds Tryz.pinned (OpenSpec.ofChange bernNearWrong)

/-- 'cincturelaw10.BernHas': WHATEVER THE INPUT: true; the input reads as it did. -/
def bernHasSpec : ChangeSpec := { name := "bernHas", fn := fun _ => fun
  | [d1, d2, d3] => { results := [.lit (.bool true)], args := [d1, d2, d3] }
  | _ => none }
def bernHasRow : OpenClaim := { program := "ytokefihiadbkbaagreatdoor", sum := "e69ca05f268906b7f55b557e304100f35d2f4b04e10e6bdab8c0069bcc990265", func := "cincture/cincturelaw10.BernHas", spec := "bernHas", inPlace := ["internal/bytealg.IndexByteString", "internal/bytealg.IndexString"], unfollowed := true, recurses := true, named := ["internal/bytealg.MaxLen", "math/bits.deBruijn32tab"], plainKeys := false, apart := false, laid := [("math/bits.deBruijn32tab", laid_math_bits_deBruijn32tab)] }
def BernHasSaid : Prop := bernHasRow.holds Tryz.pinned (OpenSpec.ofChange bernHasSpec)

/-- ITS FALSE NEIGHBOUR: 'it returns false'. Refute it at one input. -/
def bernHasWrong : ChangeSpec := { name := "bernHas", fn := fun _ => fun
  | [d1, d2, d3] => { results := [.lit (.bool false)], args := [d1, d2, d3] }
  | _ => none }
def BernHasWrongFalsely : Prop := bernHasRow.holds Tryz.pinned (OpenSpec.ofChange bernHasWrong)

/- THE SECOND FORM. 'bulk': how many values and letters a reading holds, each counted each time it is reached (what is shared counts as often as it is met; a slice's spare places count too). A statement '..UptoSaid' is the law's where the arguments, and the package variables that the reading takes, are together of bulk at most 1048576: NARROWER than '..Said'. Prove '..Said' where nothing that the law and all that it calls make is longer than what came in: it says more and counts as full. Else prove '..UptoSaid'. A law counts once. -/
mutual
def uptoBulk {H : Type} : DataW H → Nat
  | .lit (.string bytes) => bytes.length + 1
  | .lit _ => 1
  | .nil => 1
  | .ptr d => uptoBulk d + 1
  | .slice elems spare => uptoBulkAll elems + uptoBulkAll spare + 1
  | .agg parts => uptoBulkAll parts + 1
  | .iface _ d => uptoBulk d + 1
  | .map entries => uptoBulkEntries entries + 1
  | .held _ => 1
def uptoBulkAll {H : Type} : List (DataW H) → Nat
  | [] => 0
  | d :: r => uptoBulk d + uptoBulkAll r
def uptoBulkEntries {H : Type} : List (Lit × DataW H) → Nat
  | [] => 0
  | x :: r => uptoBulkEntry x + uptoBulkEntries r
def uptoBulkEntry {H : Type} : Lit × DataW H → Nat
  | (.string bytes, d) => bytes.length + uptoBulk d + 1
  | (_, d) => uptoBulk d + 1
 end
def uptoSmall : (H : Type) → List (DataW H) → Bool := fun _ ds => decide (uptoBulkAll ds ≤ 1048576)
def OpenSpec.upto (s : _root_.Go.ChangeSpec) : _root_.Go.OpenSpec := { _root_.Go.OpenSpec.ofChange s with cond := some uptoSmall }

/-- 'cincturelaw10.BernAdds', WHERE WHAT IT READS IS OF BULK AT MOST 1048576: true; the input reads as it did. -/
def bernAddsUptoRow : OpenClaim := { program := "ytokefihiadbkbaagreatdoor", sum := "e69ca05f268906b7f55b557e304100f35d2f4b04e10e6bdab8c0069bcc990265", func := "cincture/cincturelaw10.BernAdds", spec := "bernAdds", inPlace := ["internal/bytealg.IndexByteString", "internal/bytealg.IndexString"], unfollowed := true, recurses := true, named := ["internal/bytealg.MaxLen", "math/bits.deBruijn32tab"], plainKeys := false, apart := false, laid := [("math/bits.deBruijn32tab", laid_math_bits_deBruijn32tab)], narrowed := true }
def BernAddsUptoSaid : Prop := bernAddsUptoRow.holds Tryz.pinned (OpenSpec.upto bernAddsSpec)

/-- 'cincturelaw10.BernTells', WHERE WHAT IT READS IS OF BULK AT MOST 1048576: true; the input reads as it did. -/
def bernTellsUptoRow : OpenClaim := { program := "ytokefihiadbkbaagreatdoor", sum := "e69ca05f268906b7f55b557e304100f35d2f4b04e10e6bdab8c0069bcc990265", func := "cincture/cincturelaw10.BernTells", spec := "bernTells", inPlace := ["internal/bytealg.IndexByteString", "internal/bytealg.IndexString"], unfollowed := true, recurses := true, named := ["internal/bytealg.MaxLen", "math/bits.deBruijn32tab"], plainKeys := false, apart := false, laid := [("math/bits.deBruijn32tab", laid_math_bits_deBruijn32tab)], narrowed := true }
def BernTellsUptoSaid : Prop := bernTellsUptoRow.holds Tryz.pinned (OpenSpec.upto bernTellsSpec)

/-- 'cincturelaw10.BernCorners', WHERE WHAT IT READS IS OF BULK AT MOST 1048576: true; the input reads as it did. -/
def bernCornersUptoRow : OpenClaim := { program := "ytokefihiadbkbaagreatdoor", sum := "e69ca05f268906b7f55b557e304100f35d2f4b04e10e6bdab8c0069bcc990265", func := "cincture/cincturelaw10.BernCorners", spec := "bernCorners", inPlace := ["internal/bytealg.IndexByteString", "internal/bytealg.IndexString"], unfollowed := true, recurses := true, named := ["internal/bytealg.MaxLen", "math/bits.deBruijn32tab"], plainKeys := false, apart := false, laid := [("math/bits.deBruijn32tab", laid_math_bits_deBruijn32tab)], narrowed := true }
def BernCornersUptoSaid : Prop := bernCornersUptoRow.holds Tryz.pinned (OpenSpec.upto bernCornersSpec)

/-- 'cincturelaw10.BernAts', WHERE WHAT IT READS IS OF BULK AT MOST 1048576: true; the input reads as it did. -/
def bernAtsUptoRow : OpenClaim := { program := "ytokefihiadbkbaagreatdoor", sum := "e69ca05f268906b7f55b557e304100f35d2f4b04e10e6bdab8c0069bcc990265", func := "cincture/cincturelaw10.BernAts", spec := "bernAts", inPlace := ["internal/bytealg.IndexByteString", "internal/bytealg.IndexString"], unfollowed := true, recurses := true, named := ["internal/bytealg.MaxLen", "math/bits.deBruijn32tab"], plainKeys := false, apart := false, laid := [("math/bits.deBruijn32tab", laid_math_bits_deBruijn32tab)], narrowed := true }
def BernAtsUptoSaid : Prop := bernAtsUptoRow.holds Tryz.pinned (OpenSpec.upto bernAtsSpec)

/-- 'cincturelaw10.BernHalves', WHERE WHAT IT READS IS OF BULK AT MOST 1048576: true; the input reads as it did. -/
def bernHalvesUptoRow : OpenClaim := { program := "ytokefihiadbkbaagreatdoor", sum := "e69ca05f268906b7f55b557e304100f35d2f4b04e10e6bdab8c0069bcc990265", func := "cincture/cincturelaw10.BernHalves", spec := "bernHalves", inPlace := ["internal/bytealg.IndexByteString", "internal/bytealg.IndexString"], unfollowed := true, recurses := true, named := ["internal/bytealg.MaxLen", "math/bits.deBruijn32tab"], plainKeys := false, apart := false, laid := [("math/bits.deBruijn32tab", laid_math_bits_deBruijn32tab)], narrowed := true }
def BernHalvesUptoSaid : Prop := bernHalvesUptoRow.holds Tryz.pinned (OpenSpec.upto bernHalvesSpec)

/-- 'cincturelaw10.BernNear', WHERE WHAT IT READS IS OF BULK AT MOST 1048576: true; the input reads as it did. -/
def bernNearUptoRow : OpenClaim := { program := "ytokefihiadbkbaagreatdoor", sum := "e69ca05f268906b7f55b557e304100f35d2f4b04e10e6bdab8c0069bcc990265", func := "cincture/cincturelaw10.BernNear", spec := "bernNear", inPlace := ["internal/bytealg.IndexByteString", "internal/bytealg.IndexString"], unfollowed := true, recurses := true, named := ["internal/bytealg.MaxLen", "math/bits.deBruijn32tab"], plainKeys := false, apart := false, laid := [("math/bits.deBruijn32tab", laid_math_bits_deBruijn32tab)], narrowed := true }
def BernNearUptoSaid : Prop := bernNearUptoRow.holds Tryz.pinned (OpenSpec.upto bernNearSpec)

/-- 'cincturelaw10.BernHas', WHERE WHAT IT READS IS OF BULK AT MOST 1048576: true; the input reads as it did. -/
def bernHasUptoRow : OpenClaim := { program := "ytokefihiadbkbaagreatdoor", sum := "e69ca05f268906b7f55b557e304100f35d2f4b04e10e6bdab8c0069bcc990265", func := "cincture/cincturelaw10.BernHas", spec := "bernHas", inPlace := ["internal/bytealg.IndexByteString", "internal/bytealg.IndexString"], unfollowed := true, recurses := true, named := ["internal/bytealg.MaxLen", "math/bits.deBruijn32tab"], plainKeys := false, apart := false, laid := [("math/bits.deBruijn32tab", laid_math_bits_deBruijn32tab)], narrowed := true }
def BernHasUptoSaid : Prop := bernHasUptoRow.holds Tryz.pinned (OpenSpec.upto bernHasSpec)

end Rows
end Go.Proofs.YtokefihiadbkbaaGreatDoor
