/-
  NARROWER THAN 'FOR EVERY INPUT', by the rows' own cells (each row's printed sentence says how): BoundOver: laid · BoundAdds: laid · BoundHalves: laid · GramNever: laid · BernAdds: laid · BoundLinear: laid · BernTells: laid · BernCorners: laid · BoundTells: laid · BoundHas: laid · BernAts: laid · BernHalves: laid.
  DERIVED. THE GIVEN ROWS OF THIS SEAT. 12 by the template 'for every input the law returns true; each argument reads behind the call as it read before'; 0 by the template 'total and deterministic' (their statements: YtjkkidjbppphpaaGreatDoorTotals.lean).
  GIVEN WITH THE SEED: the statements are not yours to turn. If you find one false, say at which input.
  Laid BY PROGRAM, IN A SANDBOX (cutbox-rows.mjs): the forced cells as the released guide's own fill.sh prints them over the translation 9794ba202647e4a1… (all of the seat's roots in one cut). By AI agents, Wed Nov 11 2026. No macro, syntax, notation, axiom, sorry.
-/
import Derived.Test.YtjkkidjbppphpaaGreatDoorChecked
import GoSem.Claim
import GoSem.ClaimJoined
import GoSem.ClaimMapViews
import Derived.JoinedTies
import Derived.KernelRfl
namespace Go.Proofs.YtjkkidjbppphpaaGreatDoor
/- THE CELL 'sum', in the pinned program and in every row, IS THE sha256 OF THE DUMP (.gsa) THAT YtjkkidjbppphpaaGreatDoorProg.lean LOADS. Nothing in Lean hashes anything: it is a label: what it is worth is what the hold of that sum in a sandbox is worth. -/
noncomputable def Tryz.pinned : Pinned := { name := "ytjkkidjbppphpaagreatdoor", sum := "9794ba202647e4a134a8d6ac79c56e6d4adeccf0544a559da48fe8196f20b9e3", checked := Tryz.checked }
namespace Rows
def none {H : Type} : Left H := { results := [], args := [] }

/- WHAT THE LISTED PACKAGE-LEVEL VARIABLES READ AS WHEN THE CALL BEGINS. Each datum BY PROGRAM (the guide's laid-datum.mjs) off the statement by which the dump's own 'gosem.cut.vars' lays the variable. In a bare row this is a premise. The card (YtjkkidjbppphpaaGreatDoorCards.lean) ties it to the program's text. -/
def laid_math_bits_deBruijn32tab {H : Type} : DataW H := .agg [.lit (.int .u8 0), .lit (.int .u8 1), .lit (.int .u8 28), .lit (.int .u8 2), .lit (.int .u8 29), .lit (.int .u8 14), .lit (.int .u8 24), .lit (.int .u8 3), .lit (.int .u8 30), .lit (.int .u8 22), .lit (.int .u8 20), .lit (.int .u8 15), .lit (.int .u8 25), .lit (.int .u8 17), .lit (.int .u8 4), .lit (.int .u8 8), .lit (.int .u8 31), .lit (.int .u8 27), .lit (.int .u8 13), .lit (.int .u8 23), .lit (.int .u8 21), .lit (.int .u8 19), .lit (.int .u8 16), .lit (.int .u8 7), .lit (.int .u8 26), .lit (.int .u8 12), .lit (.int .u8 18), .lit (.int .u8 6), .lit (.int .u8 11), .lit (.int .u8 5), .lit (.int .u8 10), .lit (.int .u8 9)]

/-- 'cincturelaw9.BoundOver': WHATEVER THE INPUT: true; the input reads as it did. -/
def boundOverSpec : ChangeSpec := { name := "boundOver", fn := fun _ => fun
  | [d1, d2] => { results := [.lit (.bool true)], args := [d1, d2] }
  | _ => none }
def boundOverRow : OpenClaim := { program := "ytjkkidjbppphpaagreatdoor", sum := "9794ba202647e4a134a8d6ac79c56e6d4adeccf0544a559da48fe8196f20b9e3", func := "cincture/cincturelaw9.BoundOver", spec := "boundOver", inPlace := ["internal/bytealg.IndexByteString", "internal/bytealg.IndexString"], unfollowed := true, recurses := true, named := ["internal/bytealg.MaxLen", "math/bits.deBruijn32tab"], plainKeys := false, apart := false, laid := [("math/bits.deBruijn32tab", laid_math_bits_deBruijn32tab)] }
def BoundOverSaid : Prop := boundOverRow.holds Tryz.pinned (OpenSpec.ofChange boundOverSpec)

/-- ITS FALSE NEIGHBOUR: 'it returns false'. Refute it at one input. -/
def boundOverWrong : ChangeSpec := { name := "boundOver", fn := fun _ => fun
  | [d1, d2] => { results := [.lit (.bool false)], args := [d1, d2] }
  | _ => none }
def BoundOverWrongFalsely : Prop := boundOverRow.holds Tryz.pinned (OpenSpec.ofChange boundOverWrong)

/-- 'cincturelaw9.BoundAdds': WHATEVER THE INPUT: true; the input reads as it did. -/
def boundAddsSpec : ChangeSpec := { name := "boundAdds", fn := fun _ => fun
  | [d1, d2, d3, d4] => { results := [.lit (.bool true)], args := [d1, d2, d3, d4] }
  | _ => none }
def boundAddsRow : OpenClaim := { program := "ytjkkidjbppphpaagreatdoor", sum := "9794ba202647e4a134a8d6ac79c56e6d4adeccf0544a559da48fe8196f20b9e3", func := "cincture/cincturelaw9.BoundAdds", spec := "boundAdds", inPlace := ["internal/bytealg.IndexByteString", "internal/bytealg.IndexString"], unfollowed := true, recurses := true, named := ["internal/bytealg.MaxLen", "math/bits.deBruijn32tab"], plainKeys := false, apart := false, laid := [("math/bits.deBruijn32tab", laid_math_bits_deBruijn32tab)] }
def BoundAddsSaid : Prop := boundAddsRow.holds Tryz.pinned (OpenSpec.ofChange boundAddsSpec)

/-- ITS FALSE NEIGHBOUR: 'it returns false'. Refute it at one input. -/
def boundAddsWrong : ChangeSpec := { name := "boundAdds", fn := fun _ => fun
  | [d1, d2, d3, d4] => { results := [.lit (.bool false)], args := [d1, d2, d3, d4] }
  | _ => none }
def BoundAddsWrongFalsely : Prop := boundAddsRow.holds Tryz.pinned (OpenSpec.ofChange boundAddsWrong)

/-- 'cincturelaw9.BoundHalves': WHATEVER THE INPUT: true; the input reads as it did. -/
def boundHalvesSpec : ChangeSpec := { name := "boundHalves", fn := fun _ => fun
  | [d1, d2, d3] => { results := [.lit (.bool true)], args := [d1, d2, d3] }
  | _ => none }
def boundHalvesRow : OpenClaim := { program := "ytjkkidjbppphpaagreatdoor", sum := "9794ba202647e4a134a8d6ac79c56e6d4adeccf0544a559da48fe8196f20b9e3", func := "cincture/cincturelaw9.BoundHalves", spec := "boundHalves", inPlace := ["internal/bytealg.IndexByteString", "internal/bytealg.IndexString"], unfollowed := true, recurses := true, named := ["internal/bytealg.MaxLen", "math/bits.deBruijn32tab"], plainKeys := false, apart := false, laid := [("math/bits.deBruijn32tab", laid_math_bits_deBruijn32tab)] }
def BoundHalvesSaid : Prop := boundHalvesRow.holds Tryz.pinned (OpenSpec.ofChange boundHalvesSpec)

/-- ITS FALSE NEIGHBOUR: 'it returns false'. Refute it at one input. -/
def boundHalvesWrong : ChangeSpec := { name := "boundHalves", fn := fun _ => fun
  | [d1, d2, d3] => { results := [.lit (.bool false)], args := [d1, d2, d3] }
  | _ => none }
def BoundHalvesWrongFalsely : Prop := boundHalvesRow.holds Tryz.pinned (OpenSpec.ofChange boundHalvesWrong)

/-- 'cincturelaw13.GramNever': WHATEVER THE INPUT: true; the input reads as it did. -/
def gramNeverSpec : ChangeSpec := { name := "gramNever", fn := fun _ => fun
  | [d1, d2, d3] => { results := [.lit (.bool true)], args := [d1, d2, d3] }
  | _ => none }
def gramNeverRow : OpenClaim := { program := "ytjkkidjbppphpaagreatdoor", sum := "9794ba202647e4a134a8d6ac79c56e6d4adeccf0544a559da48fe8196f20b9e3", func := "cincture/cincturelaw13.GramNever", spec := "gramNever", inPlace := ["internal/bytealg.IndexByteString", "internal/bytealg.IndexString"], unfollowed := true, recurses := true, named := ["internal/bytealg.MaxLen", "math/bits.deBruijn32tab"], plainKeys := false, apart := false, laid := [("math/bits.deBruijn32tab", laid_math_bits_deBruijn32tab)] }
def GramNeverSaid : Prop := gramNeverRow.holds Tryz.pinned (OpenSpec.ofChange gramNeverSpec)

/-- ITS FALSE NEIGHBOUR: 'it returns false'. Refute it at one input. -/
def gramNeverWrong : ChangeSpec := { name := "gramNever", fn := fun _ => fun
  | [d1, d2, d3] => { results := [.lit (.bool false)], args := [d1, d2, d3] }
  | _ => none }
def GramNeverWrongFalsely : Prop := gramNeverRow.holds Tryz.pinned (OpenSpec.ofChange gramNeverWrong)

/-- 'cincturelaw10.BernAdds': WHATEVER THE INPUT: true; the input reads as it did. -/
def bernAddsSpec : ChangeSpec := { name := "bernAdds", fn := fun _ => fun
  | [d1, d2, d3, d4] => { results := [.lit (.bool true)], args := [d1, d2, d3, d4] }
  | _ => none }
def bernAddsRow : OpenClaim := { program := "ytjkkidjbppphpaagreatdoor", sum := "9794ba202647e4a134a8d6ac79c56e6d4adeccf0544a559da48fe8196f20b9e3", func := "cincture/cincturelaw10.BernAdds", spec := "bernAdds", inPlace := ["internal/bytealg.IndexByteString", "internal/bytealg.IndexString"], unfollowed := true, recurses := true, named := ["internal/bytealg.MaxLen", "math/bits.deBruijn32tab"], plainKeys := false, apart := false, laid := [("math/bits.deBruijn32tab", laid_math_bits_deBruijn32tab)] }
def BernAddsSaid : Prop := bernAddsRow.holds Tryz.pinned (OpenSpec.ofChange bernAddsSpec)

/-- ITS FALSE NEIGHBOUR: 'it returns false'. Refute it at one input. -/
def bernAddsWrong : ChangeSpec := { name := "bernAdds", fn := fun _ => fun
  | [d1, d2, d3, d4] => { results := [.lit (.bool false)], args := [d1, d2, d3, d4] }
  | _ => none }
def BernAddsWrongFalsely : Prop := bernAddsRow.holds Tryz.pinned (OpenSpec.ofChange bernAddsWrong)

/-- 'cincturelaw9.BoundLinear': WHATEVER THE INPUT: true; the input reads as it did. -/
def boundLinearSpec : ChangeSpec := { name := "boundLinear", fn := fun _ => fun
  | [d1, d2] => { results := [.lit (.bool true)], args := [d1, d2] }
  | _ => none }
def boundLinearRow : OpenClaim := { program := "ytjkkidjbppphpaagreatdoor", sum := "9794ba202647e4a134a8d6ac79c56e6d4adeccf0544a559da48fe8196f20b9e3", func := "cincture/cincturelaw9.BoundLinear", spec := "boundLinear", inPlace := ["internal/bytealg.IndexByteString", "internal/bytealg.IndexString"], unfollowed := true, recurses := true, named := ["internal/bytealg.MaxLen", "math/bits.deBruijn32tab"], plainKeys := false, apart := false, laid := [("math/bits.deBruijn32tab", laid_math_bits_deBruijn32tab)] }
def BoundLinearSaid : Prop := boundLinearRow.holds Tryz.pinned (OpenSpec.ofChange boundLinearSpec)

/-- ITS FALSE NEIGHBOUR: 'it returns false'. Refute it at one input. -/
def boundLinearWrong : ChangeSpec := { name := "boundLinear", fn := fun _ => fun
  | [d1, d2] => { results := [.lit (.bool false)], args := [d1, d2] }
  | _ => none }
def BoundLinearWrongFalsely : Prop := boundLinearRow.holds Tryz.pinned (OpenSpec.ofChange boundLinearWrong)

/-- 'cincturelaw10.BernTells': WHATEVER THE INPUT: true; the input reads as it did. -/
def bernTellsSpec : ChangeSpec := { name := "bernTells", fn := fun _ => fun
  | [d1, d2] => { results := [.lit (.bool true)], args := [d1, d2] }
  | _ => none }
def bernTellsRow : OpenClaim := { program := "ytjkkidjbppphpaagreatdoor", sum := "9794ba202647e4a134a8d6ac79c56e6d4adeccf0544a559da48fe8196f20b9e3", func := "cincture/cincturelaw10.BernTells", spec := "bernTells", inPlace := ["internal/bytealg.IndexByteString", "internal/bytealg.IndexString"], unfollowed := true, recurses := true, named := ["internal/bytealg.MaxLen", "math/bits.deBruijn32tab"], plainKeys := false, apart := false, laid := [("math/bits.deBruijn32tab", laid_math_bits_deBruijn32tab)] }
def BernTellsSaid : Prop := bernTellsRow.holds Tryz.pinned (OpenSpec.ofChange bernTellsSpec)

/-- ITS FALSE NEIGHBOUR: 'it returns false'. Refute it at one input. -/
def bernTellsWrong : ChangeSpec := { name := "bernTells", fn := fun _ => fun
  | [d1, d2] => { results := [.lit (.bool false)], args := [d1, d2] }
  | _ => none }
def BernTellsWrongFalsely : Prop := bernTellsRow.holds Tryz.pinned (OpenSpec.ofChange bernTellsWrong)

/-- 'cincturelaw10.BernCorners': WHATEVER THE INPUT: true; the input reads as it did. -/
def bernCornersSpec : ChangeSpec := { name := "bernCorners", fn := fun _ => fun
  | [d1, d2, d3] => { results := [.lit (.bool true)], args := [d1, d2, d3] }
  | _ => none }
def bernCornersRow : OpenClaim := { program := "ytjkkidjbppphpaagreatdoor", sum := "9794ba202647e4a134a8d6ac79c56e6d4adeccf0544a559da48fe8196f20b9e3", func := "cincture/cincturelaw10.BernCorners", spec := "bernCorners", inPlace := ["internal/bytealg.IndexByteString", "internal/bytealg.IndexString"], unfollowed := true, recurses := true, named := ["internal/bytealg.MaxLen", "math/bits.deBruijn32tab"], plainKeys := false, apart := false, laid := [("math/bits.deBruijn32tab", laid_math_bits_deBruijn32tab)] }
def BernCornersSaid : Prop := bernCornersRow.holds Tryz.pinned (OpenSpec.ofChange bernCornersSpec)

/-- ITS FALSE NEIGHBOUR: 'it returns false'. Refute it at one input. -/
def bernCornersWrong : ChangeSpec := { name := "bernCorners", fn := fun _ => fun
  | [d1, d2, d3] => { results := [.lit (.bool false)], args := [d1, d2, d3] }
  | _ => none }
def BernCornersWrongFalsely : Prop := bernCornersRow.holds Tryz.pinned (OpenSpec.ofChange bernCornersWrong)

/-- 'cincturelaw9.BoundTells': WHATEVER THE INPUT: true; the input reads as it did. -/
def boundTellsSpec : ChangeSpec := { name := "boundTells", fn := fun _ => fun
  | [d1, d2] => { results := [.lit (.bool true)], args := [d1, d2] }
  | _ => none }
def boundTellsRow : OpenClaim := { program := "ytjkkidjbppphpaagreatdoor", sum := "9794ba202647e4a134a8d6ac79c56e6d4adeccf0544a559da48fe8196f20b9e3", func := "cincture/cincturelaw9.BoundTells", spec := "boundTells", inPlace := ["internal/bytealg.IndexByteString", "internal/bytealg.IndexString"], unfollowed := true, recurses := true, named := ["internal/bytealg.MaxLen", "math/bits.deBruijn32tab"], plainKeys := false, apart := false, laid := [("math/bits.deBruijn32tab", laid_math_bits_deBruijn32tab)] }
def BoundTellsSaid : Prop := boundTellsRow.holds Tryz.pinned (OpenSpec.ofChange boundTellsSpec)

/-- ITS FALSE NEIGHBOUR: 'it returns false'. Refute it at one input. -/
def boundTellsWrong : ChangeSpec := { name := "boundTells", fn := fun _ => fun
  | [d1, d2] => { results := [.lit (.bool false)], args := [d1, d2] }
  | _ => none }
def BoundTellsWrongFalsely : Prop := boundTellsRow.holds Tryz.pinned (OpenSpec.ofChange boundTellsWrong)

/-- 'cincturelaw9.BoundHas': WHATEVER THE INPUT: true; the input reads as it did. -/
def boundHasSpec : ChangeSpec := { name := "boundHas", fn := fun _ => fun
  | [d1, d2, d3] => { results := [.lit (.bool true)], args := [d1, d2, d3] }
  | _ => none }
def boundHasRow : OpenClaim := { program := "ytjkkidjbppphpaagreatdoor", sum := "9794ba202647e4a134a8d6ac79c56e6d4adeccf0544a559da48fe8196f20b9e3", func := "cincture/cincturelaw9.BoundHas", spec := "boundHas", inPlace := ["internal/bytealg.IndexByteString", "internal/bytealg.IndexString"], unfollowed := true, recurses := true, named := ["internal/bytealg.MaxLen", "math/bits.deBruijn32tab"], plainKeys := false, apart := false, laid := [("math/bits.deBruijn32tab", laid_math_bits_deBruijn32tab)] }
def BoundHasSaid : Prop := boundHasRow.holds Tryz.pinned (OpenSpec.ofChange boundHasSpec)

/-- ITS FALSE NEIGHBOUR: 'it returns false'. Refute it at one input. -/
def boundHasWrong : ChangeSpec := { name := "boundHas", fn := fun _ => fun
  | [d1, d2, d3] => { results := [.lit (.bool false)], args := [d1, d2, d3] }
  | _ => none }
def BoundHasWrongFalsely : Prop := boundHasRow.holds Tryz.pinned (OpenSpec.ofChange boundHasWrong)

/-- 'cincturelaw10.BernAts': WHATEVER THE INPUT: true; the input reads as it did. -/
def bernAtsSpec : ChangeSpec := { name := "bernAts", fn := fun _ => fun
  | [d1, d2, d3, d4] => { results := [.lit (.bool true)], args := [d1, d2, d3, d4] }
  | _ => none }
def bernAtsRow : OpenClaim := { program := "ytjkkidjbppphpaagreatdoor", sum := "9794ba202647e4a134a8d6ac79c56e6d4adeccf0544a559da48fe8196f20b9e3", func := "cincture/cincturelaw10.BernAts", spec := "bernAts", inPlace := ["internal/bytealg.IndexByteString", "internal/bytealg.IndexString"], unfollowed := true, recurses := true, named := ["internal/bytealg.MaxLen", "math/bits.deBruijn32tab"], plainKeys := false, apart := false, laid := [("math/bits.deBruijn32tab", laid_math_bits_deBruijn32tab)] }
def BernAtsSaid : Prop := bernAtsRow.holds Tryz.pinned (OpenSpec.ofChange bernAtsSpec)

/-- ITS FALSE NEIGHBOUR: 'it returns false'. Refute it at one input. -/
def bernAtsWrong : ChangeSpec := { name := "bernAts", fn := fun _ => fun
  | [d1, d2, d3, d4] => { results := [.lit (.bool false)], args := [d1, d2, d3, d4] }
  | _ => none }
def BernAtsWrongFalsely : Prop := bernAtsRow.holds Tryz.pinned (OpenSpec.ofChange bernAtsWrong)

/-- 'cincturelaw10.BernHalves': WHATEVER THE INPUT: true; the input reads as it did. -/
def bernHalvesSpec : ChangeSpec := { name := "bernHalves", fn := fun _ => fun
  | [d1, d2, d3] => { results := [.lit (.bool true)], args := [d1, d2, d3] }
  | _ => none }
def bernHalvesRow : OpenClaim := { program := "ytjkkidjbppphpaagreatdoor", sum := "9794ba202647e4a134a8d6ac79c56e6d4adeccf0544a559da48fe8196f20b9e3", func := "cincture/cincturelaw10.BernHalves", spec := "bernHalves", inPlace := ["internal/bytealg.IndexByteString", "internal/bytealg.IndexString"], unfollowed := true, recurses := true, named := ["internal/bytealg.MaxLen", "math/bits.deBruijn32tab"], plainKeys := false, apart := false, laid := [("math/bits.deBruijn32tab", laid_math_bits_deBruijn32tab)] }
def BernHalvesSaid : Prop := bernHalvesRow.holds Tryz.pinned (OpenSpec.ofChange bernHalvesSpec)

/-- ITS FALSE NEIGHBOUR: 'it returns false'. Refute it at one input. -/
def bernHalvesWrong : ChangeSpec := { name := "bernHalves", fn := fun _ => fun
  | [d1, d2, d3] => { results := [.lit (.bool false)], args := [d1, d2, d3] }
  | _ => none }
def BernHalvesWrongFalsely : Prop := bernHalvesRow.holds Tryz.pinned (OpenSpec.ofChange bernHalvesWrong)

/- THE SECOND FORM. 'bulk': how many values and letters a reading holds, each counted each time it is reached (what is shared counts as often as it is met; a slice's spare places count too). A statement '..UptoSaid' is the law's where the arguments, and the package variables that the reading takes, are together of bulk at most 1048576: NARROWER than '..Said'. Prove '..Said' where nothing that the law and all that it calls make is longer than what came in: it says more and counts as full. Else prove '..UptoSaid'. A law counts once. -/
mutual
def uptoBulk {H : Type} : DataW H → Nat
  | .lit (.string bytes) => bytes.length + 1
  | .lit _ => 1
  | .nil => 1
  | .ptr d => uptoBulk d + 1
  | .slice elems spare => uptoBulkAll elems + uptoBulkAll spare + 1
  | .agg parts => uptoBulkAll parts + 1
  | .iface _ d => uptoBulk d + 1
  | .map entries => uptoBulkEntries entries + 1
  | .held _ => 1
def uptoBulkAll {H : Type} : List (DataW H) → Nat
  | [] => 0
  | d :: r => uptoBulk d + uptoBulkAll r
def uptoBulkEntries {H : Type} : List (Lit × DataW H) → Nat
  | [] => 0
  | x :: r => uptoBulkEntry x + uptoBulkEntries r
def uptoBulkEntry {H : Type} : Lit × DataW H → Nat
  | (.string bytes, d) => bytes.length + uptoBulk d + 1
  | (_, d) => uptoBulk d + 1
 end
def uptoSmall : (H : Type) → List (DataW H) → Bool := fun _ ds => decide (uptoBulkAll ds ≤ 1048576)
def OpenSpec.upto (s : _root_.Go.ChangeSpec) : _root_.Go.OpenSpec := { _root_.Go.OpenSpec.ofChange s with cond := some uptoSmall }

/-- 'cincturelaw9.BoundOver', WHERE WHAT IT READS IS OF BULK AT MOST 1048576: true; the input reads as it did. -/
def boundOverUptoRow : OpenClaim := { program := "ytjkkidjbppphpaagreatdoor", sum := "9794ba202647e4a134a8d6ac79c56e6d4adeccf0544a559da48fe8196f20b9e3", func := "cincture/cincturelaw9.BoundOver", spec := "boundOver", inPlace := ["internal/bytealg.IndexByteString", "internal/bytealg.IndexString"], unfollowed := true, recurses := true, named := ["internal/bytealg.MaxLen", "math/bits.deBruijn32tab"], plainKeys := false, apart := false, laid := [("math/bits.deBruijn32tab", laid_math_bits_deBruijn32tab)], narrowed := true }
def BoundOverUptoSaid : Prop := boundOverUptoRow.holds Tryz.pinned (OpenSpec.upto boundOverSpec)

/-- 'cincturelaw9.BoundAdds', WHERE WHAT IT READS IS OF BULK AT MOST 1048576: true; the input reads as it did. -/
def boundAddsUptoRow : OpenClaim := { program := "ytjkkidjbppphpaagreatdoor", sum := "9794ba202647e4a134a8d6ac79c56e6d4adeccf0544a559da48fe8196f20b9e3", func := "cincture/cincturelaw9.BoundAdds", spec := "boundAdds", inPlace := ["internal/bytealg.IndexByteString", "internal/bytealg.IndexString"], unfollowed := true, recurses := true, named := ["internal/bytealg.MaxLen", "math/bits.deBruijn32tab"], plainKeys := false, apart := false, laid := [("math/bits.deBruijn32tab", laid_math_bits_deBruijn32tab)], narrowed := true }
def BoundAddsUptoSaid : Prop := boundAddsUptoRow.holds Tryz.pinned (OpenSpec.upto boundAddsSpec)

/-- 'cincturelaw9.BoundHalves', WHERE WHAT IT READS IS OF BULK AT MOST 1048576: true; the input reads as it did. -/
def boundHalvesUptoRow : OpenClaim := { program := "ytjkkidjbppphpaagreatdoor", sum := "9794ba202647e4a134a8d6ac79c56e6d4adeccf0544a559da48fe8196f20b9e3", func := "cincture/cincturelaw9.BoundHalves", spec := "boundHalves", inPlace := ["internal/bytealg.IndexByteString", "internal/bytealg.IndexString"], unfollowed := true, recurses := true, named := ["internal/bytealg.MaxLen", "math/bits.deBruijn32tab"], plainKeys := false, apart := false, laid := [("math/bits.deBruijn32tab", laid_math_bits_deBruijn32tab)], narrowed := true }
def BoundHalvesUptoSaid : Prop := boundHalvesUptoRow.holds Tryz.pinned (OpenSpec.upto boundHalvesSpec)

/-- 'cincturelaw13.GramNever', WHERE WHAT IT READS IS OF BULK AT MOST 1048576: true; the input reads as it did. -/
def gramNeverUptoRow : OpenClaim := { program := "ytjkkidjbppphpaagreatdoor", sum := "9794ba202647e4a134a8d6ac79c56e6d4adeccf0544a559da48fe8196f20b9e3", func := "cincture/cincturelaw13.GramNever", spec := "gramNever", inPlace := ["internal/bytealg.IndexByteString", "internal/bytealg.IndexString"], unfollowed := true, recurses := true, named := ["internal/bytealg.MaxLen", "math/bits.deBruijn32tab"], plainKeys := false, apart := false, laid := [("math/bits.deBruijn32tab", laid_math_bits_deBruijn32tab)], narrowed := true }
def GramNeverUptoSaid : Prop := gramNeverUptoRow.holds Tryz.pinned (OpenSpec.upto gramNeverSpec)

/-- 'cincturelaw10.BernAdds', WHERE WHAT IT READS IS OF BULK AT MOST 1048576: true; the input reads as it did. -/
def bernAddsUptoRow : OpenClaim := { program := "ytjkkidjbppphpaagreatdoor", sum := "9794ba202647e4a134a8d6ac79c56e6d4adeccf0544a559da48fe8196f20b9e3", func := "cincture/cincturelaw10.BernAdds", spec := "bernAdds", inPlace := ["internal/bytealg.IndexByteString", "internal/bytealg.IndexString"], unfollowed := true, recurses := true, named := ["internal/bytealg.MaxLen", "math/bits.deBruijn32tab"], plainKeys := false, apart := false, laid := [("math/bits.deBruijn32tab", laid_math_bits_deBruijn32tab)], narrowed := true }
def BernAddsUptoSaid : Prop := bernAddsUptoRow.holds Tryz.pinned (OpenSpec.upto bernAddsSpec)

/-- 'cincturelaw9.BoundLinear', WHERE WHAT IT READS IS OF BULK AT MOST 1048576: true; the input reads as it did. -/
def boundLinearUptoRow : OpenClaim := { program := "ytjkkidjbppphpaagreatdoor", sum := "9794ba202647e4a134a8d6ac79c56e6d4adeccf0544a559da48fe8196f20b9e3", func := "cincture/cincturelaw9.BoundLinear", spec := "boundLinear", inPlace := ["internal/bytealg.IndexByteString", "internal/bytealg.IndexString"], unfollowed := true, recurses := true, named := ["internal/bytealg.MaxLen", "math/bits.deBruijn32tab"], plainKeys := false, apart := false, laid := [("math/bits.deBruijn32tab", laid_math_bits_deBruijn32tab)], narrowed := true }
def BoundLinearUptoSaid : Prop := boundLinearUptoRow.holds Tryz.pinned (OpenSpec.upto boundLinearSpec)

/-- 'cincturelaw10.BernTells', WHERE WHAT IT READS IS OF BULK AT MOST 1048576: true; the input reads as it did. -/
def bernTellsUptoRow : OpenClaim := { program := "ytjkkidjbppphpaagreatdoor", sum := "9794ba202647e4a134a8d6ac79c56e6d4adeccf0544a559da48fe8196f20b9e3", func := "cincture/cincturelaw10.BernTells", spec := "bernTells", inPlace := ["internal/bytealg.IndexByteString", "internal/bytealg.IndexString"], unfollowed := true, recurses := true, named := ["internal/bytealg.MaxLen", "math/bits.deBruijn32tab"], plainKeys := false, apart := false, laid := [("math/bits.deBruijn32tab", laid_math_bits_deBruijn32tab)], narrowed := true }
def BernTellsUptoSaid : Prop := bernTellsUptoRow.holds Tryz.pinned (OpenSpec.upto bernTellsSpec)

/-- 'cincturelaw10.BernCorners', WHERE WHAT IT READS IS OF BULK AT MOST 1048576: true; the input reads as it did. -/
def bernCornersUptoRow : OpenClaim := { program := "ytjkkidjbppphpaagreatdoor", sum := "9794ba202647e4a134a8d6ac79c56e6d4adeccf0544a559da48fe8196f20b9e3", func := "cincture/cincturelaw10.BernCorners", spec := "bernCorners", inPlace := ["internal/bytealg.IndexByteString", "internal/bytealg.IndexString"], unfollowed := true, recurses := true, named := ["internal/bytealg.MaxLen", "math/bits.deBruijn32tab"], plainKeys := false, apart := false, laid := [("math/bits.deBruijn32tab", laid_math_bits_deBruijn32tab)], narrowed := true }
def BernCornersUptoSaid : Prop := bernCornersUptoRow.holds Tryz.pinned (OpenSpec.upto bernCornersSpec)

/-- 'cincturelaw9.BoundTells', WHERE WHAT IT READS IS OF BULK AT MOST 1048576: true; the input reads as it did. -/
def boundTellsUptoRow : OpenClaim := { program := "ytjkkidjbppphpaagreatdoor", sum := "9794ba202647e4a134a8d6ac79c56e6d4adeccf0544a559da48fe8196f20b9e3", func := "cincture/cincturelaw9.BoundTells", spec := "boundTells", inPlace := ["internal/bytealg.IndexByteString", "internal/bytealg.IndexString"], unfollowed := true, recurses := true, named := ["internal/bytealg.MaxLen", "math/bits.deBruijn32tab"], plainKeys := false, apart := false, laid := [("math/bits.deBruijn32tab", laid_math_bits_deBruijn32tab)], narrowed := true }
def BoundTellsUptoSaid : Prop := boundTellsUptoRow.holds Tryz.pinned (OpenSpec.upto boundTellsSpec)

/-- 'cincturelaw9.BoundHas', WHERE WHAT IT READS IS OF BULK AT MOST 1048576: true; the input reads as it did. -/
def boundHasUptoRow : OpenClaim := { program := "ytjkkidjbppphpaagreatdoor", sum := "9794ba202647e4a134a8d6ac79c56e6d4adeccf0544a559da48fe8196f20b9e3", func := "cincture/cincturelaw9.BoundHas", spec := "boundHas", inPlace := ["internal/bytealg.IndexByteString", "internal/bytealg.IndexString"], unfollowed := true, recurses := true, named := ["internal/bytealg.MaxLen", "math/bits.deBruijn32tab"], plainKeys := false, apart := false, laid := [("math/bits.deBruijn32tab", laid_math_bits_deBruijn32tab)], narrowed := true }
def BoundHasUptoSaid : Prop := boundHasUptoRow.holds Tryz.pinned (OpenSpec.upto boundHasSpec)

/-- 'cincturelaw10.BernAts', WHERE WHAT IT READS IS OF BULK AT MOST 1048576: true; the input reads as it did. -/
def bernAtsUptoRow : OpenClaim := { program := "ytjkkidjbppphpaagreatdoor", sum := "9794ba202647e4a134a8d6ac79c56e6d4adeccf0544a559da48fe8196f20b9e3", func := "cincture/cincturelaw10.BernAts", spec := "bernAts", inPlace := ["internal/bytealg.IndexByteString", "internal/bytealg.IndexString"], unfollowed := true, recurses := true, named := ["internal/bytealg.MaxLen", "math/bits.deBruijn32tab"], plainKeys := false, apart := false, laid := [("math/bits.deBruijn32tab", laid_math_bits_deBruijn32tab)], narrowed := true }
def BernAtsUptoSaid : Prop := bernAtsUptoRow.holds Tryz.pinned (OpenSpec.upto bernAtsSpec)

/-- 'cincturelaw10.BernHalves', WHERE WHAT IT READS IS OF BULK AT MOST 1048576: true; the input reads as it did. -/
def bernHalvesUptoRow : OpenClaim := { program := "ytjkkidjbppphpaagreatdoor", sum := "9794ba202647e4a134a8d6ac79c56e6d4adeccf0544a559da48fe8196f20b9e3", func := "cincture/cincturelaw10.BernHalves", spec := "bernHalves", inPlace := ["internal/bytealg.IndexByteString", "internal/bytealg.IndexString"], unfollowed := true, recurses := true, named := ["internal/bytealg.MaxLen", "math/bits.deBruijn32tab"], plainKeys := false, apart := false, laid := [("math/bits.deBruijn32tab", laid_math_bits_deBruijn32tab)], narrowed := true }
def BernHalvesUptoSaid : Prop := bernHalvesUptoRow.holds Tryz.pinned (OpenSpec.upto bernHalvesSpec)

end Rows
end Go.Proofs.YtjkkidjbppphpaaGreatDoor
