/-
  No cell of these rows narrows 'for every input' (looked for: loops, veiled, ifaces, maps, wideKeys, modest, calm, conditions, laid).
  DERIVED. THE GIVEN ROWS OF THIS SEAT. 12 by the template 'for every input the law returns true; each argument reads behind the call as it read before'; 0 by the template 'total and deterministic' (their statements: YtbingbjhgoanoaaGreatTotals.lean).
  GIVEN WITH THE SEED: the statements are not yours to turn. If you find one false, say at which input.
  Laid BY PROGRAM, IN A SANDBOX (cutbox-rows.mjs): the forced cells as the released guide's own fill.sh prints them over the translation 9a57924585db5cef… (all of the seat's roots in one cut). By AI agents, Wed Nov 11 2026. No macro, syntax, notation, axiom, sorry.
-/
import Derived.Test.YtbingbjhgoanoaaGreatChecked
import GoSem.Claim
import GoSem.ClaimJoined
import GoSem.ClaimMapViews
import Derived.JoinedTies
import Derived.KernelRfl
namespace Go.Proofs.YtbingbjhgoanoaaGreat
/- THE CELL 'sum', in the pinned program and in every row, IS THE sha256 OF THE DUMP (.gsa) THAT YtbingbjhgoanoaaGreatProg.lean LOADS. Nothing in Lean hashes anything: it is a label: what it is worth is what the hold of that sum in a sandbox is worth. -/
noncomputable def Tryz.pinned : Pinned := { name := "ytbingbjhgoanoaagreat", sum := "9a57924585db5cefd1eb4c03a571f011321ea54085db1dea624d0435e3f3351e", checked := Tryz.checked }
namespace Rows
def none {H : Type} : Left H := { results := [], args := [] }

/-- 'cincturelaw8.PolyNews': WHATEVER THE INPUT: true; the input reads as it did. -/
def polyNewsSpec : ChangeSpec := { name := "polyNews", fn := fun _ => fun
  | [d] => { results := [.lit (.bool true)], args := [d] }
  | _ => none }
def polyNewsRow : OpenClaim := { program := "ytbingbjhgoanoaagreat", sum := "9a57924585db5cefd1eb4c03a571f011321ea54085db1dea624d0435e3f3351e", func := "cincture/cincturelaw8.PolyNews", spec := "polyNews", inPlace := ["internal/bytealg.IndexByteString", "internal/bytealg.IndexString"], unfollowed := true, recurses := true, named := ["internal/bytealg.MaxLen"], plainKeys := false, apart := false }
def PolyNewsSaid : Prop := polyNewsRow.holds Tryz.pinned (OpenSpec.ofChange polyNewsSpec)

/-- ITS FALSE NEIGHBOUR: 'it returns false'. Refute it at one input. -/
def polyNewsWrong : ChangeSpec := { name := "polyNews", fn := fun _ => fun
  | [d] => { results := [.lit (.bool false)], args := [d] }
  | _ => none }
def PolyNewsWrongFalsely : Prop := polyNewsRow.holds Tryz.pinned (OpenSpec.ofChange polyNewsWrong)

/-- 'cincturelaw8.PolyMuls': WHATEVER THE INPUT: true; the input reads as it did. -/
def polyMulsSpec : ChangeSpec := { name := "polyMuls", fn := fun _ => fun
  | [d1, d2] => { results := [.lit (.bool true)], args := [d1, d2] }
  | _ => none }
def polyMulsRow : OpenClaim := { program := "ytbingbjhgoanoaagreat", sum := "9a57924585db5cefd1eb4c03a571f011321ea54085db1dea624d0435e3f3351e", func := "cincture/cincturelaw8.PolyMuls", spec := "polyMuls", inPlace := ["internal/bytealg.IndexByteString", "internal/bytealg.IndexString"], unfollowed := true, recurses := true, named := ["internal/bytealg.MaxLen"], plainKeys := false, apart := false }
def PolyMulsSaid : Prop := polyMulsRow.holds Tryz.pinned (OpenSpec.ofChange polyMulsSpec)

/-- ITS FALSE NEIGHBOUR: 'it returns false'. Refute it at one input. -/
def polyMulsWrong : ChangeSpec := { name := "polyMuls", fn := fun _ => fun
  | [d1, d2] => { results := [.lit (.bool false)], args := [d1, d2] }
  | _ => none }
def PolyMulsWrongFalsely : Prop := polyMulsRow.holds Tryz.pinned (OpenSpec.ofChange polyMulsWrong)

/-- 'cincturelaw8.PolyOwn': WHATEVER THE INPUT: true; the input reads as it did. -/
def polyOwnSpec : ChangeSpec := { name := "polyOwn", fn := fun _ => fun
  | [d1, d2] => { results := [.lit (.bool true)], args := [d1, d2] }
  | _ => none }
def polyOwnRow : OpenClaim := { program := "ytbingbjhgoanoaagreat", sum := "9a57924585db5cefd1eb4c03a571f011321ea54085db1dea624d0435e3f3351e", func := "cincture/cincturelaw8.PolyOwn", spec := "polyOwn", inPlace := ["internal/bytealg.IndexByteString", "internal/bytealg.IndexString"], unfollowed := true, recurses := true, named := ["internal/bytealg.MaxLen"], plainKeys := false, apart := false }
def PolyOwnSaid : Prop := polyOwnRow.holds Tryz.pinned (OpenSpec.ofChange polyOwnSpec)

/-- ITS FALSE NEIGHBOUR: 'it returns false'. Refute it at one input. -/
def polyOwnWrong : ChangeSpec := { name := "polyOwn", fn := fun _ => fun
  | [d1, d2] => { results := [.lit (.bool false)], args := [d1, d2] }
  | _ => none }
def PolyOwnWrongFalsely : Prop := polyOwnRow.holds Tryz.pinned (OpenSpec.ofChange polyOwnWrong)

/-- 'cincturelaw8.PolyDiffs': WHATEVER THE INPUT: true; the input reads as it did. -/
def polyDiffsSpec : ChangeSpec := { name := "polyDiffs", fn := fun _ => fun
  | [d1, d2] => { results := [.lit (.bool true)], args := [d1, d2] }
  | _ => none }
def polyDiffsRow : OpenClaim := { program := "ytbingbjhgoanoaagreat", sum := "9a57924585db5cefd1eb4c03a571f011321ea54085db1dea624d0435e3f3351e", func := "cincture/cincturelaw8.PolyDiffs", spec := "polyDiffs", inPlace := ["internal/bytealg.IndexByteString", "internal/bytealg.IndexString"], unfollowed := true, recurses := true, named := ["internal/bytealg.MaxLen"], plainKeys := false, apart := false }
def PolyDiffsSaid : Prop := polyDiffsRow.holds Tryz.pinned (OpenSpec.ofChange polyDiffsSpec)

/-- ITS FALSE NEIGHBOUR: 'it returns false'. Refute it at one input. -/
def polyDiffsWrong : ChangeSpec := { name := "polyDiffs", fn := fun _ => fun
  | [d1, d2] => { results := [.lit (.bool false)], args := [d1, d2] }
  | _ => none }
def PolyDiffsWrongFalsely : Prop := polyDiffsRow.holds Tryz.pinned (OpenSpec.ofChange polyDiffsWrong)

/-- 'cincturelaw8.PolyComposes': WHATEVER THE INPUT: true; the input reads as it did. -/
def polyComposesSpec : ChangeSpec := { name := "polyComposes", fn := fun _ => fun
  | [d1, d2, d3, d4] => { results := [.lit (.bool true)], args := [d1, d2, d3, d4] }
  | _ => none }
def polyComposesRow : OpenClaim := { program := "ytbingbjhgoanoaagreat", sum := "9a57924585db5cefd1eb4c03a571f011321ea54085db1dea624d0435e3f3351e", func := "cincture/cincturelaw8.PolyComposes", spec := "polyComposes", inPlace := ["internal/bytealg.IndexByteString", "internal/bytealg.IndexString"], unfollowed := true, recurses := true, named := ["internal/bytealg.MaxLen"], plainKeys := false, apart := false }
def PolyComposesSaid : Prop := polyComposesRow.holds Tryz.pinned (OpenSpec.ofChange polyComposesSpec)

/-- ITS FALSE NEIGHBOUR: 'it returns false'. Refute it at one input. -/
def polyComposesWrong : ChangeSpec := { name := "polyComposes", fn := fun _ => fun
  | [d1, d2, d3, d4] => { results := [.lit (.bool false)], args := [d1, d2, d3, d4] }
  | _ => none }
def PolyComposesWrongFalsely : Prop := polyComposesRow.holds Tryz.pinned (OpenSpec.ofChange polyComposesWrong)

/-- 'cincturelaw8.PolyAdds': WHATEVER THE INPUT: true; the input reads as it did. -/
def polyAddsSpec : ChangeSpec := { name := "polyAdds", fn := fun _ => fun
  | [d1, d2, d3, d4] => { results := [.lit (.bool true)], args := [d1, d2, d3, d4] }
  | _ => none }
def polyAddsRow : OpenClaim := { program := "ytbingbjhgoanoaagreat", sum := "9a57924585db5cefd1eb4c03a571f011321ea54085db1dea624d0435e3f3351e", func := "cincture/cincturelaw8.PolyAdds", spec := "polyAdds", inPlace := ["internal/bytealg.IndexByteString", "internal/bytealg.IndexString"], unfollowed := true, recurses := true, named := ["internal/bytealg.MaxLen"], plainKeys := false, apart := false }
def PolyAddsSaid : Prop := polyAddsRow.holds Tryz.pinned (OpenSpec.ofChange polyAddsSpec)

/-- ITS FALSE NEIGHBOUR: 'it returns false'. Refute it at one input. -/
def polyAddsWrong : ChangeSpec := { name := "polyAdds", fn := fun _ => fun
  | [d1, d2, d3, d4] => { results := [.lit (.bool false)], args := [d1, d2, d3, d4] }
  | _ => none }
def PolyAddsWrongFalsely : Prop := polyAddsRow.holds Tryz.pinned (OpenSpec.ofChange polyAddsWrong)

/-- 'cincturelaw8.PolyRings': WHATEVER THE INPUT: true; the input reads as it did. -/
def polyRingsSpec : ChangeSpec := { name := "polyRings", fn := fun _ => fun
  | [d1, d2, d3] => { results := [.lit (.bool true)], args := [d1, d2, d3] }
  | _ => none }
def polyRingsRow : OpenClaim := { program := "ytbingbjhgoanoaagreat", sum := "9a57924585db5cefd1eb4c03a571f011321ea54085db1dea624d0435e3f3351e", func := "cincture/cincturelaw8.PolyRings", spec := "polyRings", inPlace := ["internal/bytealg.IndexByteString", "internal/bytealg.IndexString"], unfollowed := true, recurses := true, named := ["internal/bytealg.MaxLen"], plainKeys := false, apart := false }
def PolyRingsSaid : Prop := polyRingsRow.holds Tryz.pinned (OpenSpec.ofChange polyRingsSpec)

/-- ITS FALSE NEIGHBOUR: 'it returns false'. Refute it at one input. -/
def polyRingsWrong : ChangeSpec := { name := "polyRings", fn := fun _ => fun
  | [d1, d2, d3] => { results := [.lit (.bool false)], args := [d1, d2, d3] }
  | _ => none }
def PolyRingsWrongFalsely : Prop := polyRingsRow.holds Tryz.pinned (OpenSpec.ofChange polyRingsWrong)

/-- 'cincturelaw8.PolyAts': WHATEVER THE INPUT: true; the input reads as it did. -/
def polyAtsSpec : ChangeSpec := { name := "polyAts", fn := fun _ => fun
  | [d1, d2] => { results := [.lit (.bool true)], args := [d1, d2] }
  | _ => none }
def polyAtsRow : OpenClaim := { program := "ytbingbjhgoanoaagreat", sum := "9a57924585db5cefd1eb4c03a571f011321ea54085db1dea624d0435e3f3351e", func := "cincture/cincturelaw8.PolyAts", spec := "polyAts", inPlace := ["internal/bytealg.IndexByteString", "internal/bytealg.IndexString"], unfollowed := true, recurses := true, named := ["internal/bytealg.MaxLen"], plainKeys := false, apart := false }
def PolyAtsSaid : Prop := polyAtsRow.holds Tryz.pinned (OpenSpec.ofChange polyAtsSpec)

/-- ITS FALSE NEIGHBOUR: 'it returns false'. Refute it at one input. -/
def polyAtsWrong : ChangeSpec := { name := "polyAts", fn := fun _ => fun
  | [d1, d2] => { results := [.lit (.bool false)], args := [d1, d2] }
  | _ => none }
def PolyAtsWrongFalsely : Prop := polyAtsRow.holds Tryz.pinned (OpenSpec.ofChange polyAtsWrong)

/-- 'cincturelaw8.PolyDegrees': WHATEVER THE INPUT: true; the input reads as it did. -/
def polyDegreesSpec : ChangeSpec := { name := "polyDegrees", fn := fun _ => fun
  | [d1, d2, d3] => { results := [.lit (.bool true)], args := [d1, d2, d3] }
  | _ => none }
def polyDegreesRow : OpenClaim := { program := "ytbingbjhgoanoaagreat", sum := "9a57924585db5cefd1eb4c03a571f011321ea54085db1dea624d0435e3f3351e", func := "cincture/cincturelaw8.PolyDegrees", spec := "polyDegrees", inPlace := ["internal/bytealg.IndexByteString", "internal/bytealg.IndexString"], unfollowed := true, recurses := true, named := ["internal/bytealg.MaxLen"], plainKeys := false, apart := false }
def PolyDegreesSaid : Prop := polyDegreesRow.holds Tryz.pinned (OpenSpec.ofChange polyDegreesSpec)

/-- ITS FALSE NEIGHBOUR: 'it returns false'. Refute it at one input. -/
def polyDegreesWrong : ChangeSpec := { name := "polyDegrees", fn := fun _ => fun
  | [d1, d2, d3] => { results := [.lit (.bool false)], args := [d1, d2, d3] }
  | _ => none }
def PolyDegreesWrongFalsely : Prop := polyDegreesRow.holds Tryz.pinned (OpenSpec.ofChange polyDegreesWrong)

/-- 'cincturelaw8.PolyLeibniz': WHATEVER THE INPUT: true; the input reads as it did. -/
def polyLeibnizSpec : ChangeSpec := { name := "polyLeibniz", fn := fun _ => fun
  | [d1, d2, d3, d4] => { results := [.lit (.bool true)], args := [d1, d2, d3, d4] }
  | _ => none }
def polyLeibnizRow : OpenClaim := { program := "ytbingbjhgoanoaagreat", sum := "9a57924585db5cefd1eb4c03a571f011321ea54085db1dea624d0435e3f3351e", func := "cincture/cincturelaw8.PolyLeibniz", spec := "polyLeibniz", inPlace := ["internal/bytealg.IndexByteString", "internal/bytealg.IndexString"], unfollowed := true, recurses := true, named := ["internal/bytealg.MaxLen"], plainKeys := false, apart := false }
def PolyLeibnizSaid : Prop := polyLeibnizRow.holds Tryz.pinned (OpenSpec.ofChange polyLeibnizSpec)

/-- ITS FALSE NEIGHBOUR: 'it returns false'. Refute it at one input. -/
def polyLeibnizWrong : ChangeSpec := { name := "polyLeibniz", fn := fun _ => fun
  | [d1, d2, d3, d4] => { results := [.lit (.bool false)], args := [d1, d2, d3, d4] }
  | _ => none }
def PolyLeibnizWrongFalsely : Prop := polyLeibnizRow.holds Tryz.pinned (OpenSpec.ofChange polyLeibnizWrong)

/-- 'cincturelaw8.PolyTells': WHATEVER THE INPUT: true; the input reads as it did. -/
def polyTellsSpec : ChangeSpec := { name := "polyTells", fn := fun _ => fun
  | [d1, d2] => { results := [.lit (.bool true)], args := [d1, d2] }
  | _ => none }
def polyTellsRow : OpenClaim := { program := "ytbingbjhgoanoaagreat", sum := "9a57924585db5cefd1eb4c03a571f011321ea54085db1dea624d0435e3f3351e", func := "cincture/cincturelaw8.PolyTells", spec := "polyTells", inPlace := ["internal/bytealg.IndexByteString", "internal/bytealg.IndexString"], unfollowed := true, recurses := true, named := ["internal/bytealg.MaxLen"], plainKeys := false, apart := false }
def PolyTellsSaid : Prop := polyTellsRow.holds Tryz.pinned (OpenSpec.ofChange polyTellsSpec)

/-- ITS FALSE NEIGHBOUR: 'it returns false'. Refute it at one input. -/
def polyTellsWrong : ChangeSpec := { name := "polyTells", fn := fun _ => fun
  | [d1, d2] => { results := [.lit (.bool false)], args := [d1, d2] }
  | _ => none }
def PolyTellsWrongFalsely : Prop := polyTellsRow.holds Tryz.pinned (OpenSpec.ofChange polyTellsWrong)

/-- 'cincturelaw8.PolyValues': WHATEVER THE INPUT: true; the input reads as it did. -/
def polyValuesSpec : ChangeSpec := { name := "polyValues", fn := fun _ => fun
  | [d1, d2, d3] => { results := [.lit (.bool true)], args := [d1, d2, d3] }
  | _ => none }
def polyValuesRow : OpenClaim := { program := "ytbingbjhgoanoaagreat", sum := "9a57924585db5cefd1eb4c03a571f011321ea54085db1dea624d0435e3f3351e", func := "cincture/cincturelaw8.PolyValues", spec := "polyValues", inPlace := ["internal/bytealg.IndexByteString", "internal/bytealg.IndexString"], unfollowed := true, recurses := true, named := ["internal/bytealg.MaxLen"], plainKeys := false, apart := false }
def PolyValuesSaid : Prop := polyValuesRow.holds Tryz.pinned (OpenSpec.ofChange polyValuesSpec)

/-- ITS FALSE NEIGHBOUR: 'it returns false'. Refute it at one input. -/
def polyValuesWrong : ChangeSpec := { name := "polyValues", fn := fun _ => fun
  | [d1, d2, d3] => { results := [.lit (.bool false)], args := [d1, d2, d3] }
  | _ => none }
def PolyValuesWrongFalsely : Prop := polyValuesRow.holds Tryz.pinned (OpenSpec.ofChange polyValuesWrong)

/- THE SECOND FORM. 'bulk': how many values and letters a reading holds, each counted each time it is reached (what is shared counts as often as it is met; a slice's spare places count too). A statement '..UptoSaid' is the law's where the arguments, and the package variables that the reading takes, are together of bulk at most 1048576: NARROWER than '..Said'. Prove '..Said' where nothing that the law and all that it calls make is longer than what came in: it says more and counts as full. Else prove '..UptoSaid'. A law counts once. -/
mutual
def uptoBulk {H : Type} : DataW H → Nat
  | .lit (.string bytes) => bytes.length + 1
  | .lit _ => 1
  | .nil => 1
  | .ptr d => uptoBulk d + 1
  | .slice elems spare => uptoBulkAll elems + uptoBulkAll spare + 1
  | .agg parts => uptoBulkAll parts + 1
  | .iface _ d => uptoBulk d + 1
  | .map entries => uptoBulkEntries entries + 1
  | .held _ => 1
def uptoBulkAll {H : Type} : List (DataW H) → Nat
  | [] => 0
  | d :: r => uptoBulk d + uptoBulkAll r
def uptoBulkEntries {H : Type} : List (Lit × DataW H) → Nat
  | [] => 0
  | x :: r => uptoBulkEntry x + uptoBulkEntries r
def uptoBulkEntry {H : Type} : Lit × DataW H → Nat
  | (.string bytes, d) => bytes.length + uptoBulk d + 1
  | (_, d) => uptoBulk d + 1
 end
def uptoSmall : (H : Type) → List (DataW H) → Bool := fun _ ds => decide (uptoBulkAll ds ≤ 1048576)
def OpenSpec.upto (s : _root_.Go.ChangeSpec) : _root_.Go.OpenSpec := { _root_.Go.OpenSpec.ofChange s with cond := some uptoSmall }

/-- 'cincturelaw8.PolyNews', WHERE WHAT IT READS IS OF BULK AT MOST 1048576: true; the input reads as it did. -/
def polyNewsUptoRow : OpenClaim := { program := "ytbingbjhgoanoaagreat", sum := "9a57924585db5cefd1eb4c03a571f011321ea54085db1dea624d0435e3f3351e", func := "cincture/cincturelaw8.PolyNews", spec := "polyNews", inPlace := ["internal/bytealg.IndexByteString", "internal/bytealg.IndexString"], unfollowed := true, recurses := true, named := ["internal/bytealg.MaxLen"], plainKeys := false, apart := false, narrowed := true }
def PolyNewsUptoSaid : Prop := polyNewsUptoRow.holds Tryz.pinned (OpenSpec.upto polyNewsSpec)

/-- 'cincturelaw8.PolyMuls', WHERE WHAT IT READS IS OF BULK AT MOST 1048576: true; the input reads as it did. -/
def polyMulsUptoRow : OpenClaim := { program := "ytbingbjhgoanoaagreat", sum := "9a57924585db5cefd1eb4c03a571f011321ea54085db1dea624d0435e3f3351e", func := "cincture/cincturelaw8.PolyMuls", spec := "polyMuls", inPlace := ["internal/bytealg.IndexByteString", "internal/bytealg.IndexString"], unfollowed := true, recurses := true, named := ["internal/bytealg.MaxLen"], plainKeys := false, apart := false, narrowed := true }
def PolyMulsUptoSaid : Prop := polyMulsUptoRow.holds Tryz.pinned (OpenSpec.upto polyMulsSpec)

/-- 'cincturelaw8.PolyOwn', WHERE WHAT IT READS IS OF BULK AT MOST 1048576: true; the input reads as it did. -/
def polyOwnUptoRow : OpenClaim := { program := "ytbingbjhgoanoaagreat", sum := "9a57924585db5cefd1eb4c03a571f011321ea54085db1dea624d0435e3f3351e", func := "cincture/cincturelaw8.PolyOwn", spec := "polyOwn", inPlace := ["internal/bytealg.IndexByteString", "internal/bytealg.IndexString"], unfollowed := true, recurses := true, named := ["internal/bytealg.MaxLen"], plainKeys := false, apart := false, narrowed := true }
def PolyOwnUptoSaid : Prop := polyOwnUptoRow.holds Tryz.pinned (OpenSpec.upto polyOwnSpec)

/-- 'cincturelaw8.PolyDiffs', WHERE WHAT IT READS IS OF BULK AT MOST 1048576: true; the input reads as it did. -/
def polyDiffsUptoRow : OpenClaim := { program := "ytbingbjhgoanoaagreat", sum := "9a57924585db5cefd1eb4c03a571f011321ea54085db1dea624d0435e3f3351e", func := "cincture/cincturelaw8.PolyDiffs", spec := "polyDiffs", inPlace := ["internal/bytealg.IndexByteString", "internal/bytealg.IndexString"], unfollowed := true, recurses := true, named := ["internal/bytealg.MaxLen"], plainKeys := false, apart := false, narrowed := true }
def PolyDiffsUptoSaid : Prop := polyDiffsUptoRow.holds Tryz.pinned (OpenSpec.upto polyDiffsSpec)

/-- 'cincturelaw8.PolyComposes', WHERE WHAT IT READS IS OF BULK AT MOST 1048576: true; the input reads as it did. -/
def polyComposesUptoRow : OpenClaim := { program := "ytbingbjhgoanoaagreat", sum := "9a57924585db5cefd1eb4c03a571f011321ea54085db1dea624d0435e3f3351e", func := "cincture/cincturelaw8.PolyComposes", spec := "polyComposes", inPlace := ["internal/bytealg.IndexByteString", "internal/bytealg.IndexString"], unfollowed := true, recurses := true, named := ["internal/bytealg.MaxLen"], plainKeys := false, apart := false, narrowed := true }
def PolyComposesUptoSaid : Prop := polyComposesUptoRow.holds Tryz.pinned (OpenSpec.upto polyComposesSpec)

/-- 'cincturelaw8.PolyAdds', WHERE WHAT IT READS IS OF BULK AT MOST 1048576: true; the input reads as it did. -/
def polyAddsUptoRow : OpenClaim := { program := "ytbingbjhgoanoaagreat", sum := "9a57924585db5cefd1eb4c03a571f011321ea54085db1dea624d0435e3f3351e", func := "cincture/cincturelaw8.PolyAdds", spec := "polyAdds", inPlace := ["internal/bytealg.IndexByteString", "internal/bytealg.IndexString"], unfollowed := true, recurses := true, named := ["internal/bytealg.MaxLen"], plainKeys := false, apart := false, narrowed := true }
def PolyAddsUptoSaid : Prop := polyAddsUptoRow.holds Tryz.pinned (OpenSpec.upto polyAddsSpec)

/-- 'cincturelaw8.PolyRings', WHERE WHAT IT READS IS OF BULK AT MOST 1048576: true; the input reads as it did. -/
def polyRingsUptoRow : OpenClaim := { program := "ytbingbjhgoanoaagreat", sum := "9a57924585db5cefd1eb4c03a571f011321ea54085db1dea624d0435e3f3351e", func := "cincture/cincturelaw8.PolyRings", spec := "polyRings", inPlace := ["internal/bytealg.IndexByteString", "internal/bytealg.IndexString"], unfollowed := true, recurses := true, named := ["internal/bytealg.MaxLen"], plainKeys := false, apart := false, narrowed := true }
def PolyRingsUptoSaid : Prop := polyRingsUptoRow.holds Tryz.pinned (OpenSpec.upto polyRingsSpec)

/-- 'cincturelaw8.PolyAts', WHERE WHAT IT READS IS OF BULK AT MOST 1048576: true; the input reads as it did. -/
def polyAtsUptoRow : OpenClaim := { program := "ytbingbjhgoanoaagreat", sum := "9a57924585db5cefd1eb4c03a571f011321ea54085db1dea624d0435e3f3351e", func := "cincture/cincturelaw8.PolyAts", spec := "polyAts", inPlace := ["internal/bytealg.IndexByteString", "internal/bytealg.IndexString"], unfollowed := true, recurses := true, named := ["internal/bytealg.MaxLen"], plainKeys := false, apart := false, narrowed := true }
def PolyAtsUptoSaid : Prop := polyAtsUptoRow.holds Tryz.pinned (OpenSpec.upto polyAtsSpec)

/-- 'cincturelaw8.PolyDegrees', WHERE WHAT IT READS IS OF BULK AT MOST 1048576: true; the input reads as it did. -/
def polyDegreesUptoRow : OpenClaim := { program := "ytbingbjhgoanoaagreat", sum := "9a57924585db5cefd1eb4c03a571f011321ea54085db1dea624d0435e3f3351e", func := "cincture/cincturelaw8.PolyDegrees", spec := "polyDegrees", inPlace := ["internal/bytealg.IndexByteString", "internal/bytealg.IndexString"], unfollowed := true, recurses := true, named := ["internal/bytealg.MaxLen"], plainKeys := false, apart := false, narrowed := true }
def PolyDegreesUptoSaid : Prop := polyDegreesUptoRow.holds Tryz.pinned (OpenSpec.upto polyDegreesSpec)

/-- 'cincturelaw8.PolyLeibniz', WHERE WHAT IT READS IS OF BULK AT MOST 1048576: true; the input reads as it did. -/
def polyLeibnizUptoRow : OpenClaim := { program := "ytbingbjhgoanoaagreat", sum := "9a57924585db5cefd1eb4c03a571f011321ea54085db1dea624d0435e3f3351e", func := "cincture/cincturelaw8.PolyLeibniz", spec := "polyLeibniz", inPlace := ["internal/bytealg.IndexByteString", "internal/bytealg.IndexString"], unfollowed := true, recurses := true, named := ["internal/bytealg.MaxLen"], plainKeys := false, apart := false, narrowed := true }
def PolyLeibnizUptoSaid : Prop := polyLeibnizUptoRow.holds Tryz.pinned (OpenSpec.upto polyLeibnizSpec)

/-- 'cincturelaw8.PolyTells', WHERE WHAT IT READS IS OF BULK AT MOST 1048576: true; the input reads as it did. -/
def polyTellsUptoRow : OpenClaim := { program := "ytbingbjhgoanoaagreat", sum := "9a57924585db5cefd1eb4c03a571f011321ea54085db1dea624d0435e3f3351e", func := "cincture/cincturelaw8.PolyTells", spec := "polyTells", inPlace := ["internal/bytealg.IndexByteString", "internal/bytealg.IndexString"], unfollowed := true, recurses := true, named := ["internal/bytealg.MaxLen"], plainKeys := false, apart := false, narrowed := true }
def PolyTellsUptoSaid : Prop := polyTellsUptoRow.holds Tryz.pinned (OpenSpec.upto polyTellsSpec)

/-- 'cincturelaw8.PolyValues', WHERE WHAT IT READS IS OF BULK AT MOST 1048576: true; the input reads as it did. -/
def polyValuesUptoRow : OpenClaim := { program := "ytbingbjhgoanoaagreat", sum := "9a57924585db5cefd1eb4c03a571f011321ea54085db1dea624d0435e3f3351e", func := "cincture/cincturelaw8.PolyValues", spec := "polyValues", inPlace := ["internal/bytealg.IndexByteString", "internal/bytealg.IndexString"], unfollowed := true, recurses := true, named := ["internal/bytealg.MaxLen"], plainKeys := false, apart := false, narrowed := true }
def PolyValuesUptoSaid : Prop := polyValuesUptoRow.holds Tryz.pinned (OpenSpec.upto polyValuesSpec)

end Rows
end Go.Proofs.YtbingbjhgoanoaaGreat
