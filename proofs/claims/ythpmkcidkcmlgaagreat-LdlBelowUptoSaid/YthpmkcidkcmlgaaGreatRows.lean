/-
  No cell of these rows narrows 'for every input' (looked for: loops, veiled, ifaces, maps, wideKeys, modest, calm, conditions, laid).
  DERIVED. THE GIVEN ROWS OF THIS SEAT. 9 by the template 'for every input the law returns true; each argument reads behind the call as it read before'; 0 by the template 'total and deterministic' (their statements: YthpmkcidkcmlgaaGreatTotals.lean).
  GIVEN WITH THE SEED: the statements are not yours to turn. If you find one false, say at which input.
  Laid BY PROGRAM, IN A SANDBOX (cutbox-rows.mjs): the forced cells as the released guide's own fill.sh prints them over the translation 6af6ba4de6be9aa3… (all of the seat's roots in one cut). By AI agents, Wed Nov 11 2026. No macro, syntax, notation, axiom, sorry.
-/
import Derived.Test.YthpmkcidkcmlgaaGreatChecked
import GoSem.Claim
import GoSem.ClaimJoined
import GoSem.ClaimMapViews
import Derived.JoinedTies
import Derived.KernelRfl
namespace Go.Proofs.YthpmkcidkcmlgaaGreat
/- THE CELL 'sum', in the pinned program and in every row, IS THE sha256 OF THE DUMP (.gsa) THAT YthpmkcidkcmlgaaGreatProg.lean LOADS. Nothing in Lean hashes anything: it is a label: what it is worth is what the hold of that sum in a sandbox is worth. -/
noncomputable def Tryz.pinned : Pinned := { name := "ythpmkcidkcmlgaagreat", sum := "6af6ba4de6be9aa3a49412c067b43b7aded4a9db438199e80301fd4be8cfb253", checked := Tryz.checked }
namespace Rows
def none {H : Type} : Left H := { results := [], args := [] }

/-- 'cincturelaw13.GramMatrices': WHATEVER THE INPUT: true; the input reads as it did. -/
def gramMatricesSpec : ChangeSpec := { name := "gramMatrices", fn := fun _ => fun
  | [d1, d2] => { results := [.lit (.bool true)], args := [d1, d2] }
  | _ => none }
def gramMatricesRow : OpenClaim := { program := "ythpmkcidkcmlgaagreat", sum := "6af6ba4de6be9aa3a49412c067b43b7aded4a9db438199e80301fd4be8cfb253", func := "cincture/cincturelaw13.GramMatrices", spec := "gramMatrices", inPlace := ["internal/bytealg.IndexByteString", "internal/bytealg.IndexString"], unfollowed := true, recurses := true, named := ["internal/bytealg.MaxLen"], plainKeys := false, apart := false }
def GramMatricesSaid : Prop := gramMatricesRow.holds Tryz.pinned (OpenSpec.ofChange gramMatricesSpec)

/-- ITS FALSE NEIGHBOUR: 'it returns false'. Refute it at one input. -/
def gramMatricesWrong : ChangeSpec := { name := "gramMatrices", fn := fun _ => fun
  | [d1, d2] => { results := [.lit (.bool false)], args := [d1, d2] }
  | _ => none }
def GramMatricesWrongFalsely : Prop := gramMatricesRow.holds Tryz.pinned (OpenSpec.ofChange gramMatricesWrong)

/-- 'cincturelaw13.GramSums': WHATEVER THE INPUT: true; the input reads as it did. -/
def gramSumsSpec : ChangeSpec := { name := "gramSums", fn := fun _ => fun
  | [d1, d2] => { results := [.lit (.bool true)], args := [d1, d2] }
  | _ => none }
def gramSumsRow : OpenClaim := { program := "ythpmkcidkcmlgaagreat", sum := "6af6ba4de6be9aa3a49412c067b43b7aded4a9db438199e80301fd4be8cfb253", func := "cincture/cincturelaw13.GramSums", spec := "gramSums", inPlace := ["internal/bytealg.IndexByteString", "internal/bytealg.IndexString"], unfollowed := true, recurses := true, named := ["internal/bytealg.MaxLen"], plainKeys := false, apart := false }
def GramSumsSaid : Prop := gramSumsRow.holds Tryz.pinned (OpenSpec.ofChange gramSumsSpec)

/-- ITS FALSE NEIGHBOUR: 'it returns false'. Refute it at one input. -/
def gramSumsWrong : ChangeSpec := { name := "gramSums", fn := fun _ => fun
  | [d1, d2] => { results := [.lit (.bool false)], args := [d1, d2] }
  | _ => none }
def GramSumsWrongFalsely : Prop := gramSumsRow.holds Tryz.pinned (OpenSpec.ofChange gramSumsWrong)

/-- 'cincturelaw14.LdlSquares': WHATEVER THE INPUT: true; the input reads as it did. -/
def ldlSquaresSpec : ChangeSpec := { name := "ldlSquares", fn := fun _ => fun
  | [d1, d2] => { results := [.lit (.bool true)], args := [d1, d2] }
  | _ => none }
def ldlSquaresRow : OpenClaim := { program := "ythpmkcidkcmlgaagreat", sum := "6af6ba4de6be9aa3a49412c067b43b7aded4a9db438199e80301fd4be8cfb253", func := "cincture/cincturelaw14.LdlSquares", spec := "ldlSquares", inPlace := ["internal/bytealg.IndexByteString", "internal/bytealg.IndexString"], unfollowed := true, recurses := true, named := ["internal/bytealg.MaxLen"], plainKeys := false, apart := false }
def LdlSquaresSaid : Prop := ldlSquaresRow.holds Tryz.pinned (OpenSpec.ofChange ldlSquaresSpec)

/-- ITS FALSE NEIGHBOUR: 'it returns false'. Refute it at one input. -/
def ldlSquaresWrong : ChangeSpec := { name := "ldlSquares", fn := fun _ => fun
  | [d1, d2] => { results := [.lit (.bool false)], args := [d1, d2] }
  | _ => none }
def LdlSquaresWrongFalsely : Prop := ldlSquaresRow.holds Tryz.pinned (OpenSpec.ofChange ldlSquaresWrong)

/-- 'cincturelaw14.LdlBelow': WHATEVER THE INPUT: true; the input reads as it did. -/
def ldlBelowSpec : ChangeSpec := { name := "ldlBelow", fn := fun _ => fun
  | [d] => { results := [.lit (.bool true)], args := [d] }
  | _ => none }
def ldlBelowRow : OpenClaim := { program := "ythpmkcidkcmlgaagreat", sum := "6af6ba4de6be9aa3a49412c067b43b7aded4a9db438199e80301fd4be8cfb253", func := "cincture/cincturelaw14.LdlBelow", spec := "ldlBelow", inPlace := ["internal/bytealg.IndexByteString", "internal/bytealg.IndexString"], unfollowed := true, recurses := true, named := ["internal/bytealg.MaxLen"], plainKeys := false, apart := false }
def LdlBelowSaid : Prop := ldlBelowRow.holds Tryz.pinned (OpenSpec.ofChange ldlBelowSpec)

/-- ITS FALSE NEIGHBOUR: 'it returns false'. Refute it at one input. -/
def ldlBelowWrong : ChangeSpec := { name := "ldlBelow", fn := fun _ => fun
  | [d] => { results := [.lit (.bool false)], args := [d] }
  | _ => none }
def LdlBelowWrongFalsely : Prop := ldlBelowRow.holds Tryz.pinned (OpenSpec.ofChange ldlBelowWrong)

/-- 'cincturelaw15.TmodTimes': WHATEVER THE INPUT: true; the input reads as it did. -/
def tmodTimesSpec : ChangeSpec := { name := "tmodTimes", fn := fun _ => fun
  | [d1, d2, d3, d4] => { results := [.lit (.bool true)], args := [d1, d2, d3, d4] }
  | _ => none }
def tmodTimesRow : OpenClaim := { program := "ythpmkcidkcmlgaagreat", sum := "6af6ba4de6be9aa3a49412c067b43b7aded4a9db438199e80301fd4be8cfb253", func := "cincture/cincturelaw15.TmodTimes", spec := "tmodTimes", inPlace := ["internal/bytealg.IndexByteString", "internal/bytealg.IndexString"], unfollowed := true, recurses := true, named := ["internal/bytealg.MaxLen"], plainKeys := false, apart := false }
def TmodTimesSaid : Prop := tmodTimesRow.holds Tryz.pinned (OpenSpec.ofChange tmodTimesSpec)

/-- ITS FALSE NEIGHBOUR: 'it returns false'. Refute it at one input. -/
def tmodTimesWrong : ChangeSpec := { name := "tmodTimes", fn := fun _ => fun
  | [d1, d2, d3, d4] => { results := [.lit (.bool false)], args := [d1, d2, d3, d4] }
  | _ => none }
def TmodTimesWrongFalsely : Prop := tmodTimesRow.holds Tryz.pinned (OpenSpec.ofChange tmodTimesWrong)

/-- 'cincturelaw15.TmodTells': WHATEVER THE INPUT: true; the input reads as it did. -/
def tmodTellsSpec : ChangeSpec := { name := "tmodTells", fn := fun _ => fun
  | [d1, d2, d3, d4, d5] => { results := [.lit (.bool true)], args := [d1, d2, d3, d4, d5] }
  | _ => none }
def tmodTellsRow : OpenClaim := { program := "ythpmkcidkcmlgaagreat", sum := "6af6ba4de6be9aa3a49412c067b43b7aded4a9db438199e80301fd4be8cfb253", func := "cincture/cincturelaw15.TmodTells", spec := "tmodTells", inPlace := ["internal/bytealg.IndexByteString", "internal/bytealg.IndexString"], unfollowed := true, recurses := true, named := ["internal/bytealg.MaxLen"], plainKeys := false, apart := false }
def TmodTellsSaid : Prop := tmodTellsRow.holds Tryz.pinned (OpenSpec.ofChange tmodTellsSpec)

/-- ITS FALSE NEIGHBOUR: 'it returns false'. Refute it at one input. -/
def tmodTellsWrong : ChangeSpec := { name := "tmodTells", fn := fun _ => fun
  | [d1, d2, d3, d4, d5] => { results := [.lit (.bool false)], args := [d1, d2, d3, d4, d5] }
  | _ => none }
def TmodTellsWrongFalsely : Prop := tmodTellsRow.holds Tryz.pinned (OpenSpec.ofChange tmodTellsWrong)

/-- 'cincturelaw15.TmodComposes': WHATEVER THE INPUT: true; the input reads as it did. -/
def tmodComposesSpec : ChangeSpec := { name := "tmodComposes", fn := fun _ => fun
  | [d1, d2, d3, d4, d5, d6] => { results := [.lit (.bool true)], args := [d1, d2, d3, d4, d5, d6] }
  | _ => none }
def tmodComposesRow : OpenClaim := { program := "ythpmkcidkcmlgaagreat", sum := "6af6ba4de6be9aa3a49412c067b43b7aded4a9db438199e80301fd4be8cfb253", func := "cincture/cincturelaw15.TmodComposes", spec := "tmodComposes", inPlace := ["internal/bytealg.IndexByteString", "internal/bytealg.IndexString"], unfollowed := true, recurses := true, named := ["internal/bytealg.MaxLen"], plainKeys := false, apart := false }
def TmodComposesSaid : Prop := tmodComposesRow.holds Tryz.pinned (OpenSpec.ofChange tmodComposesSpec)

/-- ITS FALSE NEIGHBOUR: 'it returns false'. Refute it at one input. -/
def tmodComposesWrong : ChangeSpec := { name := "tmodComposes", fn := fun _ => fun
  | [d1, d2, d3, d4, d5, d6] => { results := [.lit (.bool false)], args := [d1, d2, d3, d4, d5, d6] }
  | _ => none }
def TmodComposesWrongFalsely : Prop := tmodComposesRow.holds Tryz.pinned (OpenSpec.ofChange tmodComposesWrong)

/-- 'cincturelaw15.TmodHas': WHATEVER THE INPUT: true; the input reads as it did. -/
def tmodHasSpec : ChangeSpec := { name := "tmodHas", fn := fun _ => fun
  | [d1, d2, d3, d4, d5, d6, d7] => { results := [.lit (.bool true)], args := [d1, d2, d3, d4, d5, d6, d7] }
  | _ => none }
def tmodHasRow : OpenClaim := { program := "ythpmkcidkcmlgaagreat", sum := "6af6ba4de6be9aa3a49412c067b43b7aded4a9db438199e80301fd4be8cfb253", func := "cincture/cincturelaw15.TmodHas", spec := "tmodHas", inPlace := ["internal/bytealg.IndexByteString", "internal/bytealg.IndexString"], unfollowed := true, recurses := true, named := ["internal/bytealg.MaxLen"], plainKeys := false, apart := false }
def TmodHasSaid : Prop := tmodHasRow.holds Tryz.pinned (OpenSpec.ofChange tmodHasSpec)

/-- ITS FALSE NEIGHBOUR: 'it returns false'. Refute it at one input. -/
def tmodHasWrong : ChangeSpec := { name := "tmodHas", fn := fun _ => fun
  | [d1, d2, d3, d4, d5, d6, d7] => { results := [.lit (.bool false)], args := [d1, d2, d3, d4, d5, d6, d7] }
  | _ => none }
def TmodHasWrongFalsely : Prop := tmodHasRow.holds Tryz.pinned (OpenSpec.ofChange tmodHasWrong)

/-- 'cincturelaw15.TmodExact': WHATEVER THE INPUT: true; the input reads as it did. -/
def tmodExactSpec : ChangeSpec := { name := "tmodExact", fn := fun _ => fun
  | [d1, d2, d3, d4] => { results := [.lit (.bool true)], args := [d1, d2, d3, d4] }
  | _ => none }
def tmodExactRow : OpenClaim := { program := "ythpmkcidkcmlgaagreat", sum := "6af6ba4de6be9aa3a49412c067b43b7aded4a9db438199e80301fd4be8cfb253", func := "cincture/cincturelaw15.TmodExact", spec := "tmodExact", inPlace := ["internal/bytealg.IndexByteString", "internal/bytealg.IndexString"], unfollowed := true, recurses := true, named := ["internal/bytealg.MaxLen"], plainKeys := false, apart := false }
def TmodExactSaid : Prop := tmodExactRow.holds Tryz.pinned (OpenSpec.ofChange tmodExactSpec)

/-- ITS FALSE NEIGHBOUR: 'it returns false'. Refute it at one input. -/
def tmodExactWrong : ChangeSpec := { name := "tmodExact", fn := fun _ => fun
  | [d1, d2, d3, d4] => { results := [.lit (.bool false)], args := [d1, d2, d3, d4] }
  | _ => none }
def TmodExactWrongFalsely : Prop := tmodExactRow.holds Tryz.pinned (OpenSpec.ofChange tmodExactWrong)

/- THE SECOND FORM. 'bulk': how many values and letters a reading holds, each counted each time it is reached (what is shared counts as often as it is met; a slice's spare places count too). A statement '..UptoSaid' is the law's where the arguments, and the package variables that the reading takes, are together of bulk at most 1048576: NARROWER than '..Said'. Prove '..Said' where nothing that the law and all that it calls make is longer than what came in: it says more and counts as full. Else prove '..UptoSaid'. A law counts once. -/
mutual
def uptoBulk {H : Type} : DataW H → Nat
  | .lit (.string bytes) => bytes.length + 1
  | .lit _ => 1
  | .nil => 1
  | .ptr d => uptoBulk d + 1
  | .slice elems spare => uptoBulkAll elems + uptoBulkAll spare + 1
  | .agg parts => uptoBulkAll parts + 1
  | .iface _ d => uptoBulk d + 1
  | .map entries => uptoBulkEntries entries + 1
  | .held _ => 1
def uptoBulkAll {H : Type} : List (DataW H) → Nat
  | [] => 0
  | d :: r => uptoBulk d + uptoBulkAll r
def uptoBulkEntries {H : Type} : List (Lit × DataW H) → Nat
  | [] => 0
  | x :: r => uptoBulkEntry x + uptoBulkEntries r
def uptoBulkEntry {H : Type} : Lit × DataW H → Nat
  | (.string bytes, d) => bytes.length + uptoBulk d + 1
  | (_, d) => uptoBulk d + 1
 end
def uptoSmall : (H : Type) → List (DataW H) → Bool := fun _ ds => decide (uptoBulkAll ds ≤ 1048576)
def OpenSpec.upto (s : _root_.Go.ChangeSpec) : _root_.Go.OpenSpec := { _root_.Go.OpenSpec.ofChange s with cond := some uptoSmall }

/-- 'cincturelaw13.GramMatrices', WHERE WHAT IT READS IS OF BULK AT MOST 1048576: true; the input reads as it did. -/
def gramMatricesUptoRow : OpenClaim := { program := "ythpmkcidkcmlgaagreat", sum := "6af6ba4de6be9aa3a49412c067b43b7aded4a9db438199e80301fd4be8cfb253", func := "cincture/cincturelaw13.GramMatrices", spec := "gramMatrices", inPlace := ["internal/bytealg.IndexByteString", "internal/bytealg.IndexString"], unfollowed := true, recurses := true, named := ["internal/bytealg.MaxLen"], plainKeys := false, apart := false, narrowed := true }
def GramMatricesUptoSaid : Prop := gramMatricesUptoRow.holds Tryz.pinned (OpenSpec.upto gramMatricesSpec)

/-- 'cincturelaw13.GramSums', WHERE WHAT IT READS IS OF BULK AT MOST 1048576: true; the input reads as it did. -/
def gramSumsUptoRow : OpenClaim := { program := "ythpmkcidkcmlgaagreat", sum := "6af6ba4de6be9aa3a49412c067b43b7aded4a9db438199e80301fd4be8cfb253", func := "cincture/cincturelaw13.GramSums", spec := "gramSums", inPlace := ["internal/bytealg.IndexByteString", "internal/bytealg.IndexString"], unfollowed := true, recurses := true, named := ["internal/bytealg.MaxLen"], plainKeys := false, apart := false, narrowed := true }
def GramSumsUptoSaid : Prop := gramSumsUptoRow.holds Tryz.pinned (OpenSpec.upto gramSumsSpec)

/-- 'cincturelaw14.LdlSquares', WHERE WHAT IT READS IS OF BULK AT MOST 1048576: true; the input reads as it did. -/
def ldlSquaresUptoRow : OpenClaim := { program := "ythpmkcidkcmlgaagreat", sum := "6af6ba4de6be9aa3a49412c067b43b7aded4a9db438199e80301fd4be8cfb253", func := "cincture/cincturelaw14.LdlSquares", spec := "ldlSquares", inPlace := ["internal/bytealg.IndexByteString", "internal/bytealg.IndexString"], unfollowed := true, recurses := true, named := ["internal/bytealg.MaxLen"], plainKeys := false, apart := false, narrowed := true }
def LdlSquaresUptoSaid : Prop := ldlSquaresUptoRow.holds Tryz.pinned (OpenSpec.upto ldlSquaresSpec)

/-- 'cincturelaw14.LdlBelow', WHERE WHAT IT READS IS OF BULK AT MOST 1048576: true; the input reads as it did. -/
def ldlBelowUptoRow : OpenClaim := { program := "ythpmkcidkcmlgaagreat", sum := "6af6ba4de6be9aa3a49412c067b43b7aded4a9db438199e80301fd4be8cfb253", func := "cincture/cincturelaw14.LdlBelow", spec := "ldlBelow", inPlace := ["internal/bytealg.IndexByteString", "internal/bytealg.IndexString"], unfollowed := true, recurses := true, named := ["internal/bytealg.MaxLen"], plainKeys := false, apart := false, narrowed := true }
def LdlBelowUptoSaid : Prop := ldlBelowUptoRow.holds Tryz.pinned (OpenSpec.upto ldlBelowSpec)

/-- 'cincturelaw15.TmodTimes', WHERE WHAT IT READS IS OF BULK AT MOST 1048576: true; the input reads as it did. -/
def tmodTimesUptoRow : OpenClaim := { program := "ythpmkcidkcmlgaagreat", sum := "6af6ba4de6be9aa3a49412c067b43b7aded4a9db438199e80301fd4be8cfb253", func := "cincture/cincturelaw15.TmodTimes", spec := "tmodTimes", inPlace := ["internal/bytealg.IndexByteString", "internal/bytealg.IndexString"], unfollowed := true, recurses := true, named := ["internal/bytealg.MaxLen"], plainKeys := false, apart := false, narrowed := true }
def TmodTimesUptoSaid : Prop := tmodTimesUptoRow.holds Tryz.pinned (OpenSpec.upto tmodTimesSpec)

/-- 'cincturelaw15.TmodTells', WHERE WHAT IT READS IS OF BULK AT MOST 1048576: true; the input reads as it did. -/
def tmodTellsUptoRow : OpenClaim := { program := "ythpmkcidkcmlgaagreat", sum := "6af6ba4de6be9aa3a49412c067b43b7aded4a9db438199e80301fd4be8cfb253", func := "cincture/cincturelaw15.TmodTells", spec := "tmodTells", inPlace := ["internal/bytealg.IndexByteString", "internal/bytealg.IndexString"], unfollowed := true, recurses := true, named := ["internal/bytealg.MaxLen"], plainKeys := false, apart := false, narrowed := true }
def TmodTellsUptoSaid : Prop := tmodTellsUptoRow.holds Tryz.pinned (OpenSpec.upto tmodTellsSpec)

/-- 'cincturelaw15.TmodComposes', WHERE WHAT IT READS IS OF BULK AT MOST 1048576: true; the input reads as it did. -/
def tmodComposesUptoRow : OpenClaim := { program := "ythpmkcidkcmlgaagreat", sum := "6af6ba4de6be9aa3a49412c067b43b7aded4a9db438199e80301fd4be8cfb253", func := "cincture/cincturelaw15.TmodComposes", spec := "tmodComposes", inPlace := ["internal/bytealg.IndexByteString", "internal/bytealg.IndexString"], unfollowed := true, recurses := true, named := ["internal/bytealg.MaxLen"], plainKeys := false, apart := false, narrowed := true }
def TmodComposesUptoSaid : Prop := tmodComposesUptoRow.holds Tryz.pinned (OpenSpec.upto tmodComposesSpec)

/-- 'cincturelaw15.TmodHas', WHERE WHAT IT READS IS OF BULK AT MOST 1048576: true; the input reads as it did. -/
def tmodHasUptoRow : OpenClaim := { program := "ythpmkcidkcmlgaagreat", sum := "6af6ba4de6be9aa3a49412c067b43b7aded4a9db438199e80301fd4be8cfb253", func := "cincture/cincturelaw15.TmodHas", spec := "tmodHas", inPlace := ["internal/bytealg.IndexByteString", "internal/bytealg.IndexString"], unfollowed := true, recurses := true, named := ["internal/bytealg.MaxLen"], plainKeys := false, apart := false, narrowed := true }
def TmodHasUptoSaid : Prop := tmodHasUptoRow.holds Tryz.pinned (OpenSpec.upto tmodHasSpec)

/-- 'cincturelaw15.TmodExact', WHERE WHAT IT READS IS OF BULK AT MOST 1048576: true; the input reads as it did. -/
def tmodExactUptoRow : OpenClaim := { program := "ythpmkcidkcmlgaagreat", sum := "6af6ba4de6be9aa3a49412c067b43b7aded4a9db438199e80301fd4be8cfb253", func := "cincture/cincturelaw15.TmodExact", spec := "tmodExact", inPlace := ["internal/bytealg.IndexByteString", "internal/bytealg.IndexString"], unfollowed := true, recurses := true, named := ["internal/bytealg.MaxLen"], plainKeys := false, apart := false, narrowed := true }
def TmodExactUptoSaid : Prop := tmodExactUptoRow.holds Tryz.pinned (OpenSpec.upto tmodExactSpec)

end Rows
end Go.Proofs.YthpmkcidkcmlgaaGreat
