/-
  NARROWER THAN 'FOR EVERY INPUT', by the rows' own cells (each row's printed sentence says how): KrawInside: laid · KrawJacobi: laid · KrawOne: laid · KrawZeros: laid · KrawLinear: laid · KrawTells: laid.
  DERIVED. THE GIVEN ROWS OF THIS SEAT. 6 by the template 'for every input the law returns true; each argument reads behind the call as it read before'; 0 by the template 'total and deterministic' (their statements: YtkgeopnakkcdoaaGreatDoorTotals.lean).
  GIVEN WITH THE SEED: the statements are not yours to turn. If you find one false, say at which input.
  Laid BY PROGRAM, IN A SANDBOX (cutbox-rows.mjs): the forced cells as the released guide's own fill.sh prints them over the translation 686a49fbdccbd9b9… (all of the seat's roots in one cut). By AI agents, Wed Nov 11 2026. No macro, syntax, notation, axiom, sorry.
-/
import Derived.Test.YtkgeopnakkcdoaaGreatDoorChecked
import GoSem.Claim
import GoSem.ClaimJoined
import GoSem.ClaimMapViews
import Derived.JoinedTies
import Derived.KernelRfl
namespace Go.Proofs.YtkgeopnakkcdoaaGreatDoor
/- THE CELL 'sum', in the pinned program and in every row, IS THE sha256 OF THE DUMP (.gsa) THAT YtkgeopnakkcdoaaGreatDoorProg.lean LOADS. Nothing in Lean hashes anything: it is a label: what it is worth is what the hold of that sum in a sandbox is worth. -/
noncomputable def Tryz.pinned : Pinned := { name := "ytkgeopnakkcdoaagreatdoor", sum := "686a49fbdccbd9b95812dff625bee737f4715575f89f2a90dd0f967cda49a5b1", checked := Tryz.checked }
namespace Rows
def none {H : Type} : Left H := { results := [], args := [] }

/- WHAT THE LISTED PACKAGE-LEVEL VARIABLES READ AS WHEN THE CALL BEGINS. Each datum BY PROGRAM (the guide's laid-datum.mjs) off the statement by which the dump's own 'gosem.cut.vars' lays the variable. In a bare row this is a premise. The card (YtkgeopnakkcdoaaGreatDoorCards.lean) ties it to the program's text. -/
def laid_math_bits_deBruijn32tab {H : Type} : DataW H := .agg [.lit (.int .u8 0), .lit (.int .u8 1), .lit (.int .u8 28), .lit (.int .u8 2), .lit (.int .u8 29), .lit (.int .u8 14), .lit (.int .u8 24), .lit (.int .u8 3), .lit (.int .u8 30), .lit (.int .u8 22), .lit (.int .u8 20), .lit (.int .u8 15), .lit (.int .u8 25), .lit (.int .u8 17), .lit (.int .u8 4), .lit (.int .u8 8), .lit (.int .u8 31), .lit (.int .u8 27), .lit (.int .u8 13), .lit (.int .u8 23), .lit (.int .u8 21), .lit (.int .u8 19), .lit (.int .u8 16), .lit (.int .u8 7), .lit (.int .u8 26), .lit (.int .u8 12), .lit (.int .u8 18), .lit (.int .u8 6), .lit (.int .u8 11), .lit (.int .u8 5), .lit (.int .u8 10), .lit (.int .u8 9)]

/-- 'cincturelaw12.KrawInside': WHATEVER THE INPUT: true; the input reads as it did. -/
def krawInsideSpec : ChangeSpec := { name := "krawInside", fn := fun _ => fun
  | [d1, d2, d3] => { results := [.lit (.bool true)], args := [d1, d2, d3] }
  | _ => none }
def krawInsideRow : OpenClaim := { program := "ytkgeopnakkcdoaagreatdoor", sum := "686a49fbdccbd9b95812dff625bee737f4715575f89f2a90dd0f967cda49a5b1", func := "cincture/cincturelaw12.KrawInside", spec := "krawInside", inPlace := ["internal/bytealg.IndexByteString", "internal/bytealg.IndexString"], unfollowed := true, recurses := true, named := ["internal/bytealg.MaxLen", "math/bits.deBruijn32tab"], plainKeys := false, apart := false, laid := [("math/bits.deBruijn32tab", laid_math_bits_deBruijn32tab)] }
def KrawInsideSaid : Prop := krawInsideRow.holds Tryz.pinned (OpenSpec.ofChange krawInsideSpec)

/-- ITS FALSE NEIGHBOUR: 'it returns false'. Refute it at one input. -/
def krawInsideWrong : ChangeSpec := { name := "krawInside", fn := fun _ => fun
  | [d1, d2, d3] => { results := [.lit (.bool false)], args := [d1, d2, d3] }
  | _ => none }
def KrawInsideWrongFalsely : Prop := krawInsideRow.holds Tryz.pinned (OpenSpec.ofChange krawInsideWrong)

/-- 'cincturelaw12.KrawJacobi': WHATEVER THE INPUT: true; the input reads as it did. -/
def krawJacobiSpec : ChangeSpec := { name := "krawJacobi", fn := fun _ => fun
  | [d] => { results := [.lit (.bool true)], args := [d] }
  | _ => none }
def krawJacobiRow : OpenClaim := { program := "ytkgeopnakkcdoaagreatdoor", sum := "686a49fbdccbd9b95812dff625bee737f4715575f89f2a90dd0f967cda49a5b1", func := "cincture/cincturelaw12.KrawJacobi", spec := "krawJacobi", inPlace := ["internal/bytealg.IndexByteString", "internal/bytealg.IndexString"], unfollowed := true, recurses := true, named := ["internal/bytealg.MaxLen", "math/bits.deBruijn32tab"], plainKeys := false, apart := false, laid := [("math/bits.deBruijn32tab", laid_math_bits_deBruijn32tab)] }
def KrawJacobiSaid : Prop := krawJacobiRow.holds Tryz.pinned (OpenSpec.ofChange krawJacobiSpec)

/-- ITS FALSE NEIGHBOUR: 'it returns false'. Refute it at one input. -/
def krawJacobiWrong : ChangeSpec := { name := "krawJacobi", fn := fun _ => fun
  | [d] => { results := [.lit (.bool false)], args := [d] }
  | _ => none }
def KrawJacobiWrongFalsely : Prop := krawJacobiRow.holds Tryz.pinned (OpenSpec.ofChange krawJacobiWrong)

/-- 'cincturelaw12.KrawOne': WHATEVER THE INPUT: true; the input reads as it did. -/
def krawOneSpec : ChangeSpec := { name := "krawOne", fn := fun _ => fun
  | [d1, d2, d3] => { results := [.lit (.bool true)], args := [d1, d2, d3] }
  | _ => none }
def krawOneRow : OpenClaim := { program := "ytkgeopnakkcdoaagreatdoor", sum := "686a49fbdccbd9b95812dff625bee737f4715575f89f2a90dd0f967cda49a5b1", func := "cincture/cincturelaw12.KrawOne", spec := "krawOne", inPlace := ["internal/bytealg.IndexByteString", "internal/bytealg.IndexString"], unfollowed := true, recurses := true, named := ["internal/bytealg.MaxLen", "math/bits.deBruijn32tab"], plainKeys := false, apart := false, laid := [("math/bits.deBruijn32tab", laid_math_bits_deBruijn32tab)] }
def KrawOneSaid : Prop := krawOneRow.holds Tryz.pinned (OpenSpec.ofChange krawOneSpec)

/-- ITS FALSE NEIGHBOUR: 'it returns false'. Refute it at one input. -/
def krawOneWrong : ChangeSpec := { name := "krawOne", fn := fun _ => fun
  | [d1, d2, d3] => { results := [.lit (.bool false)], args := [d1, d2, d3] }
  | _ => none }
def KrawOneWrongFalsely : Prop := krawOneRow.holds Tryz.pinned (OpenSpec.ofChange krawOneWrong)

/-- 'cincturelaw12.KrawZeros': WHATEVER THE INPUT: true; the input reads as it did. -/
def krawZerosSpec : ChangeSpec := { name := "krawZeros", fn := fun _ => fun
  | [d1, d2, d3, d4] => { results := [.lit (.bool true)], args := [d1, d2, d3, d4] }
  | _ => none }
def krawZerosRow : OpenClaim := { program := "ytkgeopnakkcdoaagreatdoor", sum := "686a49fbdccbd9b95812dff625bee737f4715575f89f2a90dd0f967cda49a5b1", func := "cincture/cincturelaw12.KrawZeros", spec := "krawZeros", inPlace := ["internal/bytealg.IndexByteString", "internal/bytealg.IndexString"], unfollowed := true, recurses := true, named := ["internal/bytealg.MaxLen", "math/bits.deBruijn32tab"], plainKeys := false, apart := false, laid := [("math/bits.deBruijn32tab", laid_math_bits_deBruijn32tab)] }
def KrawZerosSaid : Prop := krawZerosRow.holds Tryz.pinned (OpenSpec.ofChange krawZerosSpec)

/-- ITS FALSE NEIGHBOUR: 'it returns false'. Refute it at one input. -/
def krawZerosWrong : ChangeSpec := { name := "krawZeros", fn := fun _ => fun
  | [d1, d2, d3, d4] => { results := [.lit (.bool false)], args := [d1, d2, d3, d4] }
  | _ => none }
def KrawZerosWrongFalsely : Prop := krawZerosRow.holds Tryz.pinned (OpenSpec.ofChange krawZerosWrong)

/-- 'cincturelaw12.KrawLinear': WHATEVER THE INPUT: true; the input reads as it did. -/
def krawLinearSpec : ChangeSpec := { name := "krawLinear", fn := fun _ => fun
  | [d1, d2, d3] => { results := [.lit (.bool true)], args := [d1, d2, d3] }
  | _ => none }
def krawLinearRow : OpenClaim := { program := "ytkgeopnakkcdoaagreatdoor", sum := "686a49fbdccbd9b95812dff625bee737f4715575f89f2a90dd0f967cda49a5b1", func := "cincture/cincturelaw12.KrawLinear", spec := "krawLinear", inPlace := ["internal/bytealg.IndexByteString", "internal/bytealg.IndexString"], unfollowed := true, recurses := true, named := ["internal/bytealg.MaxLen", "math/bits.deBruijn32tab"], plainKeys := false, apart := false, laid := [("math/bits.deBruijn32tab", laid_math_bits_deBruijn32tab)] }
def KrawLinearSaid : Prop := krawLinearRow.holds Tryz.pinned (OpenSpec.ofChange krawLinearSpec)

/-- ITS FALSE NEIGHBOUR: 'it returns false'. Refute it at one input. -/
def krawLinearWrong : ChangeSpec := { name := "krawLinear", fn := fun _ => fun
  | [d1, d2, d3] => { results := [.lit (.bool false)], args := [d1, d2, d3] }
  | _ => none }
def KrawLinearWrongFalsely : Prop := krawLinearRow.holds Tryz.pinned (OpenSpec.ofChange krawLinearWrong)

/-- 'cincturelaw12.KrawTells': WHATEVER THE INPUT: true; the input reads as it did. -/
def krawTellsSpec : ChangeSpec := { name := "krawTells", fn := fun _ => fun
  | [d1, d2, d3] => { results := [.lit (.bool true)], args := [d1, d2, d3] }
  | _ => none }
def krawTellsRow : OpenClaim := { program := "ytkgeopnakkcdoaagreatdoor", sum := "686a49fbdccbd9b95812dff625bee737f4715575f89f2a90dd0f967cda49a5b1", func := "cincture/cincturelaw12.KrawTells", spec := "krawTells", inPlace := ["internal/bytealg.IndexByteString", "internal/bytealg.IndexString"], unfollowed := true, recurses := true, named := ["internal/bytealg.MaxLen", "math/bits.deBruijn32tab"], plainKeys := false, apart := false, laid := [("math/bits.deBruijn32tab", laid_math_bits_deBruijn32tab)] }
def KrawTellsSaid : Prop := krawTellsRow.holds Tryz.pinned (OpenSpec.ofChange krawTellsSpec)

/-- ITS FALSE NEIGHBOUR: 'it returns false'. Refute it at one input. -/
def krawTellsWrong : ChangeSpec := { name := "krawTells", fn := fun _ => fun
  | [d1, d2, d3] => { results := [.lit (.bool false)], args := [d1, d2, d3] }
  | _ => none }
def KrawTellsWrongFalsely : Prop := krawTellsRow.holds Tryz.pinned (OpenSpec.ofChange krawTellsWrong)

/- THE SECOND FORM. 'bulk': how many values and letters a reading holds, each counted each time it is reached (what is shared counts as often as it is met; a slice's spare places count too). A statement '..UptoSaid' is the law's where the arguments, and the package variables that the reading takes, are together of bulk at most 1048576: NARROWER than '..Said'. Prove '..Said' where nothing that the law and all that it calls make is longer than what came in: it says more and counts as full. Else prove '..UptoSaid'. A law counts once. -/
mutual
def uptoBulk {H : Type} : DataW H → Nat
  | .lit (.string bytes) => bytes.length + 1
  | .lit _ => 1
  | .nil => 1
  | .ptr d => uptoBulk d + 1
  | .slice elems spare => uptoBulkAll elems + uptoBulkAll spare + 1
  | .agg parts => uptoBulkAll parts + 1
  | .iface _ d => uptoBulk d + 1
  | .map entries => uptoBulkEntries entries + 1
  | .held _ => 1
def uptoBulkAll {H : Type} : List (DataW H) → Nat
  | [] => 0
  | d :: r => uptoBulk d + uptoBulkAll r
def uptoBulkEntries {H : Type} : List (Lit × DataW H) → Nat
  | [] => 0
  | x :: r => uptoBulkEntry x + uptoBulkEntries r
def uptoBulkEntry {H : Type} : Lit × DataW H → Nat
  | (.string bytes, d) => bytes.length + uptoBulk d + 1
  | (_, d) => uptoBulk d + 1
 end
def uptoSmall : (H : Type) → List (DataW H) → Bool := fun _ ds => decide (uptoBulkAll ds ≤ 1048576)
def OpenSpec.upto (s : _root_.Go.ChangeSpec) : _root_.Go.OpenSpec := { _root_.Go.OpenSpec.ofChange s with cond := some uptoSmall }

/-- 'cincturelaw12.KrawInside', WHERE WHAT IT READS IS OF BULK AT MOST 1048576: true; the input reads as it did. -/
def krawInsideUptoRow : OpenClaim := { program := "ytkgeopnakkcdoaagreatdoor", sum := "686a49fbdccbd9b95812dff625bee737f4715575f89f2a90dd0f967cda49a5b1", func := "cincture/cincturelaw12.KrawInside", spec := "krawInside", inPlace := ["internal/bytealg.IndexByteString", "internal/bytealg.IndexString"], unfollowed := true, recurses := true, named := ["internal/bytealg.MaxLen", "math/bits.deBruijn32tab"], plainKeys := false, apart := false, laid := [("math/bits.deBruijn32tab", laid_math_bits_deBruijn32tab)], narrowed := true }
def KrawInsideUptoSaid : Prop := krawInsideUptoRow.holds Tryz.pinned (OpenSpec.upto krawInsideSpec)

/-- 'cincturelaw12.KrawJacobi', WHERE WHAT IT READS IS OF BULK AT MOST 1048576: true; the input reads as it did. -/
def krawJacobiUptoRow : OpenClaim := { program := "ytkgeopnakkcdoaagreatdoor", sum := "686a49fbdccbd9b95812dff625bee737f4715575f89f2a90dd0f967cda49a5b1", func := "cincture/cincturelaw12.KrawJacobi", spec := "krawJacobi", inPlace := ["internal/bytealg.IndexByteString", "internal/bytealg.IndexString"], unfollowed := true, recurses := true, named := ["internal/bytealg.MaxLen", "math/bits.deBruijn32tab"], plainKeys := false, apart := false, laid := [("math/bits.deBruijn32tab", laid_math_bits_deBruijn32tab)], narrowed := true }
def KrawJacobiUptoSaid : Prop := krawJacobiUptoRow.holds Tryz.pinned (OpenSpec.upto krawJacobiSpec)

/-- 'cincturelaw12.KrawOne', WHERE WHAT IT READS IS OF BULK AT MOST 1048576: true; the input reads as it did. -/
def krawOneUptoRow : OpenClaim := { program := "ytkgeopnakkcdoaagreatdoor", sum := "686a49fbdccbd9b95812dff625bee737f4715575f89f2a90dd0f967cda49a5b1", func := "cincture/cincturelaw12.KrawOne", spec := "krawOne", inPlace := ["internal/bytealg.IndexByteString", "internal/bytealg.IndexString"], unfollowed := true, recurses := true, named := ["internal/bytealg.MaxLen", "math/bits.deBruijn32tab"], plainKeys := false, apart := false, laid := [("math/bits.deBruijn32tab", laid_math_bits_deBruijn32tab)], narrowed := true }
def KrawOneUptoSaid : Prop := krawOneUptoRow.holds Tryz.pinned (OpenSpec.upto krawOneSpec)

/-- 'cincturelaw12.KrawZeros', WHERE WHAT IT READS IS OF BULK AT MOST 1048576: true; the input reads as it did. -/
def krawZerosUptoRow : OpenClaim := { program := "ytkgeopnakkcdoaagreatdoor", sum := "686a49fbdccbd9b95812dff625bee737f4715575f89f2a90dd0f967cda49a5b1", func := "cincture/cincturelaw12.KrawZeros", spec := "krawZeros", inPlace := ["internal/bytealg.IndexByteString", "internal/bytealg.IndexString"], unfollowed := true, recurses := true, named := ["internal/bytealg.MaxLen", "math/bits.deBruijn32tab"], plainKeys := false, apart := false, laid := [("math/bits.deBruijn32tab", laid_math_bits_deBruijn32tab)], narrowed := true }
def KrawZerosUptoSaid : Prop := krawZerosUptoRow.holds Tryz.pinned (OpenSpec.upto krawZerosSpec)

/-- 'cincturelaw12.KrawLinear', WHERE WHAT IT READS IS OF BULK AT MOST 1048576: true; the input reads as it did. -/
def krawLinearUptoRow : OpenClaim := { program := "ytkgeopnakkcdoaagreatdoor", sum := "686a49fbdccbd9b95812dff625bee737f4715575f89f2a90dd0f967cda49a5b1", func := "cincture/cincturelaw12.KrawLinear", spec := "krawLinear", inPlace := ["internal/bytealg.IndexByteString", "internal/bytealg.IndexString"], unfollowed := true, recurses := true, named := ["internal/bytealg.MaxLen", "math/bits.deBruijn32tab"], plainKeys := false, apart := false, laid := [("math/bits.deBruijn32tab", laid_math_bits_deBruijn32tab)], narrowed := true }
def KrawLinearUptoSaid : Prop := krawLinearUptoRow.holds Tryz.pinned (OpenSpec.upto krawLinearSpec)

/-- 'cincturelaw12.KrawTells', WHERE WHAT IT READS IS OF BULK AT MOST 1048576: true; the input reads as it did. -/
def krawTellsUptoRow : OpenClaim := { program := "ytkgeopnakkcdoaagreatdoor", sum := "686a49fbdccbd9b95812dff625bee737f4715575f89f2a90dd0f967cda49a5b1", func := "cincture/cincturelaw12.KrawTells", spec := "krawTells", inPlace := ["internal/bytealg.IndexByteString", "internal/bytealg.IndexString"], unfollowed := true, recurses := true, named := ["internal/bytealg.MaxLen", "math/bits.deBruijn32tab"], plainKeys := false, apart := false, laid := [("math/bits.deBruijn32tab", laid_math_bits_deBruijn32tab)], narrowed := true }
def KrawTellsUptoSaid : Prop := krawTellsUptoRow.holds Tryz.pinned (OpenSpec.upto krawTellsSpec)

end Rows
end Go.Proofs.YtkgeopnakkcdoaaGreatDoor
