/-
  No cell of these rows narrows 'for every input' (looked for: loops, veiled, ifaces, maps, wideKeys, modest, calm, conditions, laid).
  DERIVED. THE GIVEN ROWS OF THIS SEAT. 6 by the template 'for every input the law returns true; each argument reads behind the call as it read before'; 0 by the template 'total and deterministic' (their statements: YtjgpenfndnhdnaaGreatTotals.lean).
  GIVEN WITH THE SEED: the statements are not yours to turn. If you find one false, say at which input.
  Laid BY PROGRAM, IN A SANDBOX (cutbox-rows.mjs): the forced cells as the released guide's own fill.sh prints them over the translation 7d905e087b2ba8c3… (all of the seat's roots in one cut). By AI agents, Wed Nov 11 2026. No macro, syntax, notation, axiom, sorry.
-/
import Derived.Test.YtjgpenfndnhdnaaGreatChecked
import GoSem.Claim
import GoSem.ClaimJoined
import GoSem.ClaimMapViews
import Derived.JoinedTies
import Derived.KernelRfl
namespace Go.Proofs.YtjgpenfndnhdnaaGreat
/- THE CELL 'sum', in the pinned program and in every row, IS THE sha256 OF THE DUMP (.gsa) THAT YtjgpenfndnhdnaaGreatProg.lean LOADS. Nothing in Lean hashes anything: it is a label: what it is worth is what the hold of that sum in a sandbox is worth. -/
noncomputable def Tryz.pinned : Pinned := { name := "ytjgpenfndnhdnaagreat", sum := "7d905e087b2ba8c34d8d17eaa888d30e01348adcac76086dcde573d6305b02cf", checked := Tryz.checked }
namespace Rows
def none {H : Type} : Left H := { results := [], args := [] }

/-- 'cincturelaw13.GramForms': WHATEVER THE INPUT: true; the input reads as it did. -/
def gramFormsSpec : ChangeSpec := { name := "gramForms", fn := fun _ => fun
  | [d1, d2] => { results := [.lit (.bool true)], args := [d1, d2] }
  | _ => none }
def gramFormsRow : OpenClaim := { program := "ytjgpenfndnhdnaagreat", sum := "7d905e087b2ba8c34d8d17eaa888d30e01348adcac76086dcde573d6305b02cf", func := "cincture/cincturelaw13.GramForms", spec := "gramForms", inPlace := ["internal/bytealg.IndexByteString", "internal/bytealg.IndexString"], unfollowed := true, recurses := true, named := ["internal/bytealg.MaxLen"], plainKeys := false, apart := false }
def GramFormsSaid : Prop := gramFormsRow.holds Tryz.pinned (OpenSpec.ofChange gramFormsSpec)

/-- ITS FALSE NEIGHBOUR: 'it returns false'. Refute it at one input. -/
def gramFormsWrong : ChangeSpec := { name := "gramForms", fn := fun _ => fun
  | [d1, d2] => { results := [.lit (.bool false)], args := [d1, d2] }
  | _ => none }
def GramFormsWrongFalsely : Prop := gramFormsRow.holds Tryz.pinned (OpenSpec.ofChange gramFormsWrong)

/-- 'cincturelaw13.GramMatrices': WHATEVER THE INPUT: true; the input reads as it did. -/
def gramMatricesSpec : ChangeSpec := { name := "gramMatrices", fn := fun _ => fun
  | [d1, d2] => { results := [.lit (.bool true)], args := [d1, d2] }
  | _ => none }
def gramMatricesRow : OpenClaim := { program := "ytjgpenfndnhdnaagreat", sum := "7d905e087b2ba8c34d8d17eaa888d30e01348adcac76086dcde573d6305b02cf", func := "cincture/cincturelaw13.GramMatrices", spec := "gramMatrices", inPlace := ["internal/bytealg.IndexByteString", "internal/bytealg.IndexString"], unfollowed := true, recurses := true, named := ["internal/bytealg.MaxLen"], plainKeys := false, apart := false }
def GramMatricesSaid : Prop := gramMatricesRow.holds Tryz.pinned (OpenSpec.ofChange gramMatricesSpec)

/-- ITS FALSE NEIGHBOUR: 'it returns false'. Refute it at one input. -/
def gramMatricesWrong : ChangeSpec := { name := "gramMatrices", fn := fun _ => fun
  | [d1, d2] => { results := [.lit (.bool false)], args := [d1, d2] }
  | _ => none }
def GramMatricesWrongFalsely : Prop := gramMatricesRow.holds Tryz.pinned (OpenSpec.ofChange gramMatricesWrong)

/-- 'cincturelaw13.GramSums': WHATEVER THE INPUT: true; the input reads as it did. -/
def gramSumsSpec : ChangeSpec := { name := "gramSums", fn := fun _ => fun
  | [d1, d2] => { results := [.lit (.bool true)], args := [d1, d2] }
  | _ => none }
def gramSumsRow : OpenClaim := { program := "ytjgpenfndnhdnaagreat", sum := "7d905e087b2ba8c34d8d17eaa888d30e01348adcac76086dcde573d6305b02cf", func := "cincture/cincturelaw13.GramSums", spec := "gramSums", inPlace := ["internal/bytealg.IndexByteString", "internal/bytealg.IndexString"], unfollowed := true, recurses := true, named := ["internal/bytealg.MaxLen"], plainKeys := false, apart := false }
def GramSumsSaid : Prop := gramSumsRow.holds Tryz.pinned (OpenSpec.ofChange gramSumsSpec)

/-- ITS FALSE NEIGHBOUR: 'it returns false'. Refute it at one input. -/
def gramSumsWrong : ChangeSpec := { name := "gramSums", fn := fun _ => fun
  | [d1, d2] => { results := [.lit (.bool false)], args := [d1, d2] }
  | _ => none }
def GramSumsWrongFalsely : Prop := gramSumsRow.holds Tryz.pinned (OpenSpec.ofChange gramSumsWrong)

/-- 'cincturelaw16.FlowLies': WHATEVER THE INPUT: true; the input reads as it did. -/
def flowLiesSpec : ChangeSpec := { name := "flowLies", fn := fun _ => fun
  | [d1, d2] => { results := [.lit (.bool true)], args := [d1, d2] }
  | _ => none }
def flowLiesRow : OpenClaim := { program := "ytjgpenfndnhdnaagreat", sum := "7d905e087b2ba8c34d8d17eaa888d30e01348adcac76086dcde573d6305b02cf", func := "cincture/cincturelaw16.FlowLies", spec := "flowLies", inPlace := ["internal/bytealg.IndexByteString", "internal/bytealg.IndexString"], unfollowed := true, recurses := true, named := ["internal/bytealg.MaxLen"], plainKeys := false, apart := false }
def FlowLiesSaid : Prop := flowLiesRow.holds Tryz.pinned (OpenSpec.ofChange flowLiesSpec)

/-- ITS FALSE NEIGHBOUR: 'it returns false'. Refute it at one input. -/
def flowLiesWrong : ChangeSpec := { name := "flowLies", fn := fun _ => fun
  | [d1, d2] => { results := [.lit (.bool false)], args := [d1, d2] }
  | _ => none }
def FlowLiesWrongFalsely : Prop := flowLiesRow.holds Tryz.pinned (OpenSpec.ofChange flowLiesWrong)

/-- 'cincturelaw14.LdlGram': WHATEVER THE INPUT: true; the input reads as it did. -/
def ldlGramSpec : ChangeSpec := { name := "ldlGram", fn := fun _ => fun
  | [d1, d2, d3] => { results := [.lit (.bool true)], args := [d1, d2, d3] }
  | _ => none }
def ldlGramRow : OpenClaim := { program := "ytjgpenfndnhdnaagreat", sum := "7d905e087b2ba8c34d8d17eaa888d30e01348adcac76086dcde573d6305b02cf", func := "cincture/cincturelaw14.LdlGram", spec := "ldlGram", inPlace := ["internal/bytealg.IndexByteString", "internal/bytealg.IndexString"], unfollowed := true, recurses := true, named := ["internal/bytealg.MaxLen"], plainKeys := false, apart := false }
def LdlGramSaid : Prop := ldlGramRow.holds Tryz.pinned (OpenSpec.ofChange ldlGramSpec)

/-- ITS FALSE NEIGHBOUR: 'it returns false'. Refute it at one input. -/
def ldlGramWrong : ChangeSpec := { name := "ldlGram", fn := fun _ => fun
  | [d1, d2, d3] => { results := [.lit (.bool false)], args := [d1, d2, d3] }
  | _ => none }
def LdlGramWrongFalsely : Prop := ldlGramRow.holds Tryz.pinned (OpenSpec.ofChange ldlGramWrong)

/-- 'cincturelaw14.LdlSemi': WHATEVER THE INPUT: true; the input reads as it did. -/
def ldlSemiSpec : ChangeSpec := { name := "ldlSemi", fn := fun _ => fun
  | [d1, d2] => { results := [.lit (.bool true)], args := [d1, d2] }
  | _ => none }
def ldlSemiRow : OpenClaim := { program := "ytjgpenfndnhdnaagreat", sum := "7d905e087b2ba8c34d8d17eaa888d30e01348adcac76086dcde573d6305b02cf", func := "cincture/cincturelaw14.LdlSemi", spec := "ldlSemi", inPlace := ["internal/bytealg.IndexByteString", "internal/bytealg.IndexString"], unfollowed := true, recurses := true, named := ["internal/bytealg.MaxLen"], plainKeys := false, apart := false }
def LdlSemiSaid : Prop := ldlSemiRow.holds Tryz.pinned (OpenSpec.ofChange ldlSemiSpec)

/-- ITS FALSE NEIGHBOUR: 'it returns false'. Refute it at one input. -/
def ldlSemiWrong : ChangeSpec := { name := "ldlSemi", fn := fun _ => fun
  | [d1, d2] => { results := [.lit (.bool false)], args := [d1, d2] }
  | _ => none }
def LdlSemiWrongFalsely : Prop := ldlSemiRow.holds Tryz.pinned (OpenSpec.ofChange ldlSemiWrong)

/- THE SECOND FORM. 'bulk': how many values and letters a reading holds, each counted each time it is reached (what is shared counts as often as it is met; a slice's spare places count too). A statement '..UptoSaid' is the law's where the arguments, and the package variables that the reading takes, are together of bulk at most 1048576: NARROWER than '..Said'. Prove '..Said' where nothing that the law and all that it calls make is longer than what came in: it says more and counts as full. Else prove '..UptoSaid'. A law counts once. -/
mutual
def uptoBulk {H : Type} : DataW H → Nat
  | .lit (.string bytes) => bytes.length + 1
  | .lit _ => 1
  | .nil => 1
  | .ptr d => uptoBulk d + 1
  | .slice elems spare => uptoBulkAll elems + uptoBulkAll spare + 1
  | .agg parts => uptoBulkAll parts + 1
  | .iface _ d => uptoBulk d + 1
  | .map entries => uptoBulkEntries entries + 1
  | .held _ => 1
def uptoBulkAll {H : Type} : List (DataW H) → Nat
  | [] => 0
  | d :: r => uptoBulk d + uptoBulkAll r
def uptoBulkEntries {H : Type} : List (Lit × DataW H) → Nat
  | [] => 0
  | x :: r => uptoBulkEntry x + uptoBulkEntries r
def uptoBulkEntry {H : Type} : Lit × DataW H → Nat
  | (.string bytes, d) => bytes.length + uptoBulk d + 1
  | (_, d) => uptoBulk d + 1
 end
def uptoSmall : (H : Type) → List (DataW H) → Bool := fun _ ds => decide (uptoBulkAll ds ≤ 1048576)
def OpenSpec.upto (s : _root_.Go.ChangeSpec) : _root_.Go.OpenSpec := { _root_.Go.OpenSpec.ofChange s with cond := some uptoSmall }

/-- 'cincturelaw13.GramForms', WHERE WHAT IT READS IS OF BULK AT MOST 1048576: true; the input reads as it did. -/
def gramFormsUptoRow : OpenClaim := { program := "ytjgpenfndnhdnaagreat", sum := "7d905e087b2ba8c34d8d17eaa888d30e01348adcac76086dcde573d6305b02cf", func := "cincture/cincturelaw13.GramForms", spec := "gramForms", inPlace := ["internal/bytealg.IndexByteString", "internal/bytealg.IndexString"], unfollowed := true, recurses := true, named := ["internal/bytealg.MaxLen"], plainKeys := false, apart := false, narrowed := true }
def GramFormsUptoSaid : Prop := gramFormsUptoRow.holds Tryz.pinned (OpenSpec.upto gramFormsSpec)

/-- 'cincturelaw13.GramMatrices', WHERE WHAT IT READS IS OF BULK AT MOST 1048576: true; the input reads as it did. -/
def gramMatricesUptoRow : OpenClaim := { program := "ytjgpenfndnhdnaagreat", sum := "7d905e087b2ba8c34d8d17eaa888d30e01348adcac76086dcde573d6305b02cf", func := "cincture/cincturelaw13.GramMatrices", spec := "gramMatrices", inPlace := ["internal/bytealg.IndexByteString", "internal/bytealg.IndexString"], unfollowed := true, recurses := true, named := ["internal/bytealg.MaxLen"], plainKeys := false, apart := false, narrowed := true }
def GramMatricesUptoSaid : Prop := gramMatricesUptoRow.holds Tryz.pinned (OpenSpec.upto gramMatricesSpec)

/-- 'cincturelaw13.GramSums', WHERE WHAT IT READS IS OF BULK AT MOST 1048576: true; the input reads as it did. -/
def gramSumsUptoRow : OpenClaim := { program := "ytjgpenfndnhdnaagreat", sum := "7d905e087b2ba8c34d8d17eaa888d30e01348adcac76086dcde573d6305b02cf", func := "cincture/cincturelaw13.GramSums", spec := "gramSums", inPlace := ["internal/bytealg.IndexByteString", "internal/bytealg.IndexString"], unfollowed := true, recurses := true, named := ["internal/bytealg.MaxLen"], plainKeys := false, apart := false, narrowed := true }
def GramSumsUptoSaid : Prop := gramSumsUptoRow.holds Tryz.pinned (OpenSpec.upto gramSumsSpec)

/-- 'cincturelaw16.FlowLies', WHERE WHAT IT READS IS OF BULK AT MOST 1048576: true; the input reads as it did. -/
def flowLiesUptoRow : OpenClaim := { program := "ytjgpenfndnhdnaagreat", sum := "7d905e087b2ba8c34d8d17eaa888d30e01348adcac76086dcde573d6305b02cf", func := "cincture/cincturelaw16.FlowLies", spec := "flowLies", inPlace := ["internal/bytealg.IndexByteString", "internal/bytealg.IndexString"], unfollowed := true, recurses := true, named := ["internal/bytealg.MaxLen"], plainKeys := false, apart := false, narrowed := true }
def FlowLiesUptoSaid : Prop := flowLiesUptoRow.holds Tryz.pinned (OpenSpec.upto flowLiesSpec)

/-- 'cincturelaw14.LdlGram', WHERE WHAT IT READS IS OF BULK AT MOST 1048576: true; the input reads as it did. -/
def ldlGramUptoRow : OpenClaim := { program := "ytjgpenfndnhdnaagreat", sum := "7d905e087b2ba8c34d8d17eaa888d30e01348adcac76086dcde573d6305b02cf", func := "cincture/cincturelaw14.LdlGram", spec := "ldlGram", inPlace := ["internal/bytealg.IndexByteString", "internal/bytealg.IndexString"], unfollowed := true, recurses := true, named := ["internal/bytealg.MaxLen"], plainKeys := false, apart := false, narrowed := true }
def LdlGramUptoSaid : Prop := ldlGramUptoRow.holds Tryz.pinned (OpenSpec.upto ldlGramSpec)

/-- 'cincturelaw14.LdlSemi', WHERE WHAT IT READS IS OF BULK AT MOST 1048576: true; the input reads as it did. -/
def ldlSemiUptoRow : OpenClaim := { program := "ytjgpenfndnhdnaagreat", sum := "7d905e087b2ba8c34d8d17eaa888d30e01348adcac76086dcde573d6305b02cf", func := "cincture/cincturelaw14.LdlSemi", spec := "ldlSemi", inPlace := ["internal/bytealg.IndexByteString", "internal/bytealg.IndexString"], unfollowed := true, recurses := true, named := ["internal/bytealg.MaxLen"], plainKeys := false, apart := false, narrowed := true }
def LdlSemiUptoSaid : Prop := ldlSemiUptoRow.holds Tryz.pinned (OpenSpec.upto ldlSemiSpec)

end Rows
end Go.Proofs.YtjgpenfndnhdnaaGreat
