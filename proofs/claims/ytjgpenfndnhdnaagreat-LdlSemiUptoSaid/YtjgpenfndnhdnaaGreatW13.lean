/- cinctureref1: Degree, MonoCmp, MonoMul; put, PolyOf. -/
import Derived.Test.YtjgpenfndnhdnaaGreatW11
import Derived.Test.YtjgpenfndnhdnaaGreatW10
import Derived.Test.YtjgpenfndnhdnaaGreatR16
import Derived.Test.YtjgpenfndnhdnaaGreatW12
import Derived.Test.YtjgpenfndnhdnaaGreatR17
set_option linter.unusedVariables false
set_option linter.unusedSimpArgs false
set_option maxRecDepth 100000
set_option linter.unusedVariables false
set_option linter.unusedSimpArgs false
namespace Go.Proofs.YtjgpenfndnhdnaaGreat
open Go Go.SX
end Go.Proofs.YtjgpenfndnhdnaaGreat

/- cinctureref1: put, PolyOf. -/
set_option maxRecDepth 100000
set_option linter.unusedVariables false
set_option linter.unusedSimpArgs false
namespace Go.Proofs.YtjgpenfndnhdnaaGreat
open Go Go.SX
theorem take_snocR {α:Type} {l:List α} {j:Nat} (h:j<l.length):l.take (j+1)=l.take j ++ [l[j]]:=by
 rw[List.take_add_one,List.getElem?_eq_getElem h];rfl
end Go.Proofs.YtjgpenfndnhdnaaGreat

/- cinctureref1: PolyOf, PolyPlain; poly.Plain; book.SameTerms, law8.Is. -/
set_option maxRecDepth 100000
set_option linter.unusedVariables false
set_option linter.unusedSimpArgs false
namespace Go.Proofs.YtjgpenfndnhdnaaGreat
open Go Go.SX
end Go.Proofs.YtjgpenfndnhdnaaGreat

/- cincturelaw8.alive. -/
set_option maxRecDepth 100000
set_option linter.unusedVariables false
set_option linter.unusedSimpArgs false
namespace Go.Proofs.YtjgpenfndnhdnaaGreat
open Go Go.SX
end Go.Proofs.YtjgpenfndnhdnaaGreat
