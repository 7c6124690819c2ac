/- poly.Diff, cinctureref1.Diff; cincturelaw8.PolyDiffs. -/
import Derived.Test.YtbingbjhgoanoaaGreatW13
import Derived.Test.YtbingbjhgoanoaaGreatR16
import Derived.Test.YtbingbjhgoanoaaGreatW3
import Derived.Test.YtbingbjhgoanoaaGreatW10
import Derived.Test.YtbingbjhgoanoaaGreatW12
import Derived.Test.YtbingbjhgoanoaaGreatR18
import Derived.Test.YtbingbjhgoanoaaGreatLib4
set_option linter.unusedVariables false
set_option linter.unusedSimpArgs false
set_option maxRecDepth 100000
set_option linter.unusedVariables false
set_option linter.unusedSimpArgs false
namespace Go.Proofs.YtbingbjhgoanoaaGreat
open Go Go.SX
end Go.Proofs.YtbingbjhgoanoaaGreat

/- slices.Backward of bytes; mono.Vars. -/
set_option linter.unusedVariables false
set_option linter.unusedSimpArgs false
namespace Go.Proofs.YtbingbjhgoanoaaGreat
open Go Go.SX Go.RowKit Go.Shelf
attribute [local go_sem] Oper.semAt_some
end Go.Proofs.YtbingbjhgoanoaaGreat

/- poly.Degree, poly.Top. -/
set_option maxRecDepth 100000
set_option linter.unusedVariables false
set_option linter.unusedSimpArgs false
namespace Go.Proofs.YtbingbjhgoanoaaGreat
open Go Go.SX
def topw (i : Int) (m : Mon) : Int := if 0 ≤ i ∧ i < 3 then eget m i.toNat else 0
def topI (W0 : PW) (p : List Tm) (i : Int) (L : List PL) (W : PW) : Prop := match L with
  | [.val (.int .i64 a), .val (.int .i64 k)] => ∃ j : Nat, k = (j : Int) ∧ j ≤ p.length ∧ Ext W0 W ∧ a = maxf (topw i) 0 (p.take j)
  | _ => False
def topM (p : List Tm) (L : List PL) (_ : PW) : Nat := match L with
  | [_, .val (.int .i64 k)] => p.length - k.toNat
  | _ => 0
end Go.Proofs.YtbingbjhgoanoaaGreat
