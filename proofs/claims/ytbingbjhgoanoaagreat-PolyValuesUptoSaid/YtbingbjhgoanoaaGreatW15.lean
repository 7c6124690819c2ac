/- poly.Same. -/
import Derived.Test.YtbingbjhgoanoaaGreatW13
import Derived.Test.YtbingbjhgoanoaaGreatR17
import Derived.Test.YtbingbjhgoanoaaGreatR15
import Derived.Test.YtbingbjhgoanoaaGreatW14
import Derived.Test.YtbingbjhgoanoaaGreatR20
set_option linter.unusedVariables false
set_option linter.unusedSimpArgs false
set_option maxRecDepth 100000
set_option linter.unusedVariables false
set_option linter.unusedSimpArgs false
namespace Go.Proofs.YtbingbjhgoanoaaGreat
open Go Go.SX
end Go.Proofs.YtbingbjhgoanoaaGreat

/- cinctureref1.PolyMul. -/
set_option maxRecDepth 100000
set_option linter.unusedVariables false
set_option linter.unusedSimpArgs false
namespace Go.Proofs.YtbingbjhgoanoaaGreat
open Go Go.SX
end Go.Proofs.YtbingbjhgoanoaaGreat

/- cinctureref1: PolyAdd, PolyScale, PolySub, Var, Const, PolySame. -/
set_option maxRecDepth 100000
set_option linter.unusedVariables false
set_option linter.unusedSimpArgs false
namespace Go.Proofs.YtbingbjhgoanoaaGreat
open Go Go.SX
end Go.Proofs.YtbingbjhgoanoaaGreat
