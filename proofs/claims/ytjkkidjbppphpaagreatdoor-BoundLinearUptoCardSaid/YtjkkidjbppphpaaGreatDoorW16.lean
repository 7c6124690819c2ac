/- cinctureref1.PolyMul. -/
import Derived.Test.YtjkkidjbppphpaaGreatDoorW13
import Derived.Test.YtjkkidjbppphpaaGreatDoorR10
import Derived.Test.YtjkkidjbppphpaaGreatDoorW15
import Derived.Test.YtjkkidjbppphpaaGreatDoorR12
set_option linter.unusedVariables false
set_option linter.unusedSimpArgs false
set_option maxRecDepth 100000
namespace Go.Proofs.YtjkkidjbppphpaaGreatDoor
open Go Go.SX
end Go.Proofs.YtjkkidjbppphpaaGreatDoor
/- poly.Compose, cinctureref1.Compose. -/
namespace Go.Proofs.YtjkkidjbppphpaaGreatDoor
open Go Go.SX
end Go.Proofs.YtjkkidjbppphpaaGreatDoor
