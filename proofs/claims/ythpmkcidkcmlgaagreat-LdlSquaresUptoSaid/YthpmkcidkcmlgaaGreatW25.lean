/- The reference's intervals; cincturelaw5.Is, Of; span.Parse. -/
import Derived.Test.YthpmkcidkcmlgaaGreatW24
import Derived.Test.YthpmkcidkcmlgaaGreatW10
import Derived.Test.YthpmkcidkcmlgaaGreatLib4
import Derived.Test.YthpmkcidkcmlgaaGreatW14
import Derived.Test.YthpmkcidkcmlgaaGreatW20
import Derived.Test.YthpmkcidkcmlgaaGreatW8
set_option linter.unusedVariables false
set_option linter.unusedSimpArgs false
set_option maxRecDepth 100000
set_option linter.unusedVariables false
set_option linter.unusedSimpArgs false
namespace Go.Proofs.YthpmkcidkcmlgaaGreat
open Go Go.SX
end Go.Proofs.YthpmkcidkcmlgaaGreat

/- span.Parse, cinctureref1.SpanParse; cincturelaw5.Is, Of. -/
set_option maxRecDepth 100000
set_option linter.unusedVariables false
set_option linter.unusedSimpArgs false
namespace Go.Proofs.YthpmkcidkcmlgaaGreat
open Go Go.SX
end Go.Proofs.YthpmkcidkcmlgaaGreat

/- law6.Raw and law13.Squares. -/
set_option maxRecDepth 100000
set_option linter.unusedVariables false
set_option linter.unusedSimpArgs false
namespace Go.Proofs.YthpmkcidkcmlgaaGreat
open Go Go.SX
theorem IsSqs.ext {W W':PW} {s:Sl} {L:List SqT} (h:IsSqs W s L) (hE:Ext W W'):IsSqs W' s L:=let⟨xs,⟨t,h1⟩,h2⟩:=h;⟨xs,⟨t,h1.ext hE⟩,h2.mono fun _ _ ⟨s,e,h⟩=>⟨s,e,h.ext hE⟩⟩
end Go.Proofs.YthpmkcidkcmlgaaGreat
