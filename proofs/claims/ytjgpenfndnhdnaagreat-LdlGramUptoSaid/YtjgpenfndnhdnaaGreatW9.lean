/- cinctureref1: whole numbers and quotients. -/
import Derived.Test.YtjgpenfndnhdnaaGreatW8
import Derived.Test.YtjgpenfndnhdnaaGreatR11
set_option linter.unusedVariables false
set_option linter.unusedSimpArgs false
set_option maxRecDepth 100000
set_option linter.unusedVariables false
set_option linter.unusedSimpArgs false
namespace Go.Proofs.YtjgpenfndnhdnaaGreat
open Go Go.SX
theorem refSign_ok {W0:PW} {M:Nat→Prop} {s:Sl} {b:Bool} {z:Int} (h:IsInt 260 W0 s b z):
  PCallsM Go.Proofs.Tryz.prog 108 [.agg #[.bool b,s.v]] W0 M fun v W'=>v = .int .i64 (sgnI z)∧True:=by
 apply callref1_Sign
 have hn:=h.1.n
 have hb:=h.2
 refine⟨fun h0 W hE=>⟨?_,trivial⟩,fun h0=>⟨fun hb1 W hE=>⟨?_,trivial⟩,fun hb1 W hE=>⟨?_,trivial⟩⟩⟩
 ·have:z.natAbs=0:=nl_eq_zero.1 (by omega)
  have:z=0:=by omega
  subst this
  rfl
 ·have:z<0:=of_decide_eq_true (hb ▸ hb1)
  rw[sgnI,if_pos this]
 ·have h1:¬z<0:=of_decide_eq_false (hb ▸ hb1)
  have h2:z≠0:=fun e=>by subst e;rw[Int.natAbs_zero,nl_zero] at hn;omega
  rw[sgnI,if_neg h1,if_neg h2]
theorem refSign_call {W0 W:PW} {M:Nat→Prop} {s:Sl} {b:Bool} {z:Int} {K:Value→PW→Prop} (h:IsInt 260 W s b z) (kont: ∀(W':PW),Ext W W'→(True)→K (.int .i64 (sgnI z)) W'):
  callN Go.Proofs.Tryz.prog W0 M 108 [.agg #[.bool b,s.v]] W K:=
 callN_of (fun W' hE=>refSign_ok (M:=fun _=>False) (h.ext hE)) (fun W' v W'' hE hE' hP=>by
  obtain⟨rfl,h⟩:=hP
  exact kont W'' (hE.trans hE') h)
end Go.Proofs.YtjgpenfndnhdnaaGreat

/- cinctureref1: quotients. -/
set_option maxRecDepth 100000
set_option linter.unusedVariables false
set_option linter.unusedSimpArgs false
namespace Go.Proofs.YtjgpenfndnhdnaaGreat
open Go Go.SX
end Go.Proofs.YtjgpenfndnhdnaaGreat
