/- cincturelaw8.PolyLeibniz. -/
import Derived.Test.YtnlmddaakeigdaaGreatDoorW19
import Derived.Test.YtnlmddaakeigdaaGreatDoorW16
import Derived.Test.YtnlmddaakeigdaaGreatDoorW14
import Derived.Test.YtnlmddaakeigdaaGreatDoorW13
import Derived.Test.YtnlmddaakeigdaaGreatDoorR11
import Derived.Test.YtnlmddaakeigdaaGreatDoorLib4
import Derived.Test.YtnlmddaakeigdaaGreatDoorW17
set_option linter.unusedVariables false
set_option linter.unusedSimpArgs false
set_option maxRecDepth 100000
set_option linter.unusedVariables false
set_option linter.unusedSimpArgs false
namespace Go.Proofs.YtnlmddaakeigdaaGreatDoor
open Go Go.SX
theorem bookWithin_ok {W0:PW} {M:Nat→Prop} {n lo hi:Int} (h0: -1000000≤lo) (h1:lo≤hi) (h2:hi≤1000000):
  PCallsM Go.Proofs.Tryz.prog 15 [.int .i64 n,.int .i64 lo,.int .i64 hi] W0 M fun v W'=>∃(k:Int),v = .int .i64 k∧lo≤k∧k≤hi:=by
 apply callbook_Within
 have hb:(Int.tmod n (hi-lo+1)).natAbs<(hi-lo+1).natAbs:=by
  rw[Int.natAbs_tmod]
  exact Nat.mod_lt _ (by omega)
 exact⟨by unfold I64;omega,by unfold I64;omega,by omega,fun h=>⟨by unfold I64;omega,by unfold I64;omega,by unfold I64;omega,by unfold I64;omega,fun W1 _=>⟨_,rfl,by omega,by omega⟩⟩,fun h=>⟨by unfold I64;omega,fun W2 _=>⟨_,rfl,by omega,by omega⟩⟩⟩
theorem bookWithin_call {W0 W:PW} {M:Nat→Prop} {n lo hi:Int} {K:Value→PW→Prop} (h0: -1000000≤lo) (h1:lo≤hi) (h2:hi≤1000000) (kont: ∀(k:Int) (W':PW),Ext W W'→(lo≤k∧k≤hi)→K (.int .i64 k) W'):
  callN Go.Proofs.Tryz.prog W0 M 15 [.int .i64 n,.int .i64 lo,.int .i64 hi] W K:=
 callN_of (fun W' hE=>bookWithin_ok (M:=fun _=>False) h0 h1 h2) (fun W' v W'' hE hE' hP=>by
  obtain⟨k,rfl,h⟩:=hP
  exact kont k W'' (hE.trans hE') h)
end Go.Proofs.YtnlmddaakeigdaaGreatDoor

/- cinctureref1.times; poly.At, cinctureref1.At. -/
set_option maxRecDepth 100000
set_option linter.unusedVariables false
set_option linter.unusedSimpArgs false
namespace Go.Proofs.YtnlmddaakeigdaaGreatDoor
open Go Go.SX
end Go.Proofs.YtnlmddaakeigdaaGreatDoor

/- Values of sums, products and compositions. -/
set_option linter.unusedVariables false
set_option linter.unusedSimpArgs false
namespace Go.Proofs.YtnlmddaakeigdaaGreatDoor
open Go Go.SX
theorem PExp.pairs {e f:Int} {p q:List Tm} (h:PExp e p) (k:PExp f q) (hM:MulOK p q):PExp (e+f) (pnorm (ppairs p q)):=PExp.norm fun t ht=>by
 obtain⟨a,ha,hm⟩:=List.mem_flatMap.1 ht
 obtain⟨b,hb,rfl⟩:=List.mem_map.1 hm
 have h1:=h a ha
 have h2:=k b hb
 refine⟨hM a ha b hb,?_⟩
 dsimp only[Mon.add]
 omega
end Go.Proofs.YtnlmddaakeigdaaGreatDoor
