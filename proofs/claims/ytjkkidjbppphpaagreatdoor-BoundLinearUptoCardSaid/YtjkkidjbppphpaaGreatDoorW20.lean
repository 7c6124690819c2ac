/- cinctureref1: MonoVars, PolyDegree, PolyVars, Top. -/
import Derived.Test.YtjkkidjbppphpaaGreatDoorW18
import Derived.Test.YtjkkidjbppphpaaGreatDoorW15
import Derived.Test.YtjkkidjbppphpaaGreatDoorW13
import Derived.Test.YtjkkidjbppphpaaGreatDoorW10
import Derived.Test.YtjkkidjbppphpaaGreatDoorW9
import Derived.Test.YtjkkidjbppphpaaGreatDoorR12
import Derived.Test.YtjkkidjbppphpaaGreatDoorW19
import Derived.Shelf.Spec.TrailingZeros
import Derived.Shelf.SlGeneric
import Derived.Test.YtjkkidjbppphpaaGreatDoorProg
set_option linter.unusedVariables false
set_option linter.unusedSimpArgs false
set_option maxRecDepth 100000
namespace Go.Proofs.YtjkkidjbppphpaaGreatDoor
open Go Go.SX
end Go.Proofs.YtjkkidjbppphpaaGreatDoor
/- span.Parse, cinctureref1.SpanParse; cincturelaw5.Is, Of. -/
namespace Go.Proofs.YtjkkidjbppphpaaGreatDoor
open Go Go.SX
def spP (a b:ByteArray):Option Iv:=match Ab7 a,Ab7 b with
 | some p,some q=>if p≤q then some (p,q) else none
 | _,_=>none
theorem Dp3 {a b:ByteArray} {x:Iv} (h:spP a b=some x):Ab7 a=some x.1∧Ab7 b=some x.2∧x.1≤x.2:=by
 unfold spP at h
 cases ha:Ab7 a with
 | none=>rw[ha] at h;cases h
 | some p=>
  cases hb:Ab7 b with
  | none=>rw[ha,hb] at h;cases h
  | some q=>
   rw[ha,hb] at h
   dsimp only at h
   split at h
   ·cases h;exact⟨rfl,rfl,by assumption⟩
   ·cases h
theorem Bg2 {α:Type} {o:Option α} :er o=0↔o.isSome=true:=by
 unfold er
 cases o<;>simp
theorem At4 {a:ByteArray} :Sz 4000 ((Ab7 a).getD 0):=by
 cases h:Ab7 a with
 | none=>exact Sz.zero (by omega)
 | some q=>exact(Aw6 h).1
theorem Cq2 {W0:PW} {M:Nat→Prop} {a b:ByteArray} (ha:a.size≤1099511627776) (hb:b.size≤1099511627776):
  Aa0 Tryz.prog 82 [.agg ⟨[.string a,.string b]⟩] W0 M fun v W'=>∃(l:List Value),∃(e:Int),v = .tuple ⟨[.agg ⟨l⟩,.int .i64 e]⟩∧SpV 284 W' l ((spP a b).getD (0,0))∧(e=0↔(spP a b).isSome=true):=by
 apply Bz8
 refine As8 ha fun s3 b4 s5 W2 hE2 h2=>⟨s3,b4,s5,_,rfl,fun hne W7 hE7=>?_,fun heq=>?_⟩
 ·have hn:Ab7 a=none:=by
   cases h:Ab7 a with
   | none=>rfl
   | some q=>exact absurd (Bg2.2 (by rw[h];rfl)) hne
  have hs:spP a b=none:=by unfold spP;rw[hn]
  refine⟨_,_,rfl,by rw[hs];exact SpV.zero W7,?_⟩
  rw[hs,Bg2,hn];simp
 ·have h1:=Bg2.1 (Decidable.not_not.1 heq)
  obtain⟨p,hp⟩:=Option.isSome_iff_exists.1 h1
  refine As8 hb fun s10 b11 s12 W9 hE9 h9=>⟨s10,b11,s12,_,rfl,fun hne W14 hE14=>?_,fun heq2=>?_⟩
  ·have hn:Ab7 b=none:=by
    cases h:Ab7 b with
    | none=>rfl
    | some q=>exact absurd (Bg2.2 (by rw[h];rfl)) hne
   have hs:spP a b=none:=by unfold spP;rw[hp,hn]
   refine⟨_,_,rfl,by rw[hs];exact SpV.zero W14,?_⟩
   rw[hs,Bg2,hn];simp
  ·have h3:=Bg2.1 (Decidable.not_not.1 heq2)
   obtain⟨q,hq⟩:=Option.isSome_iff_exists.1 h3
   have z1:=At4 (a:=a)
   have z2:=At4 (a:=b)
   refine Cq7 (h2.ext hE9) h9 z1 z2 (by omega) fun l W16 hE16 h16=>?_
   rw[hp,hq] at h16⊢
   simp only[Option.getD_some] at h16⊢
   have hs:spP a b=if p≤q then some (p,q) else none:=by unfold spP;rw[hp,hq]
   obtain⟨s17,b18,s19,s20,b21,s22,rfl,k1,k2⟩:=h16
   refine⟨s17,b18,s19,s20,b21,s22,_,rfl,fun hno W24 hE24=>?_,fun hyes W25 hE25=>?_⟩
   ·have hno:¬p≤q:=by simpa using hno
    rw[hs,if_neg hno]
    exact⟨_,_,rfl,SpV.zero W24,by decide⟩
   ·have hyes:p≤q:=by simpa using hyes
    rw[if_pos hyes] at k1 k2
    rw[hs,if_pos hyes]
    exact⟨_,_,rfl,SpV.mk (x:=(p,q)) (k1.ext hE25) (k2.ext hE25),by simp⟩
theorem Az3 {W0 W:PW} {M:Nat→Prop} {a b:ByteArray} {K:Value→PW→Prop} (ha:a.size≤1099511627776) (hb:b.size≤1099511627776) (kont: ∀(l:List Value) (e:Int) (W':PW),Ext W W'→(SpV 284 W' l ((spP a b).getD (0,0))∧(e=0↔(spP a b).isSome=true))→K (.tuple ⟨[.agg ⟨l⟩,.int .i64 e]⟩) W'):
  Aa1 Tryz.prog W0 M 82 [.agg ⟨[.string a,.string b]⟩] W K:=
 Aa2 (fun W' hE=>Cq2 (M:=fun _=>False) ha hb) (fun W' v W'' hE hE' hP=>by
  obtain⟨l,e,rfl,h⟩:=hP
  exact kont l e W'' (hE.trans hE') h)
theorem Bp7 {W0:PW} {M:Nat→Prop} {a b:ByteArray} (ha:a.size≤1099511627776) (hb:b.size≤1099511627776):
  Aa0 Tryz.prog 81 [.agg ⟨[.string a,.string b]⟩] W0 M fun v W'=>∃(l:List Value),∃(e:Int),v = .tuple ⟨[.agg ⟨l⟩,.int .i64 e]⟩∧Ah6 284 W' l ((spP a b).getD (0,0))∧(e=0↔(spP a b).isSome=true):=by
 apply Be5
 refine An7 ha fun b3 s4 s5 W2 hE2 h2=>⟨b3,s4,s5,_,rfl,An7 hb fun b9 s10 s11 W8 hE8 h8=>⟨b9,s10,s11,_,rfl,fun hno W13 hE13=>?_,fun hyes=>⟨fun hno W14 hE14=>?_,fun hyes2=>?_⟩⟩⟩
 ·have hn:Ab7 a=none:=by simpa using hno
  have hs:spP a b=none:=by unfold spP;rw[hn]
  rw[hs]
  exact⟨_,_,rfl,Ah6.zero W13,by decide⟩
 ·have hn:Ab7 b=none:=by simpa using hno
  have hs:spP a b=none:=by unfold spP;cases Ab7 a<;>rw[hn]
  rw[hs]
  exact⟨_,_,rfl,Ah6.zero W14,by decide⟩
 ·obtain⟨p,hp⟩:=Option.isSome_iff_exists.1 (show(Ab7 a).isSome=true by simpa using hyes)
  obtain⟨q,hq⟩:=Option.isSome_iff_exists.1 (show(Ab7 b).isSome=true by simpa using hyes2)
  have z1:=At4 (a:=a)
  have z2:=At4 (a:=b)
  have hs:spP a b=if p≤q then some (p,q) else none:=by unfold spP;rw[hp,hq]
  rw[hp] at h2 z1
  rw[hq] at h8 z2
  simp only[Option.getD_some] at h2 h8 z1 z2
  refine Ar1 (h2.ext hE8) h8 z1 z2 (by omega) (by omega) fun W16 hE16 _=>⟨_,rfl,fun hgt W18 hE18=>?_,fun hle W19 hE19=>?_⟩
  ·have h:¬p≤q:=Rat.not_le.2 (Al3.1 hgt)
   rw[hs,if_neg h]
   exact⟨_,_,rfl,Ah6.zero W18,by decide⟩
  ·have h:p≤q:=Rat.not_lt.1 fun e=>hle (Al3.2 e)
   rw[hs,if_pos h]
   exact⟨_,_,rfl,Ah6.mk (x:=(p,q)) (h2.ext (hE8.trans (hE16.trans hE19))) (h8.ext (hE16.trans hE19)),by simp⟩
theorem Bh8 {W0 W:PW} {M:Nat→Prop} {a b:ByteArray} {K:Value→PW→Prop} (ha:a.size≤1099511627776) (hb:b.size≤1099511627776) (kont: ∀(l:List Value) (e:Int) (W':PW),Ext W W'→(Ah6 284 W' l ((spP a b).getD (0,0))∧(e=0↔(spP a b).isSome=true))→K (.tuple ⟨[.agg ⟨l⟩,.int .i64 e]⟩) W'):
  Aa1 Tryz.prog W0 M 81 [.agg ⟨[.string a,.string b]⟩] W K:=
 Aa2 (fun W' hE=>Bp7 (M:=fun _=>False) ha hb) (fun W' v W'' hE hE' hP=>by
  obtain⟨l,e,rfl,h⟩:=hP
  exact kont l e W'' (hE.trans hE') h)
theorem En6 {W0:PW} {M:Nat→Prop} {l l':List Value} {x:Iv} {k:Nat} (h1:SpV 284 W0 l x) (h2:Ah6 284 W0 l' x) (hx:IvS k x) (hk:k≤100000000):
  Aa0 Tryz.prog 18 [.agg ⟨l⟩,.agg ⟨l'⟩] W0 M fun v W'=>v = .bool true∧True:=by
 obtain⟨s0,b0,t0,s1,b1,t1,rfl,h1,h1'⟩:=h1
 obtain⟨s2,b2,t2,s3,b3,t3,rfl,h2,h2'⟩:=h2
 apply Df9
 exact Bv1 h1 h2 hx.1 hx.1 hk fun W2 hE2 _=>⟨_,rfl,fun _=>Bv1 (h1'.ext hE2) (h2'.ext hE2) hx.2 hx.2 hk fun W5 hE5 _=>⟨_,rfl,fun W7 _=>⟨by rw[decide_eq_true rfl],trivial⟩⟩,fun e=>absurd e (by simp)⟩
theorem Bt3 {W0 W:PW} {M:Nat→Prop} {l l':List Value} {x:Iv} {k:Nat} {K:Value→PW→Prop} (h1:SpV 284 W l x) (h2:Ah6 284 W l' x) (hx:IvS k x) (hk:k≤100000000) (kont: ∀(W':PW),Ext W W'→(True)→K (.bool true) W'):
  Aa1 Tryz.prog W0 M 18 [.agg ⟨l⟩,.agg ⟨l'⟩] W K:=
 Aa2 (fun W' hE=>En6 (M:=fun _=>False) (h1.ext hE) (h2.ext hE) hx hk) (fun W' v W'' hE hE' hP=>by
  obtain⟨rfl,h⟩:=hP
  exact kont W'' (hE.trans hE') h)
end Go.Proofs.YtjkkidjbppphpaaGreatDoor
/- cinctureref1.Half. -/
namespace Go.Proofs.YtjkkidjbppphpaaGreatDoor
open Go Go.SX
end Go.Proofs.YtjkkidjbppphpaaGreatDoor
/- The reference's Mid, SpanSub, Meet, Three, Sides, Natural, Mean; cincturelaw9.told. -/
namespace Go.Proofs.YtjkkidjbppphpaaGreatDoor
open Go Go.SX
end Go.Proofs.YtjkkidjbppphpaaGreatDoor
/- Layings of the library's generic functions, as the kit's command says them. -/
namespace Go.Proofs.YtjkkidjbppphpaaGreatDoor
open Go Go.Shelf Go.Proofs
def Dm9:Go.Shelf.Ren:=⟨fun | 28=>260 | n=>n,fun | 27=>284 | 3=>3 | 4=>4 | 25=>121 | 53=>347 | 0=>0 | 5=>5 | n=>n,fun | 0=>1 | n=>n⟩
theorem Ff9:Go.Proofs.Lays7.n28 Tryz.prog Dm9 where
 mixed:=by kernel_rfl
 f28:=Tryz.func260.trans (congrArg some (by kernel_rfl))
 t0:=Tryz.underlying0
 a0:=Tryz.isAgg0
 z0:=Tryz.sizeOf0
 v0:=Tryz.zeroValue0
 i0:=by kernel_rfl
 t3:=Tryz.underlying3
 a3:=Tryz.isAgg3
 z3:=Tryz.sizeOf3
 v3:=Tryz.zeroValue3
 i3:=by kernel_rfl
 t4:=Tryz.underlying4
 a4:=Tryz.isAgg4
 z4:=Tryz.sizeOf4
 v4:=Tryz.zeroValue4
 i4:=by kernel_rfl
 t5:=Tryz.underlying5
 a5:=Tryz.isAgg5
 z5:=Tryz.sizeOf5
 v5:=Tryz.zeroValue5
 i5:=by kernel_rfl
 t25:=Tryz.underlying121
 a25:=Tryz.isAgg121
 z25:=Tryz.sizeOf121
 v25:=Tryz.zeroValue121
 i25:=by kernel_rfl
 t27:=Tryz.underlying284
 a27:=Tryz.isAgg284
 z27:=Tryz.sizeOf284
 v27:=Tryz.zeroValue284
 i27:=by kernel_rfl
 t53:=Tryz.underlying347
 a53:=Tryz.isAgg347
 z53:=Tryz.sizeOf347
 v53:=Tryz.zeroValue347
 i53:=by kernel_rfl
 g0:=by kernel_rfl
end Go.Proofs.YtjkkidjbppphpaaGreatDoor
