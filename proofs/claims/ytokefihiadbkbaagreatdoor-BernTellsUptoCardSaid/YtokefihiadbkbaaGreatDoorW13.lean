/- span.Parse, cinctureref1.SpanParse; cincturelaw5.Is, Of. -/
import Derived.Test.YtokefihiadbkbaaGreatDoorW9
import Derived.Test.YtokefihiadbkbaaGreatDoorW8
import Derived.Test.YtokefihiadbkbaaGreatDoorW12
import Derived.Test.YtokefihiadbkbaaGreatDoorW5
import Derived.Test.YtokefihiadbkbaaGreatDoorW11
import Derived.Test.YtokefihiadbkbaaGreatDoorR18
import Derived.Test.YtokefihiadbkbaaGreatDoorR20
import Derived.Shelf.Spec.TrailingZeros
import Derived.Shelf.SlGeneric
import Derived.Test.YtokefihiadbkbaaGreatDoorProg
import Derived.Test.YtokefihiadbkbaaGreatDoorTt
import Derived.Test.YtokefihiadbkbaaGreatDoorLib1
import Derived.Test.YtokefihiadbkbaaGreatDoorLib2
import Derived.Test.YtokefihiadbkbaaGreatDoorLib3
import Derived.Test.YtokefihiadbkbaaGreatDoorRows
import Derived.WalkKit
import Derived.ProofKit
import Derived.OpenShut
import Derived.JoinedCond
import Derived.Carry
import Derived.Deep.Strs
import Derived.Deep.Slices
import Derived.Test.YtokefihiadbkbaaGreatDoorW3
import Derived.Test.YtokefihiadbkbaaGreatDoorLib4
import Derived.Test.YtokefihiadbkbaaGreatDoorR15
set_option linter.unusedVariables false
set_option linter.unusedSimpArgs false
set_option maxRecDepth 100000
namespace Go.Proofs.YtokefihiadbkbaaGreatDoor
open Go Go.SX
def spP (a b:ByteArray):Option Iv:=match Ab7 a,Ab7 b with
 | some p,some q=>if p≤q then some (p,q) else none
 | _,_=>none
theorem Dp3 {a b:ByteArray} {x:Iv} (h:spP a b=some x):Ab7 a=some x.1∧Ab7 b=some x.2∧x.1≤x.2:=by
 unfold spP at h
 cases ha:Ab7 a with
 | none=>rw[ha] at h;cases h
 | some p=>
  cases hb:Ab7 b with
  | none=>rw[ha,hb] at h;cases h
  | some q=>
   rw[ha,hb] at h
   dsimp only at h
   split at h
   ·cases h;exact⟨rfl,rfl,by assumption⟩
   ·cases h
theorem Bg2 {α:Type} {o:Option α} :er o=0↔o.isSome=true:=by
 unfold er
 cases o<;>simp
theorem At4 {a:ByteArray} :Sz 4000 ((Ab7 a).getD 0):=by
 cases h:Ab7 a with
 | none=>exact Sz.zero (by omega)
 | some q=>exact(Aw6 h).1
theorem Cq2 {W0:PW} {M:Nat→Prop} {a b:ByteArray} (ha:a.size≤1099511627776) (hb:b.size≤1099511627776):
  Aa0 Tryz.prog 148 [.agg ⟨[.string a,.string b]⟩] W0 M fun v W'=>∃(l:List Value),∃(e:Int),v = .tuple ⟨[.agg ⟨l⟩,.int .i64 e]⟩∧SpV 231 W' l ((spP a b).getD (0,0))∧(e=0↔(spP a b).isSome=true):=by
 apply Bz8
 refine As8 ha fun s3 b4 s5 W2 hE2 h2=>⟨s3,b4,s5,_,rfl,fun hne W7 hE7=>?_,fun heq=>?_⟩
 ·have hn:Ab7 a=none:=by
   cases h:Ab7 a with
   | none=>rfl
   | some q=>exact absurd (Bg2.2 (by rw[h];rfl)) hne
  have hs:spP a b=none:=by unfold spP;rw[hn]
  refine⟨_,_,rfl,by rw[hs];exact SpV.zero W7,?_⟩
  rw[hs,Bg2,hn];simp
 ·have h1:=Bg2.1 (Decidable.not_not.1 heq)
  obtain⟨p,hp⟩:=Option.isSome_iff_exists.1 h1
  refine As8 hb fun s10 b11 s12 W9 hE9 h9=>⟨s10,b11,s12,_,rfl,fun hne W14 hE14=>?_,fun heq2=>?_⟩
  ·have hn:Ab7 b=none:=by
    cases h:Ab7 b with
    | none=>rfl
    | some q=>exact absurd (Bg2.2 (by rw[h];rfl)) hne
   have hs:spP a b=none:=by unfold spP;rw[hp,hn]
   refine⟨_,_,rfl,by rw[hs];exact SpV.zero W14,?_⟩
   rw[hs,Bg2,hn];simp
  ·have h3:=Bg2.1 (Decidable.not_not.1 heq2)
   obtain⟨q,hq⟩:=Option.isSome_iff_exists.1 h3
   have z1:=At4 (a:=a)
   have z2:=At4 (a:=b)
   refine Cq7 (h2.ext hE9) h9 z1 z2 (by omega) fun l W16 hE16 h16=>?_
   rw[hp,hq] at h16⊢
   simp only[Option.getD_some] at h16⊢
   have hs:spP a b=if p≤q then some (p,q) else none:=by unfold spP;rw[hp,hq]
   obtain⟨s17,b18,s19,s20,b21,s22,rfl,k1,k2⟩:=h16
   refine⟨s17,b18,s19,s20,b21,s22,_,rfl,fun hno W24 hE24=>?_,fun hyes W25 hE25=>?_⟩
   ·have hno:¬p≤q:=by simpa using hno
    rw[hs,if_neg hno]
    exact⟨_,_,rfl,SpV.zero W24,by decide⟩
   ·have hyes:p≤q:=by simpa using hyes
    rw[if_pos hyes] at k1 k2
    rw[hs,if_pos hyes]
    exact⟨_,_,rfl,SpV.mk (x:=(p,q)) (k1.ext hE25) (k2.ext hE25),by simp⟩
theorem Az3 {W0 W:PW} {M:Nat→Prop} {a b:ByteArray} {K:Value→PW→Prop} (ha:a.size≤1099511627776) (hb:b.size≤1099511627776) (kont: ∀(l:List Value) (e:Int) (W':PW),Ext W W'→(SpV 231 W' l ((spP a b).getD (0,0))∧(e=0↔(spP a b).isSome=true))→K (.tuple ⟨[.agg ⟨l⟩,.int .i64 e]⟩) W'):
  Aa1 Tryz.prog W0 M 148 [.agg ⟨[.string a,.string b]⟩] W K:=
 Aa2 (fun W' hE=>Cq2 (M:=fun _=>False) ha hb) (fun W' v W'' hE hE' hP=>by
  obtain⟨l,e,rfl,h⟩:=hP
  exact kont l e W'' (hE.trans hE') h)
theorem Bp7 {W0:PW} {M:Nat→Prop} {a b:ByteArray} (ha:a.size≤1099511627776) (hb:b.size≤1099511627776):
  Aa0 Tryz.prog 120 [.agg ⟨[.string a,.string b]⟩] W0 M fun v W'=>∃(l:List Value),∃(e:Int),v = .tuple ⟨[.agg ⟨l⟩,.int .i64 e]⟩∧Ah6 231 W' l ((spP a b).getD (0,0))∧(e=0↔(spP a b).isSome=true):=by
 apply Be5
 refine An7 ha fun b3 s4 s5 W2 hE2 h2=>⟨b3,s4,s5,_,rfl,An7 hb fun b9 s10 s11 W8 hE8 h8=>⟨b9,s10,s11,_,rfl,fun hno W13 hE13=>?_,fun hyes=>⟨fun hno W14 hE14=>?_,fun hyes2=>?_⟩⟩⟩
 ·have hn:Ab7 a=none:=by simpa using hno
  have hs:spP a b=none:=by unfold spP;rw[hn]
  rw[hs]
  exact⟨_,_,rfl,Ah6.zero W13,by decide⟩
 ·have hn:Ab7 b=none:=by simpa using hno
  have hs:spP a b=none:=by unfold spP;cases Ab7 a<;>rw[hn]
  rw[hs]
  exact⟨_,_,rfl,Ah6.zero W14,by decide⟩
 ·obtain⟨p,hp⟩:=Option.isSome_iff_exists.1 (show(Ab7 a).isSome=true by simpa using hyes)
  obtain⟨q,hq⟩:=Option.isSome_iff_exists.1 (show(Ab7 b).isSome=true by simpa using hyes2)
  have z1:=At4 (a:=a)
  have z2:=At4 (a:=b)
  have hs:spP a b=if p≤q then some (p,q) else none:=by unfold spP;rw[hp,hq]
  rw[hp] at h2 z1
  rw[hq] at h8 z2
  simp only[Option.getD_some] at h2 h8 z1 z2
  refine Ar1 (h2.ext hE8) h8 z1 z2 (by omega) (by omega) fun W16 hE16 _=>⟨_,rfl,fun hgt W18 hE18=>?_,fun hle W19 hE19=>?_⟩
  ·have h:¬p≤q:=Rat.not_le.2 (Al3.1 hgt)
   rw[hs,if_neg h]
   exact⟨_,_,rfl,Ah6.zero W18,by decide⟩
  ·have h:p≤q:=Rat.not_lt.1 fun e=>hle (Al3.2 e)
   rw[hs,if_pos h]
   exact⟨_,_,rfl,Ah6.mk (x:=(p,q)) (h2.ext (hE8.trans (hE16.trans hE19))) (h8.ext (hE16.trans hE19)),by simp⟩
theorem Bh8 {W0 W:PW} {M:Nat→Prop} {a b:ByteArray} {K:Value→PW→Prop} (ha:a.size≤1099511627776) (hb:b.size≤1099511627776) (kont: ∀(l:List Value) (e:Int) (W':PW),Ext W W'→(Ah6 231 W' l ((spP a b).getD (0,0))∧(e=0↔(spP a b).isSome=true))→K (.tuple ⟨[.agg ⟨l⟩,.int .i64 e]⟩) W'):
  Aa1 Tryz.prog W0 M 120 [.agg ⟨[.string a,.string b]⟩] W K:=
 Aa2 (fun W' hE=>Bp7 (M:=fun _=>False) ha hb) (fun W' v W'' hE hE' hP=>by
  obtain⟨l,e,rfl,h⟩:=hP
  exact kont l e W'' (hE.trans hE') h)
theorem En6 {W0:PW} {M:Nat→Prop} {l l':List Value} {x:Iv} {k:Nat} (h1:SpV 231 W0 l x) (h2:Ah6 231 W0 l' x) (hx:IvS k x) (hk:k≤100000000):
  Aa0 Tryz.prog 27 [.agg ⟨l⟩,.agg ⟨l'⟩] W0 M fun v W'=>v = .bool true∧True:=by
 obtain⟨s0,b0,t0,s1,b1,t1,rfl,h1,h1'⟩:=h1
 obtain⟨s2,b2,t2,s3,b3,t3,rfl,h2,h2'⟩:=h2
 apply Df9
 exact Bv1 h1 h2 hx.1 hx.1 hk fun W2 hE2 _=>⟨_,rfl,fun _=>Bv1 (h1'.ext hE2) (h2'.ext hE2) hx.2 hx.2 hk fun W5 hE5 _=>⟨_,rfl,fun W7 _=>⟨by rw[decide_eq_true rfl],trivial⟩⟩,fun e=>absurd e (by simp)⟩
theorem Bt3 {W0 W:PW} {M:Nat→Prop} {l l':List Value} {x:Iv} {k:Nat} {K:Value→PW→Prop} (h1:SpV 231 W l x) (h2:Ah6 231 W l' x) (hx:IvS k x) (hk:k≤100000000) (kont: ∀(W':PW),Ext W W'→(True)→K (.bool true) W'):
  Aa1 Tryz.prog W0 M 27 [.agg ⟨l⟩,.agg ⟨l'⟩] W K:=
 Aa2 (fun W' hE=>En6 (M:=fun _=>False) (h1.ext hE) (h2.ext hE) hx hk) (fun W' v W'' hE hE' hP=>by
  obtain⟨rfl,h⟩:=hP
  exact kont W'' (hE.trans hE') h)
theorem Es4 {W0:PW} {M:Nat→Prop} {a b:ByteArray} (ha:a.size≤1099511627776) (hb:b.size≤1099511627776):
  Aa0 Tryz.prog 79 [.agg ⟨[.string a,.string b]⟩] W0 M fun v W'=>∃(l:List Value),∃(l':List Value),∃(ok:Bool),∃(x:Iv),v = .tuple ⟨[.agg ⟨l⟩,.agg ⟨l'⟩,.bool ok]⟩∧SpV 231 W' l x∧Ah6 231 W' l' x∧(ok=true→spP a b=some x∧a.size≤60∧b.size≤60)∧(ok=false→x=(0,0)∧¬((spP a b).isSome=true∧a.size≤60∧b.size≤60)):=by
 apply Dh3
 have bad: ∀(W':PW),¬((spP a b).isSome=true∧a.size≤60∧b.size≤60)→∃(l:List Value) (l':List Value) (ok:Bool) (x:Iv),Value.tuple ⟨[.agg ⟨[.slice none 0 0,.bool false,.slice none 0 0,.slice none 0 0,.bool false,.slice none 0 0]⟩,.agg ⟨[.bool false,.slice none 0 0,.slice none 0 0,.bool false,.slice none 0 0,.slice none 0 0]⟩,.bool false]⟩ = .tuple ⟨[.agg ⟨l⟩,.agg ⟨l'⟩,.bool ok]⟩∧
   SpV 231 W' l x∧Ah6 231 W' l' x∧(ok=true→spP a b=some x∧a.size≤60∧b.size≤60)∧(ok=false→x=(0,0)∧¬((spP a b).isSome=true∧a.size≤60∧b.size≤60)):=
  fun W' hn=>⟨_,_,_,(0,0),rfl,SpV.zero W',Ah6.zero W',fun e=>(by cases e),fun _=>⟨rfl,hn⟩⟩
 refine Bh8 ha hb fun l e W2 hE2 ⟨h2,he⟩=>?_
 obtain⟨b3,s4,s5,b6,s7,s8,rfl,k1,k2⟩:=h2
 refine⟨b3,s4,s5,b6,s7,s8,e,rfl,fun hne W10 _=>bad W10 fun h=>hne (he.2 h.1),fun heq=>⟨fun h60 W11 _=>bad W11 fun h=>by omega,fun h60=>⟨fun h61 W12 _=>bad W12 fun h=>by omega,fun h61=>?_⟩⟩⟩
 obtain⟨x,hx⟩:=Option.isSome_iff_exists.1 (he.1 (Decidable.not_not.1 heq))
 rw[hx] at k1 k2
 refine Az3 ha hb fun l e' W14 hE14 ⟨h14,_⟩=>?_
 rw[hx] at h14
 obtain⟨s15,b16,s17,s18,b19,s20,rfl,q1,q2⟩:=h14
 refine⟨s15,b16,s17,s18,b19,s20,e',rfl,fun W22 hE22=>⟨_,_,_,x,rfl,SpV.mk (q1.ext hE22) (q2.ext hE22),Ah6.mk (k1.ext (hE14.trans hE22)) (k2.ext (hE14.trans hE22)),fun _=>⟨hx,by omega,by omega⟩,fun e=>(by cases e)⟩⟩
theorem Dd8 {W0 W:PW} {M:Nat→Prop} {a b:ByteArray} {K:Value→PW→Prop} (ha:a.size≤1099511627776) (hb:b.size≤1099511627776) (kont: ∀(l:List Value) (l':List Value) (ok:Bool) (x:Iv) (W':PW),Ext W W'→(SpV 231 W' l x∧Ah6 231 W' l' x∧(ok=true→spP a b=some x∧a.size≤60∧b.size≤60)∧(ok=false→x=(0,0)∧¬((spP a b).isSome=true∧a.size≤60∧b.size≤60)))→K (.tuple ⟨[.agg ⟨l⟩,.agg ⟨l'⟩,.bool ok]⟩) W'):
  Aa1 Tryz.prog W0 M 79 [.agg ⟨[.string a,.string b]⟩] W K:=
 Aa2 (fun W' hE=>Es4 (M:=fun _=>False) ha hb) (fun W' v W'' hE hE' hP=>by
  obtain⟨l,l',ok,x,rfl,h⟩:=hP
  exact kont l l' ok x W'' (hE.trans hE') h)
end Go.Proofs.YtokefihiadbkbaaGreatDoor
/- The reference's Mid, SpanSub, Meet, Three, Sides, Natural, Mean; cincturelaw9.told. -/
namespace Go.Proofs.YtokefihiadbkbaaGreatDoor
open Go Go.SX
theorem Hl7 {W0:PW} {M:Nat→Prop} {s sb:Sl} {p:List Tm} {bs:List Iv} {k:Nat} (h:Ag1 231 142 W0 s p) (hb:Fx4 231 W0 sb bs) (hk: ∀x∈bs,IvS k x) (hk2:k≤1048576) (hl:bs.length≤1048576) (hp:p.length≤1099511627776):
  Aa0 Tryz.prog 80 [s.v,sb.v] W0 M fun v W'=>v = .bool (decide (An3 p bs))∧True:=by
 apply Hf4
 have hn:=hb.n
 refine He1 hb hk hk2 hl fun W2 hE2 _=>⟨_,rfl,fun hr=>Gi0 (h.ext hE2) hp fun W5 hE5 _=>⟨_,rfl,fun W7 _=>⟨?_,trivial⟩⟩,fun hr W8 _=>⟨?_,trivial⟩⟩
 ·have hr:=of_decide_eq_true hr
  congr 1
  rw[decide_eq_decide,hn]
  exact⟨fun e=>⟨hr,e⟩,fun e=>e.2⟩
 ·have hr:=of_decide_eq_false hr
  rw[decide_eq_false (p:=An3 p bs) fun e=>hr e.1]
theorem Hc7 {W0 W:PW} {M:Nat→Prop} {s sb:Sl} {p:List Tm} {bs:List Iv} {k:Nat} {K:Value→PW→Prop} (h:Ag1 231 142 W s p) (hb:Fx4 231 W sb bs) (hk: ∀x∈bs,IvS k x) (hk2:k≤1048576) (hl:bs.length≤1048576) (hp:p.length≤1099511627776) (kont: ∀(W':PW),Ext W W'→(True)→K (.bool (decide (An3 p bs))) W'):
  Aa1 Tryz.prog W0 M 80 [s.v,sb.v] W K:=
 Aa2 (fun W' hE=>Hl7 (M:=fun _=>False) (h.ext hE) (hb.ext hE) hk hk2 hl hp) (fun W' v W'' hE hE' hP=>by
  obtain⟨rfl,h⟩:=hP
  exact kont W'' (hE.trans hE') h)
end Go.Proofs.YtokefihiadbkbaaGreatDoor
/- bern.At. -/
namespace Go.Proofs.YtokefihiadbkbaaGreatDoor
open Go Go.SX
def Je2 (n:Nat) (L:List PL) (_:PW):Nat:=match L with
 | [_,.val (.int .i64 z)]=>n-z.toNat
 | _=>0
end Go.Proofs.YtokefihiadbkbaaGreatDoor
/- bern.Range. -/
namespace Go.Proofs.YtokefihiadbkbaaGreatDoor
open Go Go.SX
theorem Jj3 {p:List Tm} {bs:List Iv} {k m:Nat} (hz:BxN k m p bs) (h:Ii7 p bs) {i:Nat} (hi:i<stN (Ie8 p bs.length) bs.length):Sz (k+1200000) (Jk3 p bs i):=by
 obtain⟨D,N,hfit,hD,k1,k2⟩:=hz.bd
 have z1:=hz.m1
 have hl:=Io1 p bs.length
 have hb:=h.1.1.1.2
 have hzb: ∀i,IvS (2*m+1) (Bm3 bs i):=fun i=>(hz.side i).sz
 obtain⟨D1,N1,f1,f2,f3,f4⟩:=Ir6 h.2.1 (Iq2 hfit p.length) hD k1 k2 hzb (by omega) bs.length (by omega)
 rw[hl] at f1
 have:bs.length*400000≤3*400000:=Nat.mul_le_mul_right _ hb
 exact(f1 i hi).sz f2 (by omega) (by omega)
def rgB (W0:PW) (F:Nat→Rat) (N:Nat) (L:List PL) (W:PW):Prop:=match L with
 | [.val (.int .i64 z),.cells l]=>∃j:Nat,z=(j:Int)∧j≤N∧Ext W0 W∧SpV 231 W l (Jo0 F j)
 | _=>False
def Jr6 (n:Nat) (L:List PL) (_:PW):Nat:=match L with
 | [.val (.int .i64 z),_]=>n-z.toNat
 | _=>0
theorem Jk0 (p:List Tm) (bs:List Iv):0<stN (Ie8 p bs.length) bs.length:=Ie2 _ _
theorem Jp3 {p:List Tm} {bs:List Iv} (h:Ii7 p bs):stN (Ie8 p bs.length) bs.length≤1419857:=Im9 h.2.1 (by have:=h.1.1.1.2;omega)
theorem Ji5 {W0:PW} {M:Nat→Prop} {s sb:Sl} {p:List Tm} {bs:List Iv} {k m:Nat} (h:Ab0 231 138 W0 s p) (hb:Bc3 231 W0 sb bs) (hz:BxN k m p bs) (hk:k≤100000):
  Aa0 Tryz.prog 25 [.agg ⟨[s.v]⟩,sb.v] W0 M fun v W'=>∃(l:List Value),v = .tuple ⟨[.agg ⟨l⟩,.bool (decide (Ii7 p bs))]⟩∧SpV 231 W' l (if Ii7 p bs then Jo0 (Jk3 p bs) (stN (Ie8 p bs.length) bs.length) else(0,0)):=by
 apply Jh4
 refine Ik5 h hb hz hk fun s3 W2 hE2 h2=>⟨s3,_,rfl,fun hno W5 hE5=>?_,fun hyes=>?_⟩
 ·have hno:¬Ii7 p bs:=by simpa using hno
  exact⟨_,by rw[decide_eq_false hno],by rw[if_neg hno];exact SpV.mk (x:=(0,0)) (s:=⟨none,0,0⟩) (t:=⟨none,0,0⟩) (s':=⟨none,0,0⟩) (t':=⟨none,0,0⟩) (Ar9 W5) (Ar9 W5)⟩
 ·have ok:Ii7 p bs:=by simpa using hyes
  rw[if_pos ok] at h2
  have hpos:=Jk0 p bs
  have hle:=Jp3 ok
  have hsz:=fun {i} hi=>Jj3 hz ok (i:=i) hi
  have h2:Gv6 231 42 W2 s3 (stN (Ie8 p bs.length) bs.length) (Jk3 p bs):=h2
  generalize stN (Ie8 p bs.length) bs.length=N at *
  generalize Jk3 p bs=F at *
  have hn:=h2.n
  obtain⟨s6,b7,s8,e6,g6⟩:=h2.at (i:=0) hpos
  refine⟨h2.inB (by omega) (by omega),s6,b7,s8,e6,De4 g6 fun l W10 hE10 h10=>h10.out fun s11 b12 s13 s14 b15 s16 h10=>?_⟩
  refine⟨rgB W10 F N,Jr6 N,⟨0,rfl,Nat.zero_le _,Ext.refl _,h10⟩,?_⟩
  rintro s19 b20 s21 s22 b23 s24 i25 W26 ⟨j,rfl,hj,hE26,hS⟩
  refine⟨fun hlt=>?_,fun hge W46 hE46=>⟨_,by rw[decide_eq_true ok],?_⟩⟩
  ·have hjN:j<N:=by omega
   have h26:=h2.ext (hE10.trans hE26)
   obtain⟨s27,b28,s29,e27,g27⟩:=h26.at hjN
   have z0:=Jl2 (hsz hpos) j fun i hi=>hsz (by omega)
   have z1:=hsz hjN
   refine⟨h26.inB (by omega) (by omega),s27,b28,s29,e27,De4 g27 fun l W31 hE31 h31=>h31.out fun s32 b33 s34 s35 b36 s37 h31=>?_⟩
   refine Cn9 (hS.ext hE31) h31 z0 ⟨z1,z1⟩ (by omega) fun l W39 hE39 h39=>h39.out fun s40 b41 s42 s43 b44 s45 h39=>⟨by unfold I64;omega,⟨j+1,by push_cast;rfl,by omega,hE26.trans (hE31.trans hE39),h39⟩,by show N-Int.toNat ((j:Int)+1)<N-Int.toNat (j:Int);omega⟩
  ·have:j=N:=by omega
   subst this
   rw[if_pos ok]
   exact hS.ext hE46
theorem Jh8 {W0 W:PW} {M:Nat→Prop} {s sb:Sl} {p:List Tm} {bs:List Iv} {k m:Nat} {K:Value→PW→Prop} (h:Ab0 231 138 W s p) (hb:Bc3 231 W sb bs) (hz:BxN k m p bs) (hk:k≤100000) (kont: ∀(l:List Value) (W':PW),Ext W W'→(SpV 231 W' l (if Ii7 p bs then Jo0 (Jk3 p bs) (stN (Ie8 p bs.length) bs.length) else(0,0)))→K (.tuple ⟨[.agg ⟨l⟩,.bool (decide (Ii7 p bs))]⟩) W'):
  Aa1 Tryz.prog W0 M 25 [.agg ⟨[s.v]⟩,sb.v] W K:=
 Aa2 (fun W' hE=>Ji5 (M:=fun _=>False) (h.ext hE) (hb.ext hE) hz hk) (fun W' v W'' hE hE' hP=>by
  obtain⟨l,rfl,h⟩:=hP
  exact kont l W'' (hE.trans hE') h)
theorem Jm7 {p:List Tm} {bs:List Iv} (h:Ii7 p bs):stN (Ie8 p bs.length) bs.length≤4913:=Nat.le_trans (Ja0 h.2.1 _) (Nat.le_trans (Nat.pow_le_pow_right (by decide) h.1.1.1.2) (by decide))
def tpI (W0:PW) (zs:List Int) (L:List PL) (W:PW):Prop:=match L with
 | [.row l,.val (.int .i64 z)]=>∃i:Nat,z=(i:Int)∧i≤zs.length∧Ext W0 W∧l=(zs.take i).map fun z=>[.int .i64 z]
 | _=>False
end Go.Proofs.YtokefihiadbkbaaGreatDoor
/- Layings of the library's generic functions, as the kit's command says them. -/
namespace Go.Proofs.YtokefihiadbkbaaGreatDoor
open Go Go.Shelf Go.Proofs
def Dm9:Go.Shelf.Ren:=⟨fun | 28=>220 | n=>n,fun | 27=>231 | 3=>3 | 4=>4 | 25=>80 | 53=>301 | 0=>0 | 5=>5 | n=>n,fun | 0=>1 | n=>n⟩
theorem Ff9:Go.Proofs.Lays7.n28 Tryz.prog Dm9 where
 mixed:=by kernel_rfl
 f28:=Tryz.func220.trans (congrArg some (by kernel_rfl))
 t0:=Tryz.underlying0
 a0:=Tryz.isAgg0
 z0:=Tryz.sizeOf0
 v0:=Tryz.zeroValue0
 i0:=by kernel_rfl
 t3:=Tryz.underlying3
 a3:=Tryz.isAgg3
 z3:=Tryz.sizeOf3
 v3:=Tryz.zeroValue3
 i3:=by kernel_rfl
 t4:=Tryz.underlying4
 a4:=Tryz.isAgg4
 z4:=Tryz.sizeOf4
 v4:=Tryz.zeroValue4
 i4:=by kernel_rfl
 t5:=Tryz.underlying5
 a5:=Tryz.isAgg5
 z5:=Tryz.sizeOf5
 v5:=Tryz.zeroValue5
 i5:=by kernel_rfl
 t25:=Tryz.underlying80
 a25:=Tryz.isAgg80
 z25:=Tryz.sizeOf80
 v25:=Tryz.zeroValue80
 i25:=by kernel_rfl
 t27:=Tryz.underlying231
 a27:=Tryz.isAgg231
 z27:=Tryz.sizeOf231
 v27:=Tryz.zeroValue231
 i27:=by kernel_rfl
 t53:=Tryz.underlying301
 a53:=Tryz.isAgg301
 z53:=Tryz.sizeOf301
 v53:=Tryz.zeroValue301
 i53:=by kernel_rfl
 g0:=by kernel_rfl
end Go.Proofs.YtokefihiadbkbaaGreatDoor
/- The table math/bits.deBruijn32tab in memory; math/bits.TrailingZeros32. -/
namespace Go.Proofs.YtokefihiadbkbaaGreatDoor
open Go Go.SX
def Ac6 (W:PW):Prop:=(∀j,j<32→W.w.cell? ⟨1,j,none⟩=some (.int .u8 ((Go.Lib.deBruijn32tab.getD j 0:Nat):Int)))∧1<W.w.heap.size∧¬W.S 1
theorem Ac6.ext {W W':PW} (h:Ac6 W) (hE:Ext W W'):Ac6 W':=by
 have hk:=hE.Ai1 _ h.2.1 h.2.2
 refine⟨fun j hj=>?_,Nat.lt_of_lt_of_le h.2.1 hE.size,hk.2⟩
 have:=h.1 j hj
 unfold World.cell? at this⊢
 dsimp only at this⊢
 rw[hk.1]
 exact this
theorem Fh2 {W0:PW} {M:Nat→Prop} {x:Nat} (hT:Ac6 W0) (hx:x<4294967296):
  Aa0 Tryz.prog 220 [.int .u32 (x:Int)] W0 M fun v W'=>v = .int .i64 ((Go.Lib.ctz 32 x:Nat):Int)∧True:=by
 refine⟨⟨_,Tryz.func220,by kernel_rfl,by kernel_rfl⟩,fun hS=>?_⟩
 have hcall:=Proofs.Any7.bits_TrailingZeros32 Ff9 x hx W0.w fun _ j hj=>hT.1 j hj
 change Calls Tryz.prog 220 _ _ _ at hcall
 refine Calls.mono hcall ?_
 rintro e w' ⟨rfl,rfl⟩
 exact⟨_,rfl,Am7.refl _ _,rfl,trivial⟩
theorem El3 {W0 W:PW} {M:Nat→Prop} {x:Nat} {K:Value→PW→Prop} (hT:Ac6 W) (hx:x<4294967296) (kont: ∀(W':PW),Ext W W'→(True)→K (.int .i64 ((Go.Lib.ctz 32 x:Nat):Int)) W'):
  Aa1 Tryz.prog W0 M 220 [.int .u32 (x:Int)] W K:=
 Aa2 (fun W' hE=>Fh2 (M:=fun _=>False) (hT.ext hE) hx) (fun W' v W'' hE hE' hP=>by
  obtain⟨rfl,h⟩:=hP
  exact kont W'' (hE.trans hE') h)
end Go.Proofs.YtokefihiadbkbaaGreatDoor
/- Arguments opened: what every kind of argument needs. -/
namespace Go.Proofs.YtokefihiadbkbaaGreatDoor
open Go Go.SX Go.ChangeShapes Go.WideShapes Go.ChangeAt Go.RowKit Go.Deep
theorem Cp9:ownKnob Tryz.prog.godebug=none:=by kernel_rfl
theorem laidOut:laidOutB Tryz.prog=true:=by kernel_rfl
theorem Ct5:Tryz.prog.cellsOf 9=1:=by kernel_rfl
theorem Cf4 {W:World} {b o:Nat} {v:Value} (h:W.cell? ⟨b,o,none⟩=some v): ∃cs t fz,W.heap[b]?=some (.cells cs t fz)∧cs[o]?=some v:=by
 unfold World.cell? at h
 cases e:W.heap[b]? with
 | none=>simp[e] at h
 | some ob=>
  cases ob with
  | cells cs t fz=>exact⟨cs,t,fz,rfl,by simpa[e] using h⟩
  | _=>simp[e] at h
theorem Ev9 {H:Type} (d:DataW H):1≤Rows.uptoBulk d:=by
 cases d with
 | lit l=>cases l<;>simp[Rows.uptoBulk]
 | nil=>simp[Rows.uptoBulk]
 | ptr d=>simp[Rows.uptoBulk]
 | slice elems spare=>simp[Rows.uptoBulk]
 | agg parts=>simp[Rows.uptoBulk]
 | iface t d=>simp[Rows.uptoBulk]
 | map entries=>simp[Rows.uptoBulk]
 | held h=>simp[Rows.uptoBulk]
theorem Eo6 {H:Type} {d:DataW H} {l:List (DataW H)} (h:d∈l):Rows.uptoBulk d≤Rows.uptoBulkAll l:=by
 induction l with
 | nil=>cases h
 | cons x r ih=>
  simp only[Rows.uptoBulkAll]
  cases List.mem_cons.1 h with
  | inl e=>subst e;omega
  | inr e=>have:=ih e;omega
theorem Dj1 {H:Type} (l:List (DataW H)):l.length≤Rows.uptoBulkAll l:=by
 induction l with
 | nil=>simp[Rows.uptoBulkAll]
 | cons x r ih=>have:=Ev9 x;simp only[Rows.uptoBulkAll,List.length_cons];omega
theorem Bz7 {W:World} {a:Addr} {n c sz:Nat} {V:Nat→List Value} (h: ∀j,j<n→∀i v,(V j)[i]?=some v→W.cell? (a.add (j*sz+i))=some v) (hV: ∀j,j<n→(V j).length=sz) (hsz:0<sz) (hn:n≤c) (hc:c≤maxLen) (h1: ∀j,j<n→∀u∈V j,u.oneCell'=true):
  Bf9 ⟨W,fun _=>False⟩ sz ⟨some a,n,c⟩ ((List.range n).map V):=by
 have hel: ∀x∈(List.range n).map V,x.length=sz∧∀u∈x,u.oneCell'=true:=by
  intro x hx
  obtain⟨j,hj,rfl⟩:=List.mem_map.1 hx
  exact⟨hV j (List.mem_range.1 hj),h1 j (List.mem_range.1 hj)⟩
 by_cases h0:n=0
 ·subst h0
  exact⟨0,rfl,Nat.zero_le _,hc,hel,.inl rfl⟩
 ·obtain⟨b,off,sp⟩:=a
  have hlen0:=hV 0 (by omega)
  obtain⟨v0,hv0⟩: ∃v,(V 0)[0]?=some v:=⟨_,List.getElem?_eq_getElem (by omega)⟩
  have hc0:=h 0 (by omega) 0 v0 hv0
  have hsp:sp=none:=by simpa[Addr.add] using World.cell?_spot hc0
  subst hsp
  obtain⟨cs,t,fz,hh,_⟩:=Cf4 (by rw[←add_plain];exact hc0)
  refine⟨t,by simp,hn,hc,hel,.inr ⟨b,off,cs,fz,rfl,id,hh,fun j v hj=>?_⟩⟩
  have hjl:=(List.getElem?_eq_some_iff.1 hj).1
  rw[Ac0 (sz:=sz) (fun x hx=>(hel x hx).1)] at hjl
  simp only[List.length_map,List.length_range] at hjl
  have hi:j/sz<n:=(Nat.div_lt_iff_lt_mul hsz).2 hjl
  have hm:j%sz<sz:=Nat.mod_lt _ hsz
  have e:j/sz*sz+j%sz=j:=by rw[Nat.mul_comm];exact Nat.div_add_mod j sz
  have hx:((List.range n).map V)[j/sz]?=some (V (j/sz)):=by simp[hi]
  have hl:=hV _ hi
  have hf:=Ao8 (sz:=sz) (fun x hx=>(hel x hx).1) hx (j:=j%sz) (v:=(V (j/sz))[j%sz]'(by omega)) (List.getElem?_eq_getElem (by omega))
  rw[e,hj] at hf
  have hcell:=h _ hi (j%sz) v (by rw[hf];exact List.getElem?_eq_getElem (by omega))
  rw[e,add_plain] at hcell
  obtain⟨cs',t',fz',hh',hv⟩:=Cf4 hcell
  rw[hh] at hh'
  cases hh'
  exact hv
end Go.Proofs.YtokefihiadbkbaaGreatDoor
/- Arguments of pairs of texts, opened. -/
namespace Go.Proofs.YtokefihiadbkbaaGreatDoor
open Go Go.SX Go.ChangeShapes Go.WideShapes Go.ChangeAt Go.RowKit Go.Deep
theorem Cf7:Tryz.prog.cellsOf 131=2:=by kernel_rfl
theorem open_pair {H:Type} {enc:TypeId×Value→H} {W:World} {fuel:Nat} {cs:List Value} {x:DataW H×List MemPlace} (h:DataW.trod enc Tryz.prog W 0 (fun _=>true) true fuel 131 cs=some x):
  ∃a b:ByteArray,cs = [.string a,.string b]∧a.size≤Rows.uptoBulk x.1∧b.size≤Rows.uptoBulk x.1:=by
 obtain⟨xs,k,rfl,rfl,hl,hxl,hf⟩:=DataW.trod_struct Tryz.underlying131 h
 rw[Cf7] at hl
 have g0:DataW.trod enc Tryz.prog W 0 (fun _=>true) true k 9 ((cs.drop 0).take (Tryz.prog.cellsOf 9))=xs[0]?:=hf 0 _ rfl
 have g1:DataW.trod enc Tryz.prog W 0 (fun _=>true) true k 9 ((cs.drop 1).take (Tryz.prog.cellsOf 9))=xs[1]?:=hf 1 _ rfl
 rw[Ct5] at g0 g1
 match cs,hl,xs,hxl with
 | [v0,v1],_,[y0,y1],_=>
  have g0:DataW.trod enc Tryz.prog W 0 (fun _=>true) true k 9 [v0]=some y0:=g0
  have g1:DataW.trod enc Tryz.prog W 0 (fun _=>true) true k 9 [v1]=some y1:=g1
  obtain⟨s0,h0,rfl,_⟩:=DataW.trod_string Tryz.underlying9 g0
  obtain⟨s1,h1,rfl,_⟩:=DataW.trod_string Tryz.underlying9 g1
  have k0:v0=Value.string s0:=(List.cons.inj (show[v0] = [Value.string s0] from h0)).1
  have k1:v1=Value.string s1:=(List.cons.inj (show[v1] = [Value.string s1] from h1)).1
  subst k0 k1
  refine⟨s0,s1,rfl,?_⟩
  have e0:s0.data.toList.length=s0.size:=by rw[Array.length_toList];rfl
  have e1:s1.data.toList.length=s1.size:=by rw[Array.length_toList];rfl
  simp only[List.map_cons,List.map_nil,Rows.uptoBulk,Rows.uptoBulkAll]
  omega
def prc (t:ByteArray×ByteArray):List Value:=[.string t.1,.string t.2]
def Bs7 (W:PW) (s:Sl) (L:List (ByteArray×ByteArray)):Prop:=Bf9 W 2 s (L.map prc)
theorem Gc9 {H:Type} {enc:TypeId×Value→H} {W:World} {fuel:Nat} {v:Value} {d:DataW H} {p:List MemPlace} (h:DataW.trod enc Tryz.prog W 0 (fun _=>true) true fuel 23 [v]=some (d,p)):
  ∃(s:Sl) (L:List (ByteArray×ByteArray)),v=s.v∧Bs7 ⟨W,fun _=>False⟩ s L∧L.length≤Rows.uptoBulk d∧∀t∈L,t.1.size≤Rows.uptoBulk d∧t.2.size≤Rows.uptoBulk d:=by
 rcases open_slice Tryz.underlying23 h with⟨hcs,hx⟩ | ⟨a,len,cap,m,n,D,Pl,hcs,_,hl,hm,hmm,hx,hcell⟩
 ·have hv:v = .slice none 0 0:=by simpa using hcs
  subst hv
  exact⟨⟨none,0,0⟩,[],rfl,⟨0,rfl,Nat.le_refl _,Nat.zero_le _,fun x h=>by simp at h,.inl rfl⟩,Nat.zero_le _,fun l h=>by simp at h⟩
 ·have hv:v = .slice (some a) len cap:=by simpa using hcs
  subst hv
  simp only[if_true] at hmm
  subst hmm
  simp only[Prod.mk.injEq] at hx
  obtain⟨rfl,_⟩:=hx
  rw[Cf7] at hcell
  obtain⟨q,hq⟩: ∃q:Nat→ByteArray×ByteArray,∀i,i<m→W.cells? 0 (a.add (i*2)) 2=some (prc (q i))∧(q i).1.size≤Rows.uptoBulk (D i)∧(q i).2.size≤Rows.uptoBulk (D i):=by
   have:Inhabited (ByteArray×ByteArray):=⟨(⟨#[]⟩,⟨#[]⟩)⟩
   refine choose_lt (α:=ByteArray×ByteArray) (p:=fun i q=>W.cells? 0 (a.add (i*2)) 2=some (prc q)∧q.1.size≤Rows.uptoBulk (D i)∧q.2.size≤Rows.uptoBulk (D i)) fun i hi=>?_
   obtain⟨cs',h1,h2⟩:=hcell i hi
   obtain⟨x,y,rfl,h3,h4⟩:=open_pair h2
   exact⟨(x,y),h1,h3,h4⟩
  have hr:=Bz7 (W:=W) (a:=a) (n:=len) (c:=m) (sz:=2) (V:=fun i=>prc (q i)) (fun j hj i v hv=>by
   obtain⟨_,hlen,hc⟩:=World.cells?_some (hq j (by omega)).1
   have hi:i<2:=by have:=(List.getElem?_eq_some_iff.1 hv).1;omega
   have:=hc i hi
   rw[add_add] at this
   rw[this];exact hv) (fun j hj=>rfl) (by omega) hl hm (fun j hj u hu=>by
   simp only[prc,List.mem_cons,List.not_mem_nil,or_false] at hu
   rcases hu with rfl | rfl<;>rfl)
  have hbulk: ∀i,i<len→Rows.uptoBulk (D i)≤Rows.uptoBulkAll ((List.range len).map D):=fun i hi=>Eo6 (List.mem_map.2 ⟨i,List.mem_range.2 hi,rfl⟩)
  have hlen:=Dj1 ((List.range len).map D)
  simp only[List.length_map,List.length_range] at hlen
  refine⟨⟨some a,len,m⟩,(List.range len).map q,rfl,?_,?_,fun t ht=>?_⟩
  ·unfold Bs7
   rw[List.map_map]
   exact hr
  ·simp only[List.length_map,List.length_range,Rows.uptoBulk]
   omega
  ·obtain⟨j,hj,rfl⟩:=List.mem_map.1 ht
   have hj':=List.mem_range.1 hj
   have h1:=hbulk j hj'
   have h2:=(hq j (by omega)).2
   simp only[Rows.uptoBulk]
   omega
end Go.Proofs.YtokefihiadbkbaaGreatDoor
/- nat.Zeros, dyad.Of, box.Parse; the reference's; cincturelaw6.Of. What the dyads are is left open: only that the texts that are taken are the sides. -/
namespace Go.Proofs.YtokefihiadbkbaaGreatDoor
open Go Go.SX
theorem Fl1 (h:0<(dg 1).length):(dg 1)[0]=1:=by
 have e:dg 1 = [1]:=by rw[Bk2 (by decide),show 1/B=0 by decide,Ae8];rfl
 simp[e]
theorem Dk9 {W0:PW} {M:Nat→Prop} {s:Sl} {x:Nat} (hT:Ac6 W0) (h:Aa6 231 W0 s x) (hx:nl x≤30000):
  Aa0 Tryz.prog 209 [.agg ⟨[s.v]⟩] W0 M fun v W'=>∃(i:Int),v = .int .i64 i∧(0≤i∧i≤960032)∧(x=1→i=0):=by
 apply Bi6
 have hn:=h.n
 refine⟨fun L W=>match L with | [.val (.int .i64 z)]=>∃j:Nat,z=(j:Int)∧j≤nl x∧Ext W0 W∧(x=1→j=0) | _=>False,(fun L _=>match L with | [.val (.int .i64 z)]=>nl x-z.toNat | _=>0),⟨0,rfl,Nat.zero_le _,Ext.refl _,fun _=>rfl⟩,?_⟩
 rintro i3 W4 ⟨j,rfl,hj,hE4,hone⟩
 refine⟨fun hlt=>?_,fun hge W10 _=>⟨0,rfl,⟨by omega,by omega⟩,fun _=>rfl⟩⟩
 have hjl:j<nl x:=by omega
 have h4:=h.ext hE4
 have hll:(dg x).length=nl x:=rfl
 have hd:(dg x)[j]<4294967296:=Ad8 x _ (List.getElem_mem (l:=dg x) (n:=j) hjl)
 have hd1:x=1→(dg x)[j]=1:=fun e=>by
  have:=hone e
  subst this
  subst e
  exact Fl1 _
 refine⟨Ad4.inB h4 (by omega) (by omega),_,Ad4.at h4 hjl,fun hne=>⟨by unfold I64;omega,?_⟩,fun heq=>⟨by unfold I64;omega,⟨j+1,by push_cast;rfl,by omega,hE4,fun e=>by have:=hd1 e;omega⟩,?_⟩⟩
 ·refine El3 (hT.ext hE4) hd fun W7 hE7 _=>⟨_,rfl,?_⟩
  have hc:Go.Lib.ctz 32 (dg x)[j]≤32:=by
   by_cases h0:(dg x)[j]=0
   ·unfold Go.Lib.ctz;rw[if_pos h0];exact Nat.le_refl _
   ·exact Nat.le_of_lt (Go.Lib.lowest_bit 32 _ h0 hd).2
  refine⟨by unfold I64;omega,fun W9 hE9=>⟨_,rfl,⟨by omega,by omega⟩,fun e=>?_⟩⟩
  have c:Go.Lib.ctz 32 (dg x)[j]=0:=by rw[hd1 e];decide
  have:=hone e
  omega
 ·show nl x-Int.toNat ((j:Int)+1)<nl x-Int.toNat (j:Int)
  omega
theorem At1 {W0 W:PW} {M:Nat→Prop} {s:Sl} {x:Nat} {K:Value→PW→Prop} (hT:Ac6 W) (h:Aa6 231 W s x) (hx:nl x≤30000) (kont: ∀(i:Int) (W':PW),Ext W W'→((0≤i∧i≤960032)∧(x=1→i=0))→K (.int .i64 i) W'):
  Aa1 Tryz.prog W0 M 209 [.agg ⟨[s.v]⟩] W K:=
 Aa2 (fun W' hE=>Dk9 (M:=fun _=>False) (hT.ext hE) (h.ext hE) hx) (fun W' v W'' hE hE' hP=>by
  obtain⟨i,rfl,h⟩:=hP
  exact kont i W'' (hE.trans hE') h)
theorem En5 {W0:PW} {M:Nat→Prop} {s t:Sl} {b:Bool} {q:Rat} (h:Ab3 231 W0 s b t q):
  Aa0 Tryz.prog 211 [.agg ⟨[s.v,.bool b,t.v]⟩] W0 M fun v W'=>v = .agg ⟨[Sl.v s,.bool b]⟩∧True:=by
 apply Bs9
 exact fun W1 _=>⟨rfl,trivial⟩
theorem De2 {W0 W:PW} {M:Nat→Prop} {s t:Sl} {b:Bool} {q:Rat} {K:Value→PW→Prop} (h:Ab3 231 W s b t q) (kont: ∀(W':PW),Ext W W'→(True)→K (.agg ⟨[Sl.v s,.bool b]⟩) W'):
  Aa1 Tryz.prog W0 M 211 [.agg ⟨[s.v,.bool b,t.v]⟩] W K:=
 Aa2 (fun W' hE=>En5 (M:=fun _=>False) (h.ext hE)) (fun W' v W'' hE hE' hP=>by
  obtain⟨rfl,h⟩:=hP
  exact kont W'' (hE.trans hE') h)
theorem Eb2 {W0:PW} {M:Nat→Prop} {s:Sl} {b:Bool} {z e:Int} (hT:Ac6 W0) (h:Ab5 231 W0 s b z) (hz:nl z.natAbs≤30000) (he: -10000000≤e∧e≤10000000):
  Aa0 Tryz.prog 210 [.agg ⟨[s.v,.bool b]⟩,.int .i64 e] W0 M fun v W'=>∃(s':Sl),∃(b':Bool),∃(i:Int),v = .agg ⟨[Sl.v s',.bool b',.int .i64 i]⟩∧True:=by
 apply Da4
 refine Ai5 h (by omega) fun W2 hE2 _=>⟨_,rfl,fun _ W4 _=>⟨⟨none,0,0⟩,false,0,rfl,trivial⟩,fun _=>?_⟩
 refine Ag5 (h.ext hE2) fun s7 W6 hE6 h6=>⟨s7,rfl,?_⟩
 refine At1 (hT.ext (hE2.trans hE6)) h6 hz fun i10 W9 hE9 ⟨hi,_⟩=>⟨i10,rfl,by unfold I64;omega,?_⟩
 have E9:=hE2.trans (hE6.trans hE9)
 refine Ai5 (h.ext E9) (by omega) fun W12 hE12 _=>⟨_,rfl,?_⟩
 refine Ag5 (h.ext (E9.trans hE12)) fun s16 W15 hE15 h15=>⟨s16,rfl,?_⟩
 obtain⟨k,rfl⟩:=Int.eq_ofNat_of_zero_le hi.1
 refine Br2 h15 (by omega) (by omega) fun s19 W18 hE18 h18=>⟨s19,rfl,?_⟩
 have hsh:nl (z.natAbs/2^k)≤30000:=Nat.le_trans (Ad1 (Nat.div_le_self _ _)) hz
 refine Ad6 h18 (by omega) fun s22 b23 W21 hE21 h21=>⟨s22,b23,rfl,fun W24 _=>⟨s22,b23,_,rfl,trivial⟩⟩
theorem Cu2 {W0 W:PW} {M:Nat→Prop} {s:Sl} {b:Bool} {z e:Int} {K:Value→PW→Prop} (hT:Ac6 W) (h:Ab5 231 W s b z) (hz:nl z.natAbs≤30000) (he: -10000000≤e∧e≤10000000) (kont: ∀(s':Sl) (b':Bool) (i:Int) (W':PW),Ext W W'→(True)→K (.agg ⟨[Sl.v s',.bool b',.int .i64 i]⟩) W'):
  Aa1 Tryz.prog W0 M 210 [.agg ⟨[s.v,.bool b]⟩,.int .i64 e] W K:=
 Aa2 (fun W' hE=>Eb2 (M:=fun _=>False) (hT.ext hE) (h.ext hE) hz he) (fun W' v W'' hE hE' hP=>by
  obtain⟨s',b',i,rfl,h⟩:=hP
  exact kont s' b' i W'' (hE.trans hE') h)
theorem Ej8 {W0:PW} {M:Nat→Prop} {s t:Sl} {b:Bool} {q:Rat} (hT:Ac6 W0) (h:Ab3 231 W0 s b t q) (hq:Sz 4000 q):
  Aa0 Tryz.prog 182 [.agg ⟨[s.v,.bool b,t.v]⟩] W0 M fun v W'=>∃(s':Sl),∃(b':Bool),∃(i:Int),∃(ok:Bool),v = .tuple ⟨[.agg ⟨[Sl.v s',.bool b',.int .i64 i]⟩,.bool ok]⟩∧(q.den=1→ok=true):=by
 apply Dg7
 have hd:nl q.den≤4000:=hq.2
 refine Bc0 h hq (by omega) fun s3 b4 W2 hE2 h2=>⟨s3,b4,rfl,?_⟩
 refine Ag5 h2 fun s7 W6 hE6 h6=>⟨s7,rfl,?_⟩
 rw[Int.natAbs_natCast] at h6
 have E6:=hE2.trans hE6
 refine At1 (hT.ext E6) h6 (by omega) fun i10 W9 hE9 ⟨hi,hi1⟩=>⟨i10,rfl,?_⟩
 refine Ac9 (h6.ext hE9) (by omega) fun W12 hE12 _=>⟨_,rfl,?_⟩
 have hbl:=Dm3 q.den
 refine⟨by unfold I64;omega,fun hne W14 _=>⟨⟨none,0,0⟩,false,0,false,rfl,fun e=>absurd (by rw[hi1 e,e];decide) hne⟩,fun _=>?_⟩
 have E12:=E6.trans (hE9.trans hE12)
 refine De2 (h.ext E12) fun W16 hE16 _=>⟨s,b,rfl,?_⟩
 refine At1 (hT.ext (E12.trans hE16)) (h6.ext (hE9.trans (hE12.trans hE16))) (by omega) fun i21 W20 hE20 ⟨hi2,_⟩=>⟨i21,rfl,by unfold I64;omega,?_⟩
 refine Cu2 (hT.ext (E12.trans (hE16.trans hE20))) (h.ext (E12.trans (hE16.trans hE20))).1 (by have:=hq.1;omega) (by omega) fun s24 b25 i26 W23 hE23 _=>⟨s24,b25,i26,rfl,fun W27 _=>⟨s24,b25,i26,true,rfl,fun _=>rfl⟩⟩
theorem Bx3 {W0 W:PW} {M:Nat→Prop} {s t:Sl} {b:Bool} {q:Rat} {K:Value→PW→Prop} (hT:Ac6 W) (h:Ab3 231 W s b t q) (hq:Sz 4000 q) (kont: ∀(s':Sl) (b':Bool) (i:Int) (ok:Bool) (W':PW),Ext W W'→((q.den=1→ok=true))→K (.tuple ⟨[.agg ⟨[Sl.v s',.bool b',.int .i64 i]⟩,.bool ok]⟩) W'):
  Aa1 Tryz.prog W0 M 182 [.agg ⟨[s.v,.bool b,t.v]⟩] W K:=
 Aa2 (fun W' hE=>Ej8 (M:=fun _=>False) (hT.ext hE) (h.ext hE) hq) (fun W' v W'' hE hE' hP=>by
  obtain⟨s',b',i,ok,rfl,h⟩:=hP
  exact kont s' b' i ok W'' (hE.trans hE') h)
end Go.Proofs.YtokefihiadbkbaaGreatDoor
