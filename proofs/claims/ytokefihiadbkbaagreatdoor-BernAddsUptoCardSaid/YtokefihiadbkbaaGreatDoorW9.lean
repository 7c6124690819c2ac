/- The reference's intervals; cincturelaw5.Is, Of; span.Parse. -/
import Derived.Test.YtokefihiadbkbaaGreatDoorW8
import Derived.Test.YtokefihiadbkbaaGreatDoorW6
import Derived.Test.YtokefihiadbkbaaGreatDoorLib4
import Derived.Test.YtokefihiadbkbaaGreatDoorR14
import Derived.Test.YtokefihiadbkbaaGreatDoorW7
import Derived.Test.YtokefihiadbkbaaGreatDoorLib3
import Derived.Test.YtokefihiadbkbaaGreatDoorR12
import Derived.Test.YtokefihiadbkbaaGreatDoorR10
set_option linter.unusedVariables false
set_option linter.unusedSimpArgs false
set_option maxRecDepth 100000
namespace Go.Proofs.YtokefihiadbkbaaGreatDoor
open Go Go.SX
end Go.Proofs.YtokefihiadbkbaaGreatDoor
/- bound.Over, cinctureref1.Over. -/
namespace Go.Proofs.YtokefihiadbkbaaGreatDoor
open Go Go.SX
end Go.Proofs.YtokefihiadbkbaaGreatDoor
/- Exponents up to a bound; products that fit. -/
namespace Go.Proofs.YtokefihiadbkbaaGreatDoor
open Go Go.SX
theorem Bp6.exp {L:List (Mon×ByteArray)} {p:List Tm} {most e:Int} (h:Bp6 L most e) (hp:Af1 L p): ∀t∈p,t.1.x≤e∧t.1.y≤e∧t.1.z≤e:=fun t ht=>by
 obtain⟨u,hu,h1,_⟩:=Fa5 hp.1 ht
 have:=(h.2 u hu).2
 rw[h1]
 exact this
def Gk4 (e:Int) (p:List Tm):Prop:=∀t∈p,t.1.ok∧t.1.x≤e∧t.1.y≤e∧t.1.z≤e
theorem Ff1.exp {L:List (Mon×ByteArray)} {p:List Tm} {e:Int} (h:Ff1 L e p) (ho:POk p):Gk4 e p:=fun t ht=>⟨ho t ht,h.2.exp h.1 t ht⟩
theorem Gk4.norm {e:Int} {p:List Tm} (h:Gk4 e p):Gk4 e (Ag2 p):=fun t ht=>by
 obtain⟨u,hu,h1⟩:=Gu2 ht
 rw[h1]
 exact h u hu
end Go.Proofs.YtokefihiadbkbaaGreatDoor
/- poly.Same. -/
namespace Go.Proofs.YtokefihiadbkbaaGreatDoor
open Go Go.SX
end Go.Proofs.YtokefihiadbkbaaGreatDoor
/- cinctureref1: PolyAdd, PolyScale, PolySub, Var, Const, PolySame. -/
namespace Go.Proofs.YtokefihiadbkbaaGreatDoor
open Go Go.SX
theorem Jv6 {W0:PW} {M:Nat→Prop} {sp sq:Sl} {p q:List Tm} {k:Nat} (h1:Ag1 231 142 W0 sp p) (h2:Ag1 231 142 W0 sq q) (g1:Av6 p) (b1:Bd k p) (b2:Bd k q) (hk:k≤40000000) (hp:p.length≤536870912) (hq:q.length≤536870912):
  Aa0 Tryz.prog 15 [sp.v,sq.v] W0 M fun v W'=>∃(s':Sl),v=Sl.v s'∧Ag1 231 142 W' s' (Ag2 (p ++ q)):=by
 apply Jv1
 have n2:=h2.n
 refine⟨fun L W=>match L with
  | [.val (.slice A n c),.val (.int .i64 i)]=>∃j:Nat,i=(j:Int)∧j≤q.length∧Ext W0 W∧Ag1 231 142 W ⟨A,n,c⟩ (Ag2 (p ++ q.take j))
  | _=>False,cnL q.length,⟨0,rfl,by omega,Ext.refl _,by rw[List.take_zero,List.append_nil,Jw8 g1];exact h1⟩,?_⟩
 rintro s3 i4 W5 ⟨j,rfl,hj,hE5,hp5⟩
 have hp5:Ag1 231 142 W5 s3 (Ag2 (p ++ q.take j)):=hp5
 refine⟨fun hlt=>?_,fun hge W15 hE15=>⟨s3,rfl,?_⟩⟩
 ·have hjl:j<q.length:=by omega
  obtain⟨h0,c1,s1,s2,e1,_,_,hr⟩:=(h2.ext hE5).at (List.getElem?_eq_getElem hjl)
  have hlen:=El2 (p ++ q.take j)
  rw[List.length_append,List.length_take] at hlen
  refine⟨(h2.ext hE5).inB (by omega) (by omega),_,_,_,c1,s1,s2,e1,Hd1 (m:=q[j].1) hp5 hr h0 ((b1.append (b2.take j)).norm.sz) ((b2.sz _ (List.getElem_mem hjl)).mono (by omega)) (by omega) (by omega) fun s' W13 hE13 h13=>⟨s',rfl,by unfold I64;omega,⟨j+1,by push_cast;rfl,by omega,hE5.trans hE13,?_⟩,?_⟩⟩
  ·rw[Ce0 hjl,←List.append_assoc,Hn2]
   exact h13
  ·show q.length-Int.toNat ((j:Int)+1)<q.length-Int.toNat (j:Int)
   omega
 ·have:j=q.length:=by omega
  subst this
  rw[List.take_length] at hp5
  exact hp5.ext hE15
theorem Jv3 {W0 W:PW} {M:Nat→Prop} {sp sq:Sl} {p q:List Tm} {k:Nat} {K:Value→PW→Prop} (h1:Ag1 231 142 W sp p) (h2:Ag1 231 142 W sq q) (g1:Av6 p) (b1:Bd k p) (b2:Bd k q) (hk:k≤40000000) (hp:p.length≤536870912) (hq:q.length≤536870912) (kont: ∀(s':Sl) (W':PW),Ext W W'→(Ag1 231 142 W' s' (Ag2 (p ++ q)))→K (Sl.v s') W'):
  Aa1 Tryz.prog W0 M 15 [sp.v,sq.v] W K:=
 Aa2 (fun W' hE=>Jv6 (M:=fun _=>False) (h1.ext hE) (h2.ext hE) g1 b1 b2 hk hp hq) (fun W' v W'' hE hE' hP=>by
  obtain⟨s',rfl,h⟩:=hP
  exact kont s' W'' (hE.trans hE') h)
end Go.Proofs.YtokefihiadbkbaaGreatDoor
/- cinctureref1.PolyMul. -/
namespace Go.Proofs.YtokefihiadbkbaaGreatDoor
open Go Go.SX
end Go.Proofs.YtokefihiadbkbaaGreatDoor
/- poly.Compose, cinctureref1.Compose. -/
namespace Go.Proofs.YtokefihiadbkbaaGreatDoor
open Go Go.SX
end Go.Proofs.YtokefihiadbkbaaGreatDoor
/- box.Right, gram.side, gram.Sum, and the reference's. -/
namespace Go.Proofs.YtokefihiadbkbaaGreatDoor
open Go Go.SX
def brI (W0:PW) (bs:List Iv) (L:List PL) (W:PW):Prop:=match L with
 | [.val (.int .i64 i)]=>∃j:Nat,i=(j:Int)∧j≤bs.length∧Ext W0 W∧∀x∈bs.take j,x.1<x.2
 | _=>False
theorem Ey3 {bs:List Iv} {j:Nat} (hj:j<bs.length) (h: ∀x∈bs.take j,x.1<x.2) (h2:bs[j].1<bs[j].2): ∀x∈bs.take (j+1),x.1<x.2:=fun x hx=>by
 rw[List.take_succ_eq_append_getElem hj,List.mem_append,List.mem_singleton] at hx
 rcases hx with hx | rfl
 ·exact h x hx
 ·exact h2
theorem Dk1 {W0:PW} {M:Nat→Prop} {s:Sl} {bs:List Iv} {k:Nat} (h:Bc3 231 W0 s bs) (hk: ∀x∈bs,IvS k x) (hk2:k≤1048576) (hl:bs.length≤1048576):
  Aa0 Tryz.prog 108 [s.v] W0 M fun v W'=>v = .bool (decide (Cn7 bs))∧True:=by
 apply Ck4
 have hn:=h.n
 refine⟨brI W0 bs,cn1 bs.length,⟨0,rfl,Nat.zero_le _,Ext.refl _,fun x hx=>(by cases hx)⟩,?_⟩
 rintro i3 W4 ⟨j,rfl,hj,hE4,hall⟩
 have h4:=Bc3.ext h hE4
 refine⟨fun hlt=>?_,fun hge=>?_⟩
 ·have hjl:j<bs.length:=by omega
  obtain⟨x,hx,hel⟩:=h4.at hjl
  obtain⟨s5,b6,s7,s8,b9,s10,rfl,q1,q2⟩:=hx
  have hz:=hk _ (List.getElem_mem hjl)
  refine⟨h4.inB (by omega) (by omega),s5,b6,s7,s8,b9,s10,hel 0 rfl,Aj2 q1 q2 hz.1 hz.2 (by omega) (by omega) fun W12 hE12 _=>⟨_,rfl,fun h0 W14 _=>⟨?_,trivial⟩,fun h0=>⟨by unfold I64;omega,⟨j+1,by push_cast;rfl,by omega,hE4.trans hE12,Ey3 hjl hall (At6.1 (by omega))⟩,?_⟩⟩⟩
  ·rw[decide_eq_false fun e=>Rat.not_lt.2 (El9.1 h0) (e.2 _ (List.getElem_mem hjl))]
  ·show bs.length-Int.toNat ((j:Int)+1)<bs.length-Int.toNat (j:Int)
   omega
 ·have:j=bs.length:=by omega
  subst this
  rw[List.take_length] at hall
  refine⟨fun h1 W15 _=>⟨?_,trivial⟩,fun h1 W16 _=>⟨?_,trivial⟩⟩
  ·congr 1
   rw[decide_eq_decide]
   exact⟨fun h=>⟨⟨by omega,by omega⟩,hall⟩,fun h=>by have:=h.1.2;omega⟩
  ·rw[decide_eq_false fun e=>by have:=e.1.1;omega]
theorem Cm2 {W0 W:PW} {M:Nat→Prop} {s:Sl} {bs:List Iv} {k:Nat} {K:Value→PW→Prop} (h:Bc3 231 W s bs) (hk: ∀x∈bs,IvS k x) (hk2:k≤1048576) (hl:bs.length≤1048576) (kont: ∀(W':PW),Ext W W'→(True)→K (.bool (decide (Cn7 bs))) W'):
  Aa1 Tryz.prog W0 M 108 [s.v] W K:=
 Aa2 (fun W' hE=>Dk1 (M:=fun _=>False) (h.ext hE) hk hk2 hl) (fun W' v W'' hE hE' hP=>by
  obtain⟨rfl,h⟩:=hP
  exact kont W'' (hE.trans hE') h)
def Fj5 (l:List SqP) (bs:List Iv):Prop:=Cn7 bs∧∀s∈l,0≤s.g∧s.g≤(bs.length:Int)
instance (l:List SqP) (bs:List Iv):Decidable (Fj5 l bs):=by unfold Fj5;infer_instance
end Go.Proofs.YtokefihiadbkbaaGreatDoor
/- poly.Diff, cinctureref1.Diff; cincturelaw8.PolyDiffs. -/
namespace Go.Proofs.YtokefihiadbkbaaGreatDoor
open Go Go.SX
theorem Hq5 (m:Mon) {k:Nat} (hk:k<3) (r:List Value):As9 (.int .u8 m.x :: .int .u8 m.y :: .int .u8 m.z :: r) (0+Int.toNat (k:Int)*1+0) [.int .u8 (An6 m k)]:=by
 rcases(by omega:k=0∨k=1∨k=2) with rfl | rfl | rfl<;>exact⟨by simp,rfl⟩
end Go.Proofs.YtokefihiadbkbaaGreatDoor
