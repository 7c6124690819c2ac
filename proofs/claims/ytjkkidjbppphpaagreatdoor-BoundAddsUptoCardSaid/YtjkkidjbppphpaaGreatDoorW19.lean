/- A polynomial's value is that at another point, and slopes times how far they are apart: plain law. -/
import Derived.Test.YtjkkidjbppphpaaGreatDoorW17
import Derived.Test.YtjkkidjbppphpaaGreatDoorW18
import Derived.Test.YtjkkidjbppphpaaGreatDoorLib5
import Derived.Test.YtjkkidjbppphpaaGreatDoorW15
import Derived.Test.YtjkkidjbppphpaaGreatDoorR17
import Derived.Test.YtjkkidjbppphpaaGreatDoorR18
set_option linter.unusedVariables false
set_option linter.unusedSimpArgs false
set_option maxRecDepth 100000
namespace Go.Proofs.YtjkkidjbppphpaaGreatDoor
open Go Go.SX
end Go.Proofs.YtjkkidjbppphpaaGreatDoor
/- span.Sub, Mid, Within, Same, Meet; box.Mid; bound.Sides, three, Natural, Mean, Best. -/
namespace Go.Proofs.YtjkkidjbppphpaaGreatDoor
open Go Go.SX
instance (x y:Iv):Decidable (Ft1 x y):=by unfold Ft1;infer_instance
theorem Fz5 {W0:PW} {M:Nat→Prop} {l1 l2:List Value} {x y:Iv} {k:Nat} (h1:SpV 284 W0 l1 x) (h2:SpV 284 W0 l2 y) (hx:IvS k x) (hy:IvS k y) (hk:k≤8589934592):
  Aa0 Tryz.prog 27 [.agg ⟨l1⟩,.agg ⟨l2⟩] W0 M fun v W'=>v = .bool (decide (Ft1 x y))∧True:=by
 obtain⟨s0,b0,t0,s1,b1,t1,rfl,h1,h1'⟩:=h1
 obtain⟨s2,b2,t2,s3,b3,t3,rfl,h2,h2'⟩:=h2
 apply Fy3
 refine Aj2 h2 h1 hy.1 hx.1 (by omega) (by omega) fun W2 hE2 _=>⟨_,rfl,fun h=>Aj2 (h1'.ext hE2) (h2'.ext hE2) hx.2 hy.2 (by omega) (by omega) fun W5 hE5 _=>⟨_,rfl,fun W7 hE7=>⟨?_,trivial⟩⟩,fun h W8 hE8=>⟨?_,trivial⟩⟩
 ·have h:=Dn3.1 h
  congr 1
  rw[decide_eq_decide,Dn3]
  exact⟨fun e=>⟨h,e⟩,fun e=>e.2⟩
 ·rw[decide_eq_false fun e=>h (Dn3.2 e.1)]
theorem Fx1 {W0 W:PW} {M:Nat→Prop} {l1 l2:List Value} {x y:Iv} {k:Nat} {K:Value→PW→Prop} (h1:SpV 284 W l1 x) (h2:SpV 284 W l2 y) (hx:IvS k x) (hy:IvS k y) (hk:k≤8589934592) (kont: ∀(W':PW),Ext W W'→(True)→K (.bool (decide (Ft1 x y))) W'):
  Aa1 Tryz.prog W0 M 27 [.agg ⟨l1⟩,.agg ⟨l2⟩] W K:=
 Aa2 (fun W' hE=>Fz5 (M:=fun _=>False) (h1.ext hE) (h2.ext hE) hx hy hk) (fun W' v W'' hE hE' hP=>by
  obtain⟨rfl,h⟩:=hP
  exact kont W'' (hE.trans hE') h)
theorem Hv6 {a b:Rat} :Co4 a b=0↔a=b:=by
 constructor
 ·intro h
  have h1:=Dn3.1 (show Co4 a b≤0 by omega)
  have h2:=El9.1 (show 0≤Co4 a b by omega)
  grind
 ·rintro rfl
  have h1:=Dn3.2 (Rat.le_refl (a:=a))
  have h2:=El9.2 (Rat.le_refl (a:=a))
  omega
theorem Hv8 {W0:PW} {M:Nat→Prop} {l1 l2:List Value} {x y:Iv} {k:Nat} (h1:SpV 284 W0 l1 x) (h2:SpV 284 W0 l2 y) (hx:IvS k x) (hy:IvS k y) (hk:k≤8589934592):
  Aa0 Tryz.prog 29 [.agg ⟨l1⟩,.agg ⟨l2⟩] W0 M fun v W'=>v = .bool (decide (x=y))∧True:=by
 obtain⟨s0,b0,t0,s1,b1,t1,rfl,h1,h1'⟩:=h1
 obtain⟨s2,b2,t2,s3,b3,t3,rfl,h2,h2'⟩:=h2
 apply Hu7
 refine Aj2 h1 h2 hx.1 hy.1 (by omega) (by omega) fun W2 hE2 _=>⟨_,rfl,fun h=>Aj2 (h1'.ext hE2) (h2'.ext hE2) hx.2 hy.2 (by omega) (by omega) fun W5 hE5 _=>⟨_,rfl,fun W7 hE7=>⟨?_,trivial⟩⟩,fun h W8 hE8=>⟨?_,trivial⟩⟩
 ·have h:=Hv6.1 h
  congr 1
  rw[decide_eq_decide,Hv6]
  exact⟨fun e=>Prod.ext h e,fun e=>by rw[e]⟩
 ·rw[decide_eq_false fun e=>h (Hv6.2 (by rw[e]))]
theorem Hu6 {W0 W:PW} {M:Nat→Prop} {l1 l2:List Value} {x y:Iv} {k:Nat} {K:Value→PW→Prop} (h1:SpV 284 W l1 x) (h2:SpV 284 W l2 y) (hx:IvS k x) (hy:IvS k y) (hk:k≤8589934592) (kont: ∀(W':PW),Ext W W'→(True)→K (.bool (decide (x=y))) W'):
  Aa1 Tryz.prog W0 M 29 [.agg ⟨l1⟩,.agg ⟨l2⟩] W K:=
 Aa2 (fun W' hE=>Hv8 (M:=fun _=>False) (h1.ext hE) (h2.ext hE) hx hy hk) (fun W' v W'' hE hE' hP=>by
  obtain⟨rfl,h⟩:=hP
  exact kont W'' (hE.trans hE') h)
def An3 (p:List Tm) (bs:List Iv):Prop:=Cn7 bs∧Fd0 Cx8 0 p≤(bs.length:Int)
instance (p:List Tm) (bs:List Iv):Decidable (An3 p bs):=by unfold An3;infer_instance
theorem Cm8 {W0:PW} {M:Nat→Prop} {s sb:Sl} {p:List Tm} {bs:List Iv} {k:Nat} (h:Ab0 284 165 W0 s p) (hb:Bc3 284 W0 sb bs) (hk: ∀x∈bs,IvS k x) (hk2:k≤1048576) (hl:bs.length≤1048576) (hp:p.length≤1099511627776):
  Aa0 Tryz.prog 62 [.agg ⟨[s.v]⟩,sb.v] W0 M fun v W'=>v = .bool (decide (An3 p bs))∧True:=by
 apply Bw2
 have hn:=hb.n
 refine Cm2 hb hk hk2 hl fun W2 hE2 _=>⟨_,rfl,fun hr=>Co3 (h.ext hE2) hp fun W5 hE5 _=>⟨_,rfl,fun W7 _=>⟨?_,trivial⟩⟩,fun hr W8 _=>⟨?_,trivial⟩⟩
 ·have hr:=of_decide_eq_true hr
  congr 1
  rw[decide_eq_decide,hn]
  exact⟨fun e=>⟨hr,e⟩,fun e=>e.2⟩
 ·have hr:=of_decide_eq_false hr
  rw[decide_eq_false (p:=An3 p bs) fun e=>hr e.1]
theorem Bv2 {W0 W:PW} {M:Nat→Prop} {s sb:Sl} {p:List Tm} {bs:List Iv} {k:Nat} {K:Value→PW→Prop} (h:Ab0 284 165 W s p) (hb:Bc3 284 W sb bs) (hk: ∀x∈bs,IvS k x) (hk2:k≤1048576) (hl:bs.length≤1048576) (hp:p.length≤1099511627776) (kont: ∀(W':PW),Ext W W'→(True)→K (.bool (decide (An3 p bs))) W'):
  Aa1 Tryz.prog W0 M 62 [.agg ⟨[s.v]⟩,sb.v] W K:=
 Aa2 (fun W' hE=>Cm8 (M:=fun _=>False) (h.ext hE) (hb.ext hE) hk hk2 hl hp) (fun W' v W'' hE hE' hP=>by
  obtain⟨rfl,h⟩:=hP
  exact kont W'' (hE.trans hE') h)
theorem Cj1 {W0:PW} {M:Nat→Prop} {sb:Sl} {bs:List Iv} (hb:Bc3 284 W0 sb bs):
  Aa0 Tryz.prog 93 [sb.v] W0 M fun v W'=>∃(l:List Value),v = .agg ⟨l⟩∧DmV 284 W' l (Bm3 bs):=by
 apply Bx9
 obtain⟨ys,hr,ha⟩:=hb
 have hd:=Br4 ha
 refine⟨ys,hr,hd.shp,fun s2 b3 s4 s5 b6 s7 s8 b9 s10 s11 b12 s13 s14 b15 s16 s17 b18 s19 he W20 hE20=>⟨_,rfl,?_⟩⟩
 rw[he]
 exact hd.ext hE20
theorem Bu1 {W0 W:PW} {M:Nat→Prop} {sb:Sl} {bs:List Iv} {K:Value→PW→Prop} (hb:Bc3 284 W sb bs) (kont: ∀(l:List Value) (W':PW),Ext W W'→(DmV 284 W' l (Bm3 bs))→K (.agg ⟨l⟩) W'):
  Aa1 Tryz.prog W0 M 93 [sb.v] W K:=
 Aa2 (fun W' hE=>Cj1 (M:=fun _=>False) (hb.ext hE)) (fun W' v W'' hE hE' hP=>by
  obtain⟨l,rfl,h⟩:=hP
  exact kont l W'' (hE.trans hE') h)
structure BxN (k m:Nat) (p:List Tm) (bs:List Iv):Prop where
 bd:Bd k p
 sd: ∀x∈bs,IvS m x
 ok:POk p
 len:p.length≤1000000
 k1:k≤100000000
 m1:m≤100
 bl:bs.length≤1000
theorem BxN.side {k m:Nat} {p:List Tm} {bs:List Iv} (h:BxN k m p bs) (i:Nat):BdI (2*m+1) (Bm3 bs i):=Ep8 h.sd i
theorem Cl1 {p:List Tm} (h:POk p): ∀t∈p,∀i,mex t.1 i≤255:=fun t ht i=>by
 have:=h t ht
 unfold Mon.ok at this
 unfold SX.mex
 (repeat' split)<;>omega
theorem BxN.over {k m:Nat} {p:List Tm} {bs:List Iv} (h:BxN k m p bs):BdI (k+3*((2*m+1+1)*255+1)) (Aq8 (Bm3 bs) p):=Cv6 h.bd h.side (Cl1 h.ok)
theorem Bs5 {W0:PW} {M:Nat→Prop} {s sb:Sl} {p:List Tm} {bs:List Iv} {k m:Nat} (h:Ab0 284 165 W0 s p) (hb:Bc3 284 W0 sb bs) (hz:BxN k m p bs):
  Aa0 Tryz.prog 24 [.agg ⟨[s.v]⟩,sb.v] W0 M fun v W'=>∃(l:List Value),v = .tuple ⟨[.agg ⟨l⟩,.bool (decide (An3 p bs))]⟩∧SpV 284 W' l (if An3 p bs then Aq8 (Bm3 bs) p else(0,0)):=by
 apply Bh7
 have z1:=hz.m1
 have z2:=hz.len
 have z3:=hz.k1
 have z4:=hz.bl
 refine Bv2 h hb hz.sd (by omega) (by omega) (by omega) fun W2 hE2 _=>⟨_,rfl,fun hno W4 hE4=>?_,fun hyes=>?_⟩
 ·have hno:¬An3 p bs:=by simpa using hno
  rw[if_neg hno,decide_eq_false hno]
  exact⟨_,rfl,SpV.zero W4⟩
 ·have hyes:An3 p bs:=by simpa using hyes
  rw[if_pos hyes,decide_eq_true hyes]
  refine Bu1 (hb.ext hE2) fun l W6 hE6 hd=>?_
  obtain⟨s7,b8,s9,s10,b11,s12,s13,b14,s15,s16,b17,s18,s19,b20,s21,s22,b23,s24,rfl,hd'⟩:=id hd
  refine⟨s7,b8,s9,s10,b11,s12,s13,b14,s15,s16,b17,s18,s19,b20,s21,s22,b23,s24,rfl,?_⟩
  exact Az5 (h.ext (hE2.trans hE6)) hd hz.bd hz.side (Cl1 hz.ok) (Nat.le_refl 255) (by omega) (by omega) (by omega) fun r W26 hE26 h26=>h26.out fun s27 b28 s29 s30 b31 s32 h26 W33 hE33=>⟨_,rfl,h26.ext hE33⟩
theorem Bi4 {W0 W:PW} {M:Nat→Prop} {s sb:Sl} {p:List Tm} {bs:List Iv} {k m:Nat} {K:Value→PW→Prop} (h:Ab0 284 165 W s p) (hb:Bc3 284 W sb bs) (hz:BxN k m p bs) (kont: ∀(l:List Value) (W':PW),Ext W W'→(SpV 284 W' l (if An3 p bs then Aq8 (Bm3 bs) p else(0,0)))→K (.tuple ⟨[.agg ⟨l⟩,.bool (decide (An3 p bs))]⟩) W'):
  Aa1 Tryz.prog W0 M 24 [.agg ⟨[s.v]⟩,sb.v] W K:=
 Aa2 (fun W' hE=>Bs5 (M:=fun _=>False) (h.ext hE) (hb.ext hE) hz) (fun W' v W'' hE hE' hP=>by
  obtain⟨l,rfl,h⟩:=hP
  exact kont l W'' (hE.trans hE') h)
end Go.Proofs.YtjkkidjbppphpaaGreatDoor
/- bound.Mean, Best. -/
namespace Go.Proofs.YtjkkidjbppphpaaGreatDoor
open Go Go.SX
end Go.Proofs.YtjkkidjbppphpaaGreatDoor
