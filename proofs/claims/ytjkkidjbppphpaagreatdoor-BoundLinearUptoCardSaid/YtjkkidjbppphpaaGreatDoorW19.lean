/- A polynomial's value is that at another point, and slopes times how far they are apart: plain law. -/
import Derived.Test.YtjkkidjbppphpaaGreatDoorW17
import Derived.Test.YtjkkidjbppphpaaGreatDoorW18
import Derived.Test.YtjkkidjbppphpaaGreatDoorLib5
import Derived.Test.YtjkkidjbppphpaaGreatDoorW15
import Derived.Test.YtjkkidjbppphpaaGreatDoorR17
import Derived.Test.YtjkkidjbppphpaaGreatDoorR18
set_option linter.unusedVariables false
set_option linter.unusedSimpArgs false
set_option maxRecDepth 100000
namespace Go.Proofs.YtjkkidjbppphpaaGreatDoor
open Go Go.SX
def wv (c:Rat) (w:Nat→Rat):Nat→Rat
 | 0=>c
 | j+1=>wv c w j*w j
theorem Hc6 (t:Tm) (p:List Tm) (i:Nat):Hc1 (t :: p) i=Hc2 i t ++ Hc1 p i:=rfl
/-! ### Derivatives stay in order. -/
theorem dec_lt {a b : Mon} (h : a.lt b) (i : Nat) : (Hj5 a i).lt (Hj5 b i) := by
  unfold Mon.lt Mon.deg at *
  unfold Hj5
  (repeat' split) <;> dsimp only <;> omega
theorem Hj9 {p:List Tm} {i:Nat} {x:Tm} (h:x∈Hc1 p i): ∃s∈p,0<An6 s.1 i∧x=(Hj5 s.1 i,s.2*((An6 s.1 i:Int):Rat)):=by
 obtain⟨s,hs,hx⟩:=List.mem_flatMap.1 h
 unfold Hc2 at hx
 split at hx
 ·exact⟨s,hs,by assumption,List.mem_singleton.1 hx⟩
 ·cases hx
theorem Hk1: ∀{p:List Tm} (_:p.Pairwise fun a b=>a.1.lt b.1) (i:Nat),(Hc1 p i).Pairwise fun a b=>a.1.lt b.1
 | [],_,_=>List.Pairwise.nil
 | t :: p,h,i=>by
  obtain⟨h1,h2⟩:=List.pairwise_cons.1 h
  have ih:=Hk1 h2 i
  rw[Hc6]
  unfold Hc2
  split
  ·refine List.pairwise_cons.2 ⟨fun x hx=>?_,ih⟩
   obtain⟨s,hs,_,rfl⟩:=Hj9 hx
   exact dec_lt (h1 s hs) i
  ·exact ih
theorem Hn6 {p:List Tm} (h:Av6 p) (i:Nat):Av6 (Hc1 p i):=⟨Hk1 h.srt i,fun x hx=>by
 obtain⟨s,hs,hp,rfl⟩:=Hj9 hx
 have h1:=h.nz s hs
 have h2:(0:Rat)<((An6 s.1 i:Int):Rat):=Rat.intCast_pos.2 hp
 show s.2*((An6 s.1 i:Int):Rat)≠0
 rw[ne_eq,Rat.mul_eq_zero]
 rintro(e | e)
 ·exact h1 e
 ·rw[e] at h2;exact absurd h2 (by decide)⟩
theorem Hp8 {p:List Tm} (h:Av6 p) {i:Nat} (hi:i<3):Hc3 p (i:Int)=Hc1 p i:=by
 unfold Hc3
 rw[if_pos ⟨by omega,by omega⟩,Int.toNat_natCast]
 exact(Ce8 _).uniq (Hn6 h i) fun m=>Bh2 _ m
/-! ### A box; its middle; a polynomial there. -/
def Hb9 (bs : List Iv) : Pt := ⟨Ga6 (Bm3 bs 0), Ga6 (Bm3 bs 1), Ga6 (Bm3 bs 2)⟩
theorem Hd5 (bs:List Iv) {i:Nat} (hi:i<3):(Hb9 bs).get i=Ga6 (Bm3 bs i):=by
 rcases(by omega:i=0∨i=1∨i=2) with rfl | rfl | rfl<;>rfl
def Hc0 (p:List Tm) (bs:List Iv):Nat→Iv
 | 0=>Eb6 (atQ (Hb9 bs) p)
 | j+1=>Cb5 (Hc0 p bs j) (Ay9 (Aq8 (Bm3 bs) (Hc3 p (j:Int))) (He4 (Bm3 bs j) (Eb6 ((Hb9 bs).get j))))
end Go.Proofs.YtjkkidjbppphpaaGreatDoor
/- span.Sub, Mid, Within, Same, Meet; box.Mid; bound.Sides, three, Natural, Mean, Best. -/
namespace Go.Proofs.YtjkkidjbppphpaaGreatDoor
open Go Go.SX
theorem Hm9 {W0:PW} {M:Nat→Prop} {l1 l2:List Value} {x y:Iv} {k:Nat} (h1:SpV 284 W0 l1 x) (h2:SpV 284 W0 l2 y) (hx:IvS k x) (hy:IvS k y) (hk:k≤8589934592):
  Aa0 Tryz.prog 129 [.agg ⟨l1⟩,.agg ⟨l2⟩] W0 M fun v W'=>∃(l:List Value),v = .agg ⟨l⟩∧SpV 284 W' l (He4 x y):=by
 obtain⟨s0,b0,t0,s1,b1,t1,rfl,h1,h1'⟩:=h1
 obtain⟨s2,b2,t2,s3,b3,t3,rfl,h2,h2'⟩:=h2
 apply Hj2
 exact Gr0 h1 h2' hx.1 hy.2 hk hk fun s3 b4 s5 W2 hE2 g1=>⟨s3,b4,s5,rfl,Gr0 (h1'.ext hE2) (h2.ext hE2) hx.2 hy.1 hk hk fun s8 b9 s10 W7 hE7 g2=>⟨s8,b9,s10,rfl,fun W11 hE11=>⟨_,rfl,SpV.mk (x:=He4 x y) (g1.ext (hE7.trans hE11)) (g2.ext hE11)⟩⟩⟩
theorem Hi9 {W0 W:PW} {M:Nat→Prop} {l1 l2:List Value} {x y:Iv} {k:Nat} {K:Value→PW→Prop} (h1:SpV 284 W l1 x) (h2:SpV 284 W l2 y) (hx:IvS k x) (hy:IvS k y) (hk:k≤8589934592) (kont: ∀(l:List Value) (W':PW),Ext W W'→(SpV 284 W' l (He4 x y))→K (.agg ⟨l⟩) W'):
  Aa1 Tryz.prog W0 M 129 [.agg ⟨l1⟩,.agg ⟨l2⟩] W K:=
 Aa2 (fun W' hE=>Hm9 (M:=fun _=>False) (h1.ext hE) (h2.ext hE) hx hy hk) (fun W' v W'' hE hE' hP=>by
  obtain⟨l,rfl,h⟩:=hP
  exact kont l W'' (hE.trans hE') h)
theorem Ge1:Sz 1 ((2:Int):Rat):=⟨by rw[Rat.num_intCast];exact Bc6 (by decide),by rw[Rat.den_intCast,Ax0];omega⟩
theorem Gb3 {W0:PW} {M:Nat→Prop} {s t:Sl} {b:Bool} {q:Rat} {k:Nat} (h:Ab3 284 W0 s b t q) (hq:Sz k q) (hk:k≤8589934592):
  Aa0 Tryz.prog 177 [.agg ⟨[s.v,.bool b,t.v]⟩] W0 M fun v W'=>∃(r:Sl),∃(c:Bool),∃(u:Sl),v = .agg ⟨[Sl.v r,.bool c,Sl.v u]⟩∧Ab3 284 W' r c u (q/2):=by
 apply Fz1
 exact Ay8 (z:=2) (by unfold I64;omega) fun s3 b4 s5 W2 hE2 h2=>⟨s3,b4,s5,rfl,Gb1 (h.ext hE2) h2 hq Ge1 hk (by omega) (by omega) fun s8 b9 s10 W7 hE7 h7=>⟨s8,b9,s10,_,rfl,fun W12 hE12=>⟨s8,b9,s10,rfl,h7.ext hE12⟩⟩⟩
theorem Fz7 {W0 W:PW} {M:Nat→Prop} {s t:Sl} {b:Bool} {q:Rat} {k:Nat} {K:Value→PW→Prop} (h:Ab3 284 W s b t q) (hq:Sz k q) (hk:k≤8589934592) (kont: ∀(r:Sl) (c:Bool) (u:Sl) (W':PW),Ext W W'→(Ab3 284 W' r c u (q/2))→K (.agg ⟨[Sl.v r,.bool c,Sl.v u]⟩) W'):
  Aa1 Tryz.prog W0 M 177 [.agg ⟨[s.v,.bool b,t.v]⟩] W K:=
 Aa2 (fun W' hE=>Gb3 (M:=fun _=>False) (h.ext hE) hq hk) (fun W' v W'' hE hE' hP=>by
  obtain⟨r,c,u,rfl,h⟩:=hP
  exact kont r c u W'' (hE.trans hE') h)
theorem Gd0 {W0:PW} {M:Nat→Prop} {l1:List Value} {x:Iv} {k:Nat} (h1:SpV 284 W0 l1 x) (hx:IvS k x) (hk:k≤1073741824):
  Aa0 Tryz.prog 100 [.agg ⟨l1⟩] W0 M fun v W'=>∃(r:Sl),∃(c:Bool),∃(u:Sl),v = .agg ⟨[Sl.v r,.bool c,Sl.v u]⟩∧Ab3 284 W' r c u (Ga6 x):=by
 obtain⟨s0,b0,t0,s1,b1,t1,rfl,h1,h1'⟩:=h1
 apply Ga3
 exact At2 h1 h1' hx.1 hx.2 (by omega) (by omega) fun s3 b4 s5 W2 hE2 h2=>⟨s3,b4,s5,rfl,Fz7 h2 (hx.1.add hx.2) (by omega) fun s8 b9 s10 W7 hE7 h7=>⟨s8,b9,s10,rfl,fun W12 hE12=>⟨s8,b9,s10,rfl,h7.ext hE12⟩⟩⟩
theorem Ga1 {W0 W:PW} {M:Nat→Prop} {l1:List Value} {x:Iv} {k:Nat} {K:Value→PW→Prop} (h1:SpV 284 W l1 x) (hx:IvS k x) (hk:k≤1073741824) (kont: ∀(r:Sl) (c:Bool) (u:Sl) (W':PW),Ext W W'→(Ab3 284 W' r c u (Ga6 x))→K (.agg ⟨[Sl.v r,.bool c,Sl.v u]⟩) W'):
  Aa1 Tryz.prog W0 M 100 [.agg ⟨l1⟩] W K:=
 Aa2 (fun W' hE=>Gd0 (M:=fun _=>False) (h1.ext hE) hx hk) (fun W' v W'' hE hE' hP=>by
  obtain⟨r,c,u,rfl,h⟩:=hP
  exact kont r c u W'' (hE.trans hE') h)
instance (x y:Iv):Decidable (Ft1 x y):=by unfold Ft1;infer_instance
theorem Hv6 {a b:Rat} :Co4 a b=0↔a=b:=by
 constructor
 ·intro h
  have h1:=Dn3.1 (show Co4 a b≤0 by omega)
  have h2:=El9.1 (show 0≤Co4 a b by omega)
  grind
 ·rintro rfl
  have h1:=Dn3.2 (Rat.le_refl (a:=a))
  have h2:=El9.2 (Rat.le_refl (a:=a))
  omega
theorem Hv8 {W0:PW} {M:Nat→Prop} {l1 l2:List Value} {x y:Iv} {k:Nat} (h1:SpV 284 W0 l1 x) (h2:SpV 284 W0 l2 y) (hx:IvS k x) (hy:IvS k y) (hk:k≤8589934592):
  Aa0 Tryz.prog 29 [.agg ⟨l1⟩,.agg ⟨l2⟩] W0 M fun v W'=>v = .bool (decide (x=y))∧True:=by
 obtain⟨s0,b0,t0,s1,b1,t1,rfl,h1,h1'⟩:=h1
 obtain⟨s2,b2,t2,s3,b3,t3,rfl,h2,h2'⟩:=h2
 apply Hu7
 refine Aj2 h1 h2 hx.1 hy.1 (by omega) (by omega) fun W2 hE2 _=>⟨_,rfl,fun h=>Aj2 (h1'.ext hE2) (h2'.ext hE2) hx.2 hy.2 (by omega) (by omega) fun W5 hE5 _=>⟨_,rfl,fun W7 hE7=>⟨?_,trivial⟩⟩,fun h W8 hE8=>⟨?_,trivial⟩⟩
 ·have h:=Hv6.1 h
  congr 1
  rw[decide_eq_decide,Hv6]
  exact⟨fun e=>Prod.ext h e,fun e=>by rw[e]⟩
 ·rw[decide_eq_false fun e=>h (Hv6.2 (by rw[e]))]
theorem Hu6 {W0 W:PW} {M:Nat→Prop} {l1 l2:List Value} {x y:Iv} {k:Nat} {K:Value→PW→Prop} (h1:SpV 284 W l1 x) (h2:SpV 284 W l2 y) (hx:IvS k x) (hy:IvS k y) (hk:k≤8589934592) (kont: ∀(W':PW),Ext W W'→(True)→K (.bool (decide (x=y))) W'):
  Aa1 Tryz.prog W0 M 29 [.agg ⟨l1⟩,.agg ⟨l2⟩] W K:=
 Aa2 (fun W' hE=>Hv8 (M:=fun _=>False) (h1.ext hE) (h2.ext hE) hx hy hk) (fun W' v W'' hE hE' hP=>by
  obtain⟨rfl,h⟩:=hP
  exact kont W'' (hE.trans hE') h)
def An3 (p:List Tm) (bs:List Iv):Prop:=Cn7 bs∧Fd0 Cx8 0 p≤(bs.length:Int)
instance (p:List Tm) (bs:List Iv):Decidable (An3 p bs):=by unfold An3;infer_instance
theorem Cm8 {W0:PW} {M:Nat→Prop} {s sb:Sl} {p:List Tm} {bs:List Iv} {k:Nat} (h:Ab0 284 165 W0 s p) (hb:Bc3 284 W0 sb bs) (hk: ∀x∈bs,IvS k x) (hk2:k≤1048576) (hl:bs.length≤1048576) (hp:p.length≤1099511627776):
  Aa0 Tryz.prog 62 [.agg ⟨[s.v]⟩,sb.v] W0 M fun v W'=>v = .bool (decide (An3 p bs))∧True:=by
 apply Bw2
 have hn:=hb.n
 refine Cm2 hb hk hk2 hl fun W2 hE2 _=>⟨_,rfl,fun hr=>Co3 (h.ext hE2) hp fun W5 hE5 _=>⟨_,rfl,fun W7 _=>⟨?_,trivial⟩⟩,fun hr W8 _=>⟨?_,trivial⟩⟩
 ·have hr:=of_decide_eq_true hr
  congr 1
  rw[decide_eq_decide,hn]
  exact⟨fun e=>⟨hr,e⟩,fun e=>e.2⟩
 ·have hr:=of_decide_eq_false hr
  rw[decide_eq_false (p:=An3 p bs) fun e=>hr e.1]
theorem Bv2 {W0 W:PW} {M:Nat→Prop} {s sb:Sl} {p:List Tm} {bs:List Iv} {k:Nat} {K:Value→PW→Prop} (h:Ab0 284 165 W s p) (hb:Bc3 284 W sb bs) (hk: ∀x∈bs,IvS k x) (hk2:k≤1048576) (hl:bs.length≤1048576) (hp:p.length≤1099511627776) (kont: ∀(W':PW),Ext W W'→(True)→K (.bool (decide (An3 p bs))) W'):
  Aa1 Tryz.prog W0 M 62 [.agg ⟨[s.v]⟩,sb.v] W K:=
 Aa2 (fun W' hE=>Cm8 (M:=fun _=>False) (h.ext hE) (hb.ext hE) hk hk2 hl hp) (fun W' v W'' hE hE' hP=>by
  obtain⟨rfl,h⟩:=hP
  exact kont W'' (hE.trans hE') h)
theorem Cj1 {W0:PW} {M:Nat→Prop} {sb:Sl} {bs:List Iv} (hb:Bc3 284 W0 sb bs):
  Aa0 Tryz.prog 93 [sb.v] W0 M fun v W'=>∃(l:List Value),v = .agg ⟨l⟩∧DmV 284 W' l (Bm3 bs):=by
 apply Bx9
 obtain⟨ys,hr,ha⟩:=hb
 have hd:=Br4 ha
 refine⟨ys,hr,hd.shp,fun s2 b3 s4 s5 b6 s7 s8 b9 s10 s11 b12 s13 s14 b15 s16 s17 b18 s19 he W20 hE20=>⟨_,rfl,?_⟩⟩
 rw[he]
 exact hd.ext hE20
theorem Bu1 {W0 W:PW} {M:Nat→Prop} {sb:Sl} {bs:List Iv} {K:Value→PW→Prop} (hb:Bc3 284 W sb bs) (kont: ∀(l:List Value) (W':PW),Ext W W'→(DmV 284 W' l (Bm3 bs))→K (.agg ⟨l⟩) W'):
  Aa1 Tryz.prog W0 M 93 [sb.v] W K:=
 Aa2 (fun W' hE=>Cj1 (M:=fun _=>False) (hb.ext hE)) (fun W' v W'' hE hE' hP=>by
  obtain⟨l,rfl,h⟩:=hP
  exact kont l W'' (hE.trans hE') h)
structure BxN (k m:Nat) (p:List Tm) (bs:List Iv):Prop where
 bd:Bd k p
 sd: ∀x∈bs,IvS m x
 ok:POk p
 len:p.length≤1000000
 k1:k≤100000000
 m1:m≤100
 bl:bs.length≤1000
structure BxB (k m:Nat) (p:List Tm) (bs:List Iv):Prop where
 n:BxN k m p bs
 len:p.length≤30
 k1:k≤300000
 bl:bs.length≤100
theorem BxN.side {k m:Nat} {p:List Tm} {bs:List Iv} (h:BxN k m p bs) (i:Nat):BdI (2*m+1) (Bm3 bs i):=Ep8 h.sd i
theorem Cl1 {p:List Tm} (h:POk p): ∀t∈p,∀i,mex t.1 i≤255:=fun t ht i=>by
 have:=h t ht
 unfold Mon.ok at this
 unfold SX.mex
 (repeat' split)<;>omega
theorem BxN.over {k m:Nat} {p:List Tm} {bs:List Iv} (h:BxN k m p bs):BdI (k+3*((2*m+1+1)*255+1)) (Aq8 (Bm3 bs) p):=Cv6 h.bd h.side (Cl1 h.ok)
theorem Bs5 {W0:PW} {M:Nat→Prop} {s sb:Sl} {p:List Tm} {bs:List Iv} {k m:Nat} (h:Ab0 284 165 W0 s p) (hb:Bc3 284 W0 sb bs) (hz:BxN k m p bs):
  Aa0 Tryz.prog 24 [.agg ⟨[s.v]⟩,sb.v] W0 M fun v W'=>∃(l:List Value),v = .tuple ⟨[.agg ⟨l⟩,.bool (decide (An3 p bs))]⟩∧SpV 284 W' l (if An3 p bs then Aq8 (Bm3 bs) p else(0,0)):=by
 apply Bh7
 have z1:=hz.m1
 have z2:=hz.len
 have z3:=hz.k1
 have z4:=hz.bl
 refine Bv2 h hb hz.sd (by omega) (by omega) (by omega) fun W2 hE2 _=>⟨_,rfl,fun hno W4 hE4=>?_,fun hyes=>?_⟩
 ·have hno:¬An3 p bs:=by simpa using hno
  rw[if_neg hno,decide_eq_false hno]
  exact⟨_,rfl,SpV.zero W4⟩
 ·have hyes:An3 p bs:=by simpa using hyes
  rw[if_pos hyes,decide_eq_true hyes]
  refine Bu1 (hb.ext hE2) fun l W6 hE6 hd=>?_
  obtain⟨s7,b8,s9,s10,b11,s12,s13,b14,s15,s16,b17,s18,s19,b20,s21,s22,b23,s24,rfl,hd'⟩:=id hd
  refine⟨s7,b8,s9,s10,b11,s12,s13,b14,s15,s16,b17,s18,s19,b20,s21,s22,b23,s24,rfl,?_⟩
  exact Az5 (h.ext (hE2.trans hE6)) hd hz.bd hz.side (Cl1 hz.ok) (Nat.le_refl 255) (by omega) (by omega) (by omega) fun r W26 hE26 h26=>h26.out fun s27 b28 s29 s30 b31 s32 h26 W33 hE33=>⟨_,rfl,h26.ext hE33⟩
theorem Bi4 {W0 W:PW} {M:Nat→Prop} {s sb:Sl} {p:List Tm} {bs:List Iv} {k m:Nat} {K:Value→PW→Prop} (h:Ab0 284 165 W s p) (hb:Bc3 284 W sb bs) (hz:BxN k m p bs) (kont: ∀(l:List Value) (W':PW),Ext W W'→(SpV 284 W' l (if An3 p bs then Aq8 (Bm3 bs) p else(0,0)))→K (.tuple ⟨[.agg ⟨l⟩,.bool (decide (An3 p bs))]⟩) W'):
  Aa1 Tryz.prog W0 M 24 [.agg ⟨[s.v]⟩,sb.v] W K:=
 Aa2 (fun W' hE=>Bs5 (M:=fun _=>False) (h.ext hE) (hb.ext hE) hz) (fun W' v W'' hE hE' hP=>by
  obtain⟨l,rfl,h⟩:=hP
  exact kont l W'' (hE.trans hE') h)
def cnB (n:Nat) (L:List PL) (_:PW):Nat:=match L with
 | [_,.val (.int .i64 z)]=>n-z.toNat
 | _=>0
def Hq4 (bs:List Iv):List Rat:=bs.map Ga6
def bmI (W0:PW) (bs:List Iv) (L:List PL) (W:PW):Prop:=match L with
 | [.row l,.val (.int .i64 i)]=>∃j:Nat,i=(j:Int)∧j≤bs.length∧Ext W0 W∧An5 (QtV 284 W) l (Hq4 (bs.take j))
 | _=>False
theorem Ho2 {W0:PW} {M:Nat→Prop} {sb:Sl} {bs:List Iv} {k:Nat} (hb:Bc3 284 W0 sb bs) (hk: ∀x∈bs,IvS k x) (hk2:k≤1048576) (hl:bs.length≤1048576):
  Aa0 Tryz.prog 127 [sb.v] W0 M fun v W'=>∃(s:Sl),v=Sl.v s∧Hq6 284 W' s (if Cn7 bs then Hq4 bs else[]):=by
 apply Hk8
 have hn:=hb.n
 refine Cm2 hb hk hk2 hl fun W2 hE2 _=>⟨_,rfl,fun hno W4 hE4=>⟨⟨none,0,0⟩,rfl,?_⟩,fun hyes=>?_⟩
 ·have hno:¬Cn7 bs:=by simpa using hno
  rw[if_neg hno]
  exact Dr1.nil W4
 have hyes:Cn7 bs:=by simpa using hyes
 rw[if_pos hyes]
 refine⟨bmI W2 bs,cnB bs.length,⟨0,rfl,Nat.zero_le _,Ext.refl _,trivial⟩,?_⟩
 rintro l7 i8 W9 ⟨j,rfl,hj,hE9,ha⟩
 have hal:=ha.len
 unfold Hq4 at hal
 rw[List.length_map,List.length_take] at hal
 refine⟨fun hlt=>?_,fun hge s21 W22 hE22 hO _ W23 hE23=>⟨s21,rfl,⟨l7,⟨_,hO.row.ext hE23⟩,?_⟩⟩⟩
 ·have hjl:j<bs.length:=by omega
  have h9:=hb.ext (hE2.trans hE9)
  obtain⟨x,⟨s,b,t,s',b',t',rfl,q1,q2⟩,hel⟩:=h9.at hjl
  refine⟨h9.inB (by omega) (by omega),s,b,t,s',b',t',hel 0 rfl,?_⟩
  refine Ga1 (SpV.mk q1 q2) (hk _ (List.getElem_mem hjl)) (by omega) fun s18 b19 s20 W17 hE17 h17=>⟨s18,b19,s20,rfl,by simp only[List.length_cons,List.length_nil];omega,by unfold I64;omega,⟨j+1,by push_cast;rfl,by omega,hE9.trans hE17,?_⟩,?_⟩
  ·unfold Hq4 at ha⊢
   rw[List.take_succ_eq_append_getElem hjl,List.map_append]
   exact(ha.mono fun _ _ h=>h.ext hE17).append ⟨⟨s18,b19,s20,rfl,h17⟩,trivial⟩
  ·show bs.length-Int.toNat ((j:Int)+1)<bs.length-Int.toNat (j:Int)
   omega
 ·have:j=bs.length:=by omega
  subst this
  rw[List.take_length] at ha
  exact ha.mono fun _ _ h=>h.ext (hE22.trans hE23)
theorem Hk9 {W0 W:PW} {M:Nat→Prop} {sb:Sl} {bs:List Iv} {k:Nat} {K:Value→PW→Prop} (hb:Bc3 284 W sb bs) (hk: ∀x∈bs,IvS k x) (hk2:k≤1048576) (hl:bs.length≤1048576) (kont: ∀(s:Sl) (W':PW),Ext W W'→(Hq6 284 W' s (if Cn7 bs then Hq4 bs else[]))→K (Sl.v s) W'):
  Aa1 Tryz.prog W0 M 127 [sb.v] W K:=
 Aa2 (fun W' hE=>Ho2 (M:=fun _=>False) (hb.ext hE) hk hk2 hl) (fun W' v W'' hE hE' hP=>by
  obtain⟨s,rfl,h⟩:=hP
  exact kont s W'' (hE.trans hE') h)
end Go.Proofs.YtjkkidjbppphpaaGreatDoor
/- bound.Mean, Best. -/
namespace Go.Proofs.YtjkkidjbppphpaaGreatDoor
open Go Go.SX
theorem Hl9 (bs:List Iv) {i:Nat} (hi:i<3):(Hq4 bs).getD i 0=(Hb9 bs).get i:=by
 rw[Hd5 bs hi]
 unfold Hq4 Bm3
 rw[List.getD_eq_getElem?_getD,List.getD_eq_getElem?_getD,List.getElem?_map]
 cases bs[i]? with
 | none=>show(0:Rat)=(0+0)/2;decide +kernel
 | some x=>rfl
theorem Hq1 {m:Nat} {x:Iv} (h:BdI m x):Sz (2*m+2) (Ga6 x):=by
 have:=(h.sz.1.add h.sz.2).div Ge1 (Nat.le_refl 1)
 exact this.mono (by omega)
theorem Hc8 {k m:Nat} {p:List Tm} {bs:List Iv} (h:BxB k m p bs) (i:Nat):Sz 404 ((Hb9 bs).get i):=by
 have hm:=h.n.m1
 have e:=fun i=>(Hq1 (h.n.side i)).mono (show 2*(2*m+1)+2≤404 by omega)
 unfold Pt.get
 (repeat' split)
 ·exact e 0
 ·exact e 1
 ·exact e 2
theorem Hh1 {a k:Nat} (h1:a≤30) (h2:k≤300000):a*(k+3*(404*255+1)+1)+1≤19000000:=by
 have h3:k+3*(404*255+1)+1≤609064:=by omega
 have h4:a*(k+3*(404*255+1)+1)≤30*609064:=Nat.mul_le_mul h1 h3
 exact Nat.le_trans (Nat.add_le_add_right h4 1) (by decide)
theorem BxB.Hs2 {k m:Nat} {p:List Tm} {bs:List Iv} (h:BxB k m p bs):Sz 19000000 (atQ (Hb9 bs) p):=
 (Gx6 h.n.bd.sz (Hc8 h) (e:=255) fun t ht i=>Gq6 (h.n.ok t ht) i).mono (Hh1 h.len h.k1)
theorem BxB.Hp1 {k m:Nat} {p:List Tm} {bs:List Iv} (h:BxB k m p bs) (i:Int):BdI 460000 (Aq8 (Bm3 bs) (Hc3 p i)):=by
 have h2:=h.k1
 have h3:=h.n.m1
 exact(Cv6 (Hg1 h.n.bd h.n.ok i) h.n.side (Cl1 (Hh5 h.n.ok i))).mono (by omega)
theorem BxB.Hr8 {k m:Nat} {p:List Tm} {bs:List Iv} (h:BxB k m p bs) (i j:Nat):BdI 2000 (He4 (Bm3 bs i) (Eb6 ((Hb9 bs).get j))):=by
 have h3:=h.n.m1
 have z1:=(h.n.side i).sz
 have z2:=Hc8 h j
 exact(BdI.Co7 (x:=He4 (Bm3 bs i) (Eb6 ((Hb9 bs).get j))) ⟨(z1.1.sub z2).mono (show _≤700 by omega),(z1.2.sub z2).mono (by omega)⟩).mono (by omega)
theorem BxB.Hs1 {k m:Nat} {p:List Tm} {bs:List Iv} (h:BxB k m p bs): ∀j,BdI (19000000+j*470000) (Hc0 p bs j)
 | 0=>by rw[Hc0];exact(BdI.pt h.Hs2).mono (by omega)
 | j+1=>by
  rw[Hc0]
  exact((h.Hs1 j).add ((h.Hp1 j).mul (h.Hr8 j j))).mono (by omega)
def mnI (W0:PW) (p:List Tm) (bs:List Iv) (L:List PL) (W:PW):Prop:=match L with
 | [.val (.int .i64 i),.cells l]=>∃j:Nat,i=(j:Int)∧j≤bs.length∧Ext W0 W∧SpV 284 W l (Hc0 p bs j)
 | _=>False
theorem Hi5 {W0:PW} {M:Nat→Prop} {s sb:Sl} {p:List Tm} {bs:List Iv} {k m:Nat} (h:Ab0 284 165 W0 s p) (hb:Bc3 284 W0 sb bs) (hz:BxB k m p bs):
  Aa0 Tryz.prog 50 [.agg ⟨[s.v]⟩,sb.v] W0 M fun v W'=>∃(l:List Value),v = .tuple ⟨[.agg ⟨l⟩,.bool (decide (An3 p bs))]⟩∧SpV 284 W' l (if An3 p bs then Hc0 p bs bs.length else(0,0)):=by
 apply Hf5
 have z1:=hz.n.m1
 have z2:=hz.len
 have z3:=hz.k1
 have z4:=hz.bl
 have hn:=hb.n
 refine Bv2 h hb hz.n.sd (by omega) (by omega) (by omega) fun W2 hE2 _=>⟨_,rfl,fun hno W4 hE4=>?_,fun hyes=>?_⟩
 ·have hno:¬An3 p bs:=by simpa using hno
  rw[if_neg hno,decide_eq_false hno]
  exact⟨_,rfl,SpV.zero W4⟩
 have hyes:An3 p bs:=by simpa using hyes
 rw[if_pos hyes,decide_eq_true hyes]
 have hb3:=hyes.1.1.2
 refine Hk9 (hb.ext hE2) hz.n.sd (by omega) (by omega) fun s7 W6 hE6 hm=>⟨s7,rfl,?_⟩
 rw[if_pos hyes.1] at hm
 obtain⟨l8,hr8,ha8⟩:=hm
 have hc:=Hn3 ha8
 refine⟨l8,hr8,hc.shp,fun s9 b10 s11 s12 b13 s14 s15 b16 s17 he=>?_⟩
 have hc:NmV 284 W6 [s9.v,.bool b10,s11.v,s12.v,.bool b13,s14.v,s15.v,.bool b16,s17.v] (fun i=>(Hq4 bs).getD i 0):=by rw[he];exact hc
 obtain⟨g0,g1,g2⟩:=hc.three
 rw[Hl9 bs (by omega)] at g0 g1 g2
 have E6:=hE2.trans hE6
 refine Gr5 (u:=Hb9 bs) (l:=404) (h.ext E6) g0 g1 g2 hz.n.bd.sz (Hc8 hz) (by omega) (Nat.le_trans (Hh1 z2 z3) (by omega)) (by omega) fun s20 b21 s22 W19 hE19 h19=>⟨s20,b21,s22,rfl,?_⟩
 refine De4 h19 fun l W24 hE24 h24=>h24.out fun s25 b26 s27 s28 b29 s30 h24=>?_
 refine⟨mnI W24 p bs,cn1 bs.length,⟨0,rfl,Nat.zero_le _,Ext.refl _,h24⟩,?_⟩
 rintro s33 b34 s35 s36 b37 s38 i39 W40 ⟨j,rfl,hj,hE40,hS⟩
 refine⟨fun hlt=>?_,fun hge W113 hE113=>⟨_,rfl,?_⟩⟩
 ·have hjl:j<bs.length:=by omega
  have E24:=E6.trans (hE19.trans hE24)
  have E40:=E24.trans hE40
  have hB:=hb.ext E40
  obtain⟨x,⟨s41,b42,s43,s44,b45,s46,rfl,q1,q2⟩,hel⟩:=hB.at hjl
  refine⟨hB.inB (by omega) (by omega),s41,b42,s43,s44,b45,s46,hel 0 rfl,?_⟩
  refine Hg6 (i:=(j:Int)) (h.ext E40) hz.n.bd (by omega) (by omega) fun s49 W48 hE48 h48=>⟨s49,rfl,?_⟩
  refine Bu1 (hb.ext (E40.trans hE48)) fun l W51 hE51 hd=>?_
  obtain⟨s52,b53,s54,s55,b56,s57,s58,b59,s60,s61,b62,s63,s64,b65,s66,s67,b68,s69,rfl,hd'⟩:=id hd
  refine⟨s52,b53,s54,s55,b56,s57,s58,b59,s60,s61,b62,s63,s64,b65,s66,s67,b68,s69,rfl,?_⟩
  have hdl:=Hj1 p (j:Int)
  refine Az5 (h48.ext hE51) hd (Hg1 hz.n.bd hz.n.ok j) hz.n.side (Cl1 (Hh5 hz.n.ok j)) (Nat.le_refl 255) (by omega) (by omega) (by omega) fun r W71 hE71 h71=>h71.out fun s72 b73 s74 s75 b76 s77 h71=>?_
  have E71:=hE48.trans (hE51.trans hE71)
  obtain⟨s78,b79,s80,hbx,hq⟩:=hc.box (j:=j) (by omega)
  rw[Hl9 bs (by omega)] at hq
  refine⟨⟨by omega,by omega⟩,s78,b79,s80,hbx,?_⟩
  refine De4 (hq.ext (hE19.trans (hE24.trans (hE40.trans E71)))) fun l W82 hE82 h82=>h82.out fun s83 b84 s85 s86 b87 s88 h82=>?_
  have zs:=(hz.n.side j).sz
  have zm:=Hc8 hz j
  have hbj:=Fi1 hjl
  refine Hi9 (x:=Bm3 bs j) (k:=404) (hbj ▸ SpV.mk (q1.ext (E71.trans hE82)) (q2.ext (E71.trans hE82))) h82 ⟨zs.1.mono (by omega),zs.2.mono (by omega)⟩ ⟨zm,zm⟩ (by omega) fun l W90 hE90 h90=>h90.out fun s91 b92 s93 s94 b95 s96 h90=>?_
  have zo:=(hz.Hp1 (j:Int)).sz
  have zd:=((hz.Hr8 j j).mono (show 2000≤460000 by omega)).sz
  refine Cx4 (h71.ext (hE82.trans hE90)) h90 zo zd (by omega) fun l W98 hE98 h98=>h98.out fun s99 b100 s101 s102 b103 s104 h98=>?_
  have ze:=((hz.Hp1 (j:Int)).mul (hz.Hr8 j j)).sz
  have zn:=((hz.Hs1 j).mono (show _≤67000000 by omega)).sz
  refine Cy0 (k:=67000000) (hS.ext (E71.trans (hE82.trans (hE90.trans hE98)))) h98 zn ⟨ze.1.mono (by omega),ze.2.mono (by omega)⟩ (by omega) fun l W106 hE106 h106=>h106.out fun s107 b108 s109 s110 b111 s112 h106=>⟨by unfold I64;omega,⟨j+1,by push_cast;rfl,by omega,hE40.trans (E71.trans (hE82.trans (hE90.trans (hE98.trans hE106)))),?_⟩,?_⟩
  ·exact h106
  ·show bs.length-Int.toNat ((j:Int)+1)<bs.length-Int.toNat (j:Int)
   omega
 ·have:j=bs.length:=by omega
  subst this
  exact hS.ext hE113
theorem Hc9 {W0 W:PW} {M:Nat→Prop} {s sb:Sl} {p:List Tm} {bs:List Iv} {k m:Nat} {K:Value→PW→Prop} (h:Ab0 284 165 W s p) (hb:Bc3 284 W sb bs) (hz:BxB k m p bs) (kont: ∀(l:List Value) (W':PW),Ext W W'→(SpV 284 W' l (if An3 p bs then Hc0 p bs bs.length else(0,0)))→K (.tuple ⟨[.agg ⟨l⟩,.bool (decide (An3 p bs))]⟩) W'):
  Aa1 Tryz.prog W0 M 50 [.agg ⟨[s.v]⟩,sb.v] W K:=
 Aa2 (fun W' hE=>Hi5 (M:=fun _=>False) (h.ext hE) (hb.ext hE) hz) (fun W' v W'' hE hE' hP=>by
  obtain⟨l,rfl,h⟩:=hP
  exact kont l W'' (hE.trans hE') h)
theorem BxB.Hr5 {k m:Nat} {p:List Tm} {bs:List Iv} (h:BxB k m p bs):IvS 67000000 (Hc0 p bs bs.length):=by
 have:=h.bl
 exact((h.Hs1 bs.length).mono (by omega)).sz
end Go.Proofs.YtjkkidjbppphpaaGreatDoor
