/- box.Right, gram.side, gram.Sum, and the reference's. -/
import Derived.Test.YtahohahjnhfedaaGreatDoorW7
import Derived.Test.YtahohahjnhfedaaGreatDoorW8
import Derived.Test.YtahohahjnhfedaaGreatDoorLib4
import Derived.Test.YtahohahjnhfedaaGreatDoorR12
import Derived.Test.YtahohahjnhfedaaGreatDoorLib5
import Derived.Test.YtahohahjnhfedaaGreatDoorR13
set_option linter.unusedVariables false
set_option linter.unusedSimpArgs false
set_option maxRecDepth 100000
namespace Go.Proofs.YtahohahjnhfedaaGreatDoor
open Go Go.SX
def brI (W0:PW) (bs:List Iv) (L:List PL) (W:PW):Prop:=match L with
 | [.val (.int .i64 i)]=>∃j:Nat,i=(j:Int)∧j≤bs.length∧Ext W0 W∧∀x∈bs.take j,x.1<x.2
 | _=>False
theorem Ey3 {bs:List Iv} {j:Nat} (hj:j<bs.length) (h: ∀x∈bs.take j,x.1<x.2) (h2:bs[j].1<bs[j].2): ∀x∈bs.take (j+1),x.1<x.2:=fun x hx=>by
 rw[List.take_succ_eq_append_getElem hj,List.mem_append,List.mem_singleton] at hx
 rcases hx with hx | rfl
 ·exact h x hx
 ·exact h2
theorem Dk1 {W0:PW} {M:Nat→Prop} {s:Sl} {bs:List Iv} {k:Nat} (h:Bc3 141 W0 s bs) (hk: ∀x∈bs,IvS k x) (hk2:k≤1048576) (hl:bs.length≤1048576):
  Aa0 Tryz.prog 79 [s.v] W0 M fun v W'=>v = .bool (decide (Cn7 bs))∧True:=by
 apply Ck4
 have hn:=h.n
 refine⟨brI W0 bs,cn1 bs.length,⟨0,rfl,Nat.zero_le _,Ext.refl _,fun x hx=>(by cases hx)⟩,?_⟩
 rintro i3 W4 ⟨j,rfl,hj,hE4,hall⟩
 have h4:=Bc3.ext h hE4
 refine⟨fun hlt=>?_,fun hge=>?_⟩
 ·have hjl:j<bs.length:=by omega
  obtain⟨x,hx,hel⟩:=h4.at hjl
  obtain⟨s5,b6,s7,s8,b9,s10,rfl,q1,q2⟩:=hx
  have hz:=hk _ (List.getElem_mem hjl)
  refine⟨h4.inB (by omega) (by omega),s5,b6,s7,s8,b9,s10,hel 0 rfl,Aj2 q1 q2 hz.1 hz.2 (by omega) (by omega) fun W12 hE12 _=>⟨_,rfl,fun h0 W14 _=>⟨?_,trivial⟩,fun h0=>⟨by unfold I64;omega,⟨j+1,by push_cast;rfl,by omega,hE4.trans hE12,Ey3 hjl hall (At6.1 (by omega))⟩,?_⟩⟩⟩
  ·rw[decide_eq_false fun e=>Rat.not_lt.2 (El9.1 h0) (e.2 _ (List.getElem_mem hjl))]
  ·show bs.length-Int.toNat ((j:Int)+1)<bs.length-Int.toNat (j:Int)
   omega
 ·have:j=bs.length:=by omega
  subst this
  rw[List.take_length] at hall
  refine⟨fun h1 W15 _=>⟨?_,trivial⟩,fun h1 W16 _=>⟨?_,trivial⟩⟩
  ·congr 1
   rw[decide_eq_decide]
   exact⟨fun h=>⟨⟨by omega,by omega⟩,hall⟩,fun h=>by have:=h.1.2;omega⟩
  ·rw[decide_eq_false fun e=>by have:=e.1.1;omega]
theorem Cm2 {W0 W:PW} {M:Nat→Prop} {s:Sl} {bs:List Iv} {k:Nat} {K:Value→PW→Prop} (h:Bc3 141 W s bs) (hk: ∀x∈bs,IvS k x) (hk2:k≤1048576) (hl:bs.length≤1048576) (kont: ∀(W':PW),Ext W W'→(True)→K (.bool (decide (Cn7 bs))) W'):
  Aa1 Tryz.prog W0 M 79 [s.v] W K:=
 Aa2 (fun W' hE=>Dk1 (M:=fun _=>False) (h.ext hE) hk hk2 hl) (fun W' v W'' hE hE' hP=>by
  obtain⟨rfl,h⟩:=hP
  exact kont W'' (hE.trans hE') h)
def Fj5 (l:List SqP) (bs:List Iv):Prop:=Cn7 bs∧∀s∈l,0≤s.g∧s.g≤(bs.length:Int)
instance (l:List SqP) (bs:List Iv):Decidable (Fj5 l bs):=by unfold Fj5;infer_instance
end Go.Proofs.YtahohahjnhfedaaGreatDoor
/- cinctureref1.times; poly.At, cinctureref1.At. -/
namespace Go.Proofs.YtahohahjnhfedaaGreatDoor
open Go Go.SX
end Go.Proofs.YtahohahjnhfedaaGreatDoor
/- What a polynomial comes to at a point is in what its terms come to on intervals around it: plain law. -/
namespace Go.Proofs.YtahohahjnhfedaaGreatDoor
open Go Go.SX
end Go.Proofs.YtahohahjnhfedaaGreatDoor
/- A polynomial's value is that at another point, and slopes times how far they are apart: plain law. -/
namespace Go.Proofs.YtahohahjnhfedaaGreatDoor
open Go Go.SX
end Go.Proofs.YtahohahjnhfedaaGreatDoor
/- span.Sub, Mid, Within, Same, Meet; box.Mid; bound.Sides, three, Natural, Mean, Best. -/
namespace Go.Proofs.YtahohahjnhfedaaGreatDoor
open Go Go.SX
instance (x y:Iv):Decidable (Ft1 x y):=by unfold Ft1;infer_instance
theorem Fz5 {W0:PW} {M:Nat→Prop} {l1 l2:List Value} {x y:Iv} {k:Nat} (h1:SpV 141 W0 l1 x) (h2:SpV 141 W0 l2 y) (hx:IvS k x) (hy:IvS k y) (hk:k≤8589934592):
  Aa0 Tryz.prog 46 [.agg ⟨l1⟩,.agg ⟨l2⟩] W0 M fun v W'=>v = .bool (decide (Ft1 x y))∧True:=by
 obtain⟨s0,b0,t0,s1,b1,t1,rfl,h1,h1'⟩:=h1
 obtain⟨s2,b2,t2,s3,b3,t3,rfl,h2,h2'⟩:=h2
 apply Fy3
 refine Aj2 h2 h1 hy.1 hx.1 (by omega) (by omega) fun W2 hE2 _=>⟨_,rfl,fun h=>Aj2 (h1'.ext hE2) (h2'.ext hE2) hx.2 hy.2 (by omega) (by omega) fun W5 hE5 _=>⟨_,rfl,fun W7 hE7=>⟨?_,trivial⟩⟩,fun h W8 hE8=>⟨?_,trivial⟩⟩
 ·have h:=Dn3.1 h
  congr 1
  rw[decide_eq_decide,Dn3]
  exact⟨fun e=>⟨h,e⟩,fun e=>e.2⟩
 ·rw[decide_eq_false fun e=>h (Dn3.2 e.1)]
theorem Fx1 {W0 W:PW} {M:Nat→Prop} {l1 l2:List Value} {x y:Iv} {k:Nat} {K:Value→PW→Prop} (h1:SpV 141 W l1 x) (h2:SpV 141 W l2 y) (hx:IvS k x) (hy:IvS k y) (hk:k≤8589934592) (kont: ∀(W':PW),Ext W W'→(True)→K (.bool (decide (Ft1 x y))) W'):
  Aa1 Tryz.prog W0 M 46 [.agg ⟨l1⟩,.agg ⟨l2⟩] W K:=
 Aa2 (fun W' hE=>Fz5 (M:=fun _=>False) (h1.ext hE) (h2.ext hE) hx hy hk) (fun W' v W'' hE hE' hP=>by
  obtain⟨rfl,h⟩:=hP
  exact kont W'' (hE.trans hE') h)
theorem Hv6 {a b:Rat} :Co4 a b=0↔a=b:=by
 constructor
 ·intro h
  have h1:=Dn3.1 (show Co4 a b≤0 by omega)
  have h2:=El9.1 (show 0≤Co4 a b by omega)
  grind
 ·rintro rfl
  have h1:=Dn3.2 (Rat.le_refl (a:=a))
  have h2:=El9.2 (Rat.le_refl (a:=a))
  omega
def An3 (p:List Tm) (bs:List Iv):Prop:=Cn7 bs∧Fd0 Cx8 0 p≤(bs.length:Int)
instance (p:List Tm) (bs:List Iv):Decidable (An3 p bs):=by unfold An3;infer_instance
theorem Cm8 {W0:PW} {M:Nat→Prop} {s sb:Sl} {p:List Tm} {bs:List Iv} {k:Nat} (h:Ab0 141 127 W0 s p) (hb:Bc3 141 W0 sb bs) (hk: ∀x∈bs,IvS k x) (hk2:k≤1048576) (hl:bs.length≤1048576) (hp:p.length≤1099511627776):
  Aa0 Tryz.prog 82 [.agg ⟨[s.v]⟩,sb.v] W0 M fun v W'=>v = .bool (decide (An3 p bs))∧True:=by
 apply Bw2
 have hn:=hb.n
 refine Cm2 hb hk hk2 hl fun W2 hE2 _=>⟨_,rfl,fun hr=>Co3 (h.ext hE2) hp fun W5 hE5 _=>⟨_,rfl,fun W7 _=>⟨?_,trivial⟩⟩,fun hr W8 _=>⟨?_,trivial⟩⟩
 ·have hr:=of_decide_eq_true hr
  congr 1
  rw[decide_eq_decide,hn]
  exact⟨fun e=>⟨hr,e⟩,fun e=>e.2⟩
 ·have hr:=of_decide_eq_false hr
  rw[decide_eq_false (p:=An3 p bs) fun e=>hr e.1]
theorem Bv2 {W0 W:PW} {M:Nat→Prop} {s sb:Sl} {p:List Tm} {bs:List Iv} {k:Nat} {K:Value→PW→Prop} (h:Ab0 141 127 W s p) (hb:Bc3 141 W sb bs) (hk: ∀x∈bs,IvS k x) (hk2:k≤1048576) (hl:bs.length≤1048576) (hp:p.length≤1099511627776) (kont: ∀(W':PW),Ext W W'→(True)→K (.bool (decide (An3 p bs))) W'):
  Aa1 Tryz.prog W0 M 82 [.agg ⟨[s.v]⟩,sb.v] W K:=
 Aa2 (fun W' hE=>Cm8 (M:=fun _=>False) (h.ext hE) (hb.ext hE) hk hk2 hl hp) (fun W' v W'' hE hE' hP=>by
  obtain⟨rfl,h⟩:=hP
  exact kont W'' (hE.trans hE') h)
theorem Cj1 {W0:PW} {M:Nat→Prop} {sb:Sl} {bs:List Iv} (hb:Bc3 141 W0 sb bs):
  Aa0 Tryz.prog 84 [sb.v] W0 M fun v W'=>∃(l:List Value),v = .agg ⟨l⟩∧DmV 141 W' l (Bm3 bs):=by
 apply Bx9
 obtain⟨ys,hr,ha⟩:=hb
 have hd:=Br4 ha
 refine⟨ys,hr,hd.shp,fun s2 b3 s4 s5 b6 s7 s8 b9 s10 s11 b12 s13 s14 b15 s16 s17 b18 s19 he W20 hE20=>⟨_,rfl,?_⟩⟩
 rw[he]
 exact hd.ext hE20
theorem Bu1 {W0 W:PW} {M:Nat→Prop} {sb:Sl} {bs:List Iv} {K:Value→PW→Prop} (hb:Bc3 141 W sb bs) (kont: ∀(l:List Value) (W':PW),Ext W W'→(DmV 141 W' l (Bm3 bs))→K (.agg ⟨l⟩) W'):
  Aa1 Tryz.prog W0 M 84 [sb.v] W K:=
 Aa2 (fun W' hE=>Cj1 (M:=fun _=>False) (hb.ext hE)) (fun W' v W'' hE hE' hP=>by
  obtain⟨l,rfl,h⟩:=hP
  exact kont l W'' (hE.trans hE') h)
structure BxN (k m:Nat) (p:List Tm) (bs:List Iv):Prop where
 bd:Bd k p
 sd: ∀x∈bs,IvS m x
 ok:POk p
 len:p.length≤20000000
 k1:k≤100000000
 m1:m≤100
 bl:bs.length≤1000
theorem BxN.side {k m:Nat} {p:List Tm} {bs:List Iv} (h:BxN k m p bs) (i:Nat):BdI (2*m+1) (Bm3 bs i):=Ep8 h.sd i
theorem Cl1 {p:List Tm} (h:POk p): ∀t∈p,∀i,mex t.1 i≤255:=fun t ht i=>by
 have:=h t ht
 unfold Mon.ok at this
 unfold SX.mex
 (repeat' split)<;>omega
theorem BxN.over {k m:Nat} {p:List Tm} {bs:List Iv} (h:BxN k m p bs):BdI (k+3*((2*m+1+1)*255+1)) (Aq8 (Bm3 bs) p):=Cv6 h.bd h.side (Cl1 h.ok)
theorem Bs5 {W0:PW} {M:Nat→Prop} {s sb:Sl} {p:List Tm} {bs:List Iv} {k m:Nat} (h:Ab0 141 127 W0 s p) (hb:Bc3 141 W0 sb bs) (hz:BxN k m p bs):
  Aa0 Tryz.prog 41 [.agg ⟨[s.v]⟩,sb.v] W0 M fun v W'=>∃(l:List Value),v = .tuple ⟨[.agg ⟨l⟩,.bool (decide (An3 p bs))]⟩∧SpV 141 W' l (if An3 p bs then Aq8 (Bm3 bs) p else(0,0)):=by
 apply Bh7
 have z1:=hz.m1
 have z2:=hz.len
 have z3:=hz.k1
 have z4:=hz.bl
 refine Bv2 h hb hz.sd (by omega) (by omega) (by omega) fun W2 hE2 _=>⟨_,rfl,fun hno W4 hE4=>?_,fun hyes=>?_⟩
 ·have hno:¬An3 p bs:=by simpa using hno
  rw[if_neg hno,decide_eq_false hno]
  exact⟨_,rfl,SpV.zero W4⟩
 ·have hyes:An3 p bs:=by simpa using hyes
  rw[if_pos hyes,decide_eq_true hyes]
  refine Bu1 (hb.ext hE2) fun l W6 hE6 hd=>?_
  obtain⟨s7,b8,s9,s10,b11,s12,s13,b14,s15,s16,b17,s18,s19,b20,s21,s22,b23,s24,rfl,hd'⟩:=id hd
  refine⟨s7,b8,s9,s10,b11,s12,s13,b14,s15,s16,b17,s18,s19,b20,s21,s22,b23,s24,rfl,?_⟩
  exact Az5 (h.ext (hE2.trans hE6)) hd hz.bd hz.side (Cl1 hz.ok) (Nat.le_refl 255) (by omega) (by omega) (by omega) fun r W26 hE26 h26=>h26.out fun s27 b28 s29 s30 b31 s32 h26 W33 hE33=>⟨_,rfl,h26.ext hE33⟩
theorem Bi4 {W0 W:PW} {M:Nat→Prop} {s sb:Sl} {p:List Tm} {bs:List Iv} {k m:Nat} {K:Value→PW→Prop} (h:Ab0 141 127 W s p) (hb:Bc3 141 W sb bs) (hz:BxN k m p bs) (kont: ∀(l:List Value) (W':PW),Ext W W'→(SpV 141 W' l (if An3 p bs then Aq8 (Bm3 bs) p else(0,0)))→K (.tuple ⟨[.agg ⟨l⟩,.bool (decide (An3 p bs))]⟩) W'):
  Aa1 Tryz.prog W0 M 41 [.agg ⟨[s.v]⟩,sb.v] W K:=
 Aa2 (fun W' hE=>Bs5 (M:=fun _=>False) (h.ext hE) (hb.ext hE) hz) (fun W' v W'' hE hE' hP=>by
  obtain⟨l,rfl,h⟩:=hP
  exact kont l W'' (hE.trans hE') h)
end Go.Proofs.YtahohahjnhfedaaGreatDoor
/- flow.Trap and flow.End: what they tell: plain law. -/
namespace Go.Proofs.YtahohahjnhfedaaGreatDoor
open Go Go.SX
/-! ### No variable behind the last. -/
def VN (n : Nat) (m : Mon) : Prop := (n ≤ 1 → m.y = 0) ∧ (n ≤ 2 → m.z = 0)
def VNs (n:Nat) (p:List Tm):Prop:=∀t∈p,VN n t.1
theorem VNs.norm {n:Nat} {p:List Tm} (h:VNs n p):VNs n (Ag2 p):=fun t ht=>by
 obtain⟨u,hu,e⟩:=Gu2 ht
 rw[e]
 exact h u hu
theorem VNs.append {n:Nat} {p q:List Tm} (h:VNs n p) (k:VNs n q):VNs n (p ++ q):=fun t ht=>by
 rcases List.mem_append.1 ht with h1 | h1
 ·exact h t h1
 ·exact k t h1
theorem VNs.Ff3 {n:Nat} {p q:List Tm} (h:VNs n p) (k:VNs n q):VNs n (An8 p q):=fun t ht=>by
 obtain⟨a,ha,hm⟩:=List.mem_flatMap.1 ht
 obtain⟨b,hb,rfl⟩:=List.mem_map.1 hm
 have h1:=h a ha
 have h2:=k b hb
 exact⟨fun e=>by show a.1.y+b.1.y=0;rw[h1.1 e,h2.1 e];rfl,fun e=>by show a.1.z+b.1.z=0;rw[h1.2 e,h2.2 e];rfl⟩
theorem VNs.diff {n:Nat} {p:List Tm} (h:VNs n p) (i:Int):VNs n (Hc3 p i):=by
 unfold Hc3
 split
 ·refine VNs.norm fun t ht=>?_
  obtain⟨a,ha,hm⟩:=List.mem_flatMap.1 ht
  have h1:=h a ha
  unfold Hc2 at hm
  split at hm
  ·rename_i hp
   rw[List.mem_singleton.1 hm]
   show VN n (Hj5 a.1 i.toNat)
   unfold Hj5
   unfold An6 at hp
   constructor
   ·intro e
    have:=h1.1 e
    (repeat' split at hp)<;>(repeat' split)<;>simp_all
   ·intro e
    have:=h1.2 e
    (repeat' split at hp)<;>(repeat' split)<;>simp_all
  ·cases hm
 ·intro t ht;cases ht
theorem Kn6 {n:Nat} (h1:1≤n) (h2:n≤2) {m:Mon} (hm:m.ok):Cx8 m≤(n:Int)↔VN n m:=by
 obtain⟨⟨x0,_⟩,⟨y0,_⟩,z0,_⟩:=hm
 unfold Cx8 VN
 rcases(by omega:n=1∨n=2) with rfl | rfl
 ·(repeat' split)<;>omega
 ·(repeat' split)<;>omega
theorem Kk7 {n:Nat} (h1:1≤n) (h2:n≤2) {p:List Tm} (ho:POk p):Fd0 Cx8 0 p≤(n:Int)↔VNs n p:=by
 constructor
 ·intro h t ht
  exact(Kn6 h1 h2 (ho t ht)).1 (Int.le_trans ((Hv3 (w:=Cx8) (n:=0) (p:=p)).2 t ht) h)
 ·intro h
  exact Hx0 (by omega) fun t ht=>(Kn6 h1 h2 (ho t ht)).2 (h t ht)
theorem Kk5 {f:List (List Tm)} {g:List Tm} {n:Nat} (hf: ∀q∈f,VNs n q) (hg:VNs n g): ∀{j:Nat} {a:List Tm} (_:j≤f.length) (_:Jz9 f g j=some a),VNs n a
 | 0,a,_,h=>by
  simp only[Jz9,Option.some.injEq] at h
  subst h
  exact fun t ht=>by cases ht
 | j+1,a,hj,h=>by
  rw[Jz9] at h
  split at h
  ·cases h
  ·rename_i a' ha'
   split at h
   ·simp only[Option.some.injEq] at h
    subst h
    have hq:VNs n (f.getD j []):=by rw[Jy8 (show j<f.length by omega)];exact hf _ (List.getElem_mem _)
    exact((Kk5 hf hg (by omega) ha').append ((hg.diff _).Ff3 hq).norm).norm
   ·cases h
theorem Ko1 {f:List (List Tm)} {n:Nat} (hf: ∀q∈f,VNs n q) {i:Nat} (hi:i<n) (hn:n≤2): ∀{k:Nat} {g:List Tm} (_:Jz7 f i k=some g),VNs n g
 | 0,g,h=>by
  simp only[Jz7,Option.some.injEq] at h
  subst h
  unfold Dc6
  rw[if_pos ⟨by omega,by omega⟩,Int.toNat_natCast]
  intro t ht
  rw[List.mem_singleton.1 ht]
  show VN n (Da3 i)
  rcases(by omega:i=0∨(i=1∧n=2)) with rfl | ⟨rfl,rfl⟩
  ·exact⟨fun _=>rfl,fun _=>rfl⟩
  ·exact⟨fun e=>by omega,fun _=>rfl⟩
 | k+1,g,h=>by
  rw[Jz7] at h
  split at h
  ·cases h
  ·rename_i g' hg'
   exact Kk5 hf (Ko1 hf hi hn hg') (Nat.le_refl _) h
/-! ### What is told. -/
def Jy9 (f : List (List Tm)) (x e : List Iv) (h : Rat) : Prop := Jz8 f ∧ Cn7 x ∧ Cn7 e ∧ x.length = f.length ∧ e.length = f.length ∧ 0 < h
instance (f:List (List Tm)) (x e:List Iv) (h:Rat):Decidable (Jy9 f x e h):=by unfold Jy9;infer_instance
def Kn0 (f:List (List Tm)) (x e:List Iv) (h:Rat) (i:Nat):Iv:=Cb5 (Bm3 x i) (Ay9 (0,h) (Aq8 (Bm3 e) (f.getD i [])))
def Kc4 (f:List (List Tm)) (x e:List Iv) (h:Rat):Prop:=Jy9 f x e h∧∀i,i<f.length→Ft1 (Kn0 f x e h i) (Bm3 e i)
instance (f:List (List Tm)) (x e:List Iv) (h:Rat):Decidable (Kc4 f x e h):=by unfold Kc4;infer_instance
def wS (h:Rat):Nat→Rat
 | 0=>1
 | j+1=>wS h j*h/((j+1:Nat):Rat)
def onB (x e:List Iv) (k j:Nat):List Iv:=if j=k then e else x
def enS (f:List (List Tm)) (x e:List Iv) (h:Rat) (k i:Nat):Nat→Iv
 | 0=>(0,0)
 | j+1=>Cb5 (enS f x e h k i j) (De8 (Aq8 (Bm3 (onB x e k j)) ((Jz7 f i j).getD [])) (wS h j))
def Jz2 (f:List (List Tm)) (x e:List Iv) (h:Rat) (k:Int):Prop:=Jy9 f x e h∧(1≤k∧k≤4)∧(Ke7 f k).isSome=true
noncomputable instance (f:List (List Tm)) (x e:List Iv) (h:Rat) (k:Int):Decidable (Jz2 f x e h k):=by unfold Jz2;infer_instance
theorem Jz2.lie {f:List (List Tm)} {x e:List Iv} {h:Rat} {k:Int} (ok:Jz2 f x e h k) {j:Nat} (hj:(j:Int)≤k):Jz6 f (j:Int):=by
 have hL:Jz6 f k:=by
  refine Classical.byContradiction fun hno=>?_
  have:=ok.2.2
  rw[Kd3 hno] at this
  cases this
 refine⟨hL.1,⟨by omega,by have:=hL.2.1;omega⟩,fun i hi=>?_⟩
 rw[Int.toNat_natCast]
 cases hl:Jz7 f i j with
 | some g=>rfl
 | none=>
  have:=Kb0 hl k.toNat (by omega)
  have h2:=hL.2.2 i hi
  rw[this] at h2
  cases h2
theorem Jz2.not {f:List (List Tm)} {x e:List Iv} {h:Rat} {k:Int} {j:Nat} (hj:(j:Int)≤k) (hn:Ke7 f (j:Int)=none):¬Jz2 f x e h k:=fun ok=>by
 rw[Jz3 (ok.lie hj)] at hn
 cases hn
theorem Kk1 {c:Nat} (h:c≤65536):Sz 1 ((c:Nat):Rat):=
 ⟨by rw[Rat.num_natCast];exact Bc6 (Nat.lt_of_le_of_lt h (by decide +kernel)),by rw[Rat.den_natCast,Ax0];exact Nat.le_refl _⟩
theorem Ki2 {h:Rat} (hz:Sz 4 h): ∀j,j≤5→Sz (1+j*6) (wS h j)
 | 0,_=>Sz.one (Nat.le_refl 1)
 | j+1,hj=>by
  have h1:=(Ki2 hz j (by omega)).mul hz
  exact(h1.div (Kk1 (c:=j+1) (by omega)) (Nat.le_refl 1)).mono (by omega)
end Go.Proofs.YtahohahjnhfedaaGreatDoor
/- A field of numbers: its derivatives, where it leads: plain law. -/
namespace Go.Proofs.YtahohahjnhfedaaGreatDoor
open Go Go.SX
theorem Ld4 (c:Rat):c=0∧cst c = []∨c≠0∧cst c = [(⟨0,0,0⟩,c)]:=by
 by_cases h:c=0
 ·exact .inl ⟨h,by unfold cst Ag2;simp[Bg6,h]⟩
 ·exact .inr ⟨h,by unfold cst Ag2;simp[Bg6,h]⟩
theorem Le0 (c:Rat):Av6 (cst c):=Ce8 _
theorem Lf8 (l:Nat→Iv) (c:Rat):Aq8 l (cst c)=Eb6 c:=by
 rcases Ld4 c with⟨h,e⟩ | ⟨_,e⟩
 ·rw[e,h];rfl
 ·rw[e]
  show Cb5 (0,0) (Ci9 l (⟨0,0,0⟩,c) 3)=Eb6 c
  have:Ci9 l (⟨0,0,0⟩,c) 3=Eb6 c:=rfl
  rw[this]
  exact Prod.ext (Rat.zero_add _) (Rat.zero_add _)
theorem Li8 (l:Nat→Iv):Aq8 l []=(0,0):=rfl
theorem Lf9 {x:Iv} (h:x.1≤x.2):Ai3 x 1=x:=by
 unfold Ai3
 rw[if_neg (by omega)]
 unfold Ag0
 rw[show x.1^1=x.1 by rw[Rat.pow_succ,Rat.pow_zero,Rat.one_mul],show x.2^1=x.2 by rw[Rat.pow_succ,Rat.pow_zero,Rat.one_mul],(Ht1 h).1,(Ht1 h).2]
theorem Li3 {x:Iv} (h:x.1≤x.2):Ay9 (Eb6 1) x=x:=by
 simp only[Ay9,Bu9,Ag0,Eb6,Rat.one_mul]
 refine Prod.ext ?_ ?_
 ·show Az9 (Az9 x.1 x.2) (Az9 x.2 x.1)=x.1
  unfold Az9
  grind
 ·show Au7 (Au7 x.1 x.2) (Au7 x.2 x.1)=x.2
  unfold Au7
  grind
theorem Lj1 {l:Nat→Iv} {i:Nat} (h:(l i).1≤(l i).2) (hi:i<2):Aq8 l (Dc6 (i:Int))=l i:=by
 have e:Dc6 (i:Int) = [(Da3 i,1)]:=by unfold Dc6;rw[if_pos ⟨by omega,by omega⟩,Int.toNat_natCast]
 rw[e]
 show Cb5 (0,0) (Ci9 l (Da3 i,1) 3)=l i
 have:Ci9 l (Da3 i,1) 3=l i:=by
  rcases(by omega:i=0∨i=1) with rfl | rfl
  ·show Ay9 (Eb6 1) (Ai3 (l 0) 1)=l 0
   rw[Lf9 h,Li3 h]
  ·show Ay9 (Eb6 1) (Ai3 (l 1) 1)=l 1
   rw[Lf9 h,Li3 h]
 rw[this]
 exact Prod.ext (Rat.zero_add _) (Rat.zero_add _)
theorem Lj0 {i j:Nat} (hi:i<2) (hj:j<2):Hc3 (Dc6 (i:Int)) (j:Int)=if j=i then[(⟨0,0,0⟩,1)] else[]:=by
 rcases(by omega:i=0∨i=1) with rfl | rfl<;>rcases(by omega:j=0∨j=1) with rfl | rfl<;>decide +kernel
theorem Lj4 (c:Rat) (i:Int):Hc3 (cst c) i = []:=by
 unfold Hc3
 split
 ·rcases Ld4 c with⟨_,e⟩ | ⟨_,e⟩
  ·rw[e];rfl
  ·rw[e]
   have:Hc1 [((⟨0,0,0⟩:Mon),c)] i.toNat = []:=by
    unfold Hc1 Hc2 An6
    simp
   rw[this]
   rfl
 ·rfl
theorem Li6 (i:Int):Hc3 [] i = []:=by
 unfold Hc3
 split<;>rfl
theorem Lg1 {c:List Tm} (h:Av6 c):Ag2 (An8 [(⟨0,0,0⟩,1)] c)=c:=by
 have e:An8 [((⟨0,0,0⟩:Mon),(1:Rat))] c=c:=by
  unfold An8
  rw[List.flatMap_cons,List.flatMap_nil,List.append_nil]
  conv=>rhs;rw[←List.map_id c]
  refine List.map_congr_left fun t _=>?_
  refine Prod.ext ?_ ?_
  ·exact Mon.Fp2 (Int.zero_add _) (Int.zero_add _) (Int.zero_add _)
  ·exact Rat.one_mul _
 rw[e,Jw8 h]
def Lc5 (n:Nat→Rat) (m:Nat):List (List Tm):=(List.range m).map fun i=>cst (n i)
theorem Lc3 (n:Nat→Rat) (m:Nat):(Lc5 n m).length=m:=by unfold Lc5;rw[List.length_map,List.length_range]
theorem Lh3 {n:Nat→Rat} {m i:Nat} (hi:i<m):(Lc5 n m).getD i []=cst (n i):=by
 unfold Lc5
 rw[List.getD_eq_getElem?_getD,List.getElem?_map,List.getElem?_range hi]
 rfl
theorem Ld9 {n:Nat→Rat} {m:Nat} {q:List Tm} (h:q∈Lc5 n m): ∃i,i<m∧q=cst (n i):=by
 obtain⟨i,hi,rfl⟩:=List.mem_map.1 h
 exact⟨i,List.mem_range.1 hi,rfl⟩
theorem Lk8 (c:Rat) (n:Nat):VNs n (cst c):=fun t ht=>by
 obtain⟨u,hu,e⟩:=Gu2 ht
 rw[List.mem_singleton.1 hu] at e
 rw[e]
 exact⟨fun _=>rfl,fun _=>rfl⟩
theorem Lf2 (c:Rat):POk (cst c):=POk.norm fun t ht=>by rw[List.mem_singleton.1 ht];exact(by decide:(⟨0,0,0⟩:Mon).ok)
theorem Le4 (q:List Tm):Ct4 [] q:=fun a ha=>by cases ha
theorem Le1 {f:List (List Tm)} {g:List Tm} (hg: ∀j:Nat,Hc3 g (j:Int) = []): ∀j,Jz9 f g j=some []
 | 0=>rfl
 | j+1=>by
  rw[Jz9,Le1 hg j,hg j]
  show(if Ct4 [] (f.getD j []) then some (Ag2 ([] ++ Ag2 (An8 [] (f.getD j [])))) else none)=_
  rw[if_pos (Le4 _)]
  rfl
theorem Lf5 {n:Nat→Rat} {m i:Nat} (hm:m≤2) (hi:i<m): ∀j,j≤m→Jz9 (Lc5 n m) (Dc6 (i:Int)) j=some (if i<j then cst (n i) else[])
 | 0,_=>by rw[if_neg (Nat.not_lt_zero _)];rfl
 | j+1,hj=>by
  rw[Jz9,Lf5 hm hi j (by omega),Lj0 (by omega) (by omega),Lh3 (by omega)]
  dsimp only
  by_cases e:j=i
  ·subst e
   rw[if_pos rfl,if_neg (Nat.lt_irrefl _),if_pos (Nat.lt_succ_self _),Lg1 (Le0 _),List.nil_append,Jw8 (Le0 _)]
   refine if_pos fun a ha b hb=>?_
   rw[List.mem_singleton.1 ha]
   have:=Lf2 (n j) b hb
   show(Mon.add ⟨0,0,0⟩ b.1).ok
   have e2:Mon.add ⟨0,0,0⟩ b.1=b.1:=Mon.Fp2 (Int.zero_add _) (Int.zero_add _) (Int.zero_add _)
   rw[e2]
   exact this
  ·rw[if_neg e,if_pos (Le4 _)]
   show some (Ag2 ((if i<j then cst (n i) else[]) ++ []))=_
   rw[List.append_nil]
   by_cases h:i<j
   ·rw[if_pos h,if_pos (by omega),Jw8 (Le0 _)]
   ·rw[if_neg h,if_neg (by omega)];rfl
theorem Li1 {n:Nat→Rat} {m i:Nat} (hm:m≤2) (hi:i<m):Jz7 (Lc5 n m) i 0=some (Dc6 (i:Int))∧Jz7 (Lc5 n m) i 1=some (cst (n i))∧∀k,Jz7 (Lc5 n m) i (k+2)=some []:=by
 have h1:Jz7 (Lc5 n m) i 1=some (cst (n i)):=by
  show Kd0 (Lc5 n m) (Dc6 (i:Int))=_
  unfold Kd0
  rw[Lc3,Lf5 hm hi m (Nat.le_refl _),if_pos hi]
 have h2:Jz7 (Lc5 n m) i 2=some []:=by
  rw[Jz7,h1]
  exact Le1 (fun j=>Lj4 _ _) _
 refine⟨rfl,h1,fun k=>?_⟩
 induction k with
 | zero=>exact h2
 | succ k ih=>
  rw[show k+1+2=(k+2)+1 by omega,Jz7,ih]
  exact Le1 (fun j=>Li6 _) _
theorem Lh0 {n:Nat→Rat} {m:Nat} (h1:1≤m) (h2:m≤2):Jz8 (Lc5 n m):=by
 refine⟨fun q hq=>?_,by rw[Lc3];exact h1,by rw[Lc3];exact h2⟩
 obtain⟨i,hi,rfl⟩:=Ld9 hq
 rw[Lc3]
 exact(Kk7 h1 h2 (Lf2 _)).2 (Lk8 _ _)
theorem Lg3 {n:Nat→Rat} {m:Nat} (h1:1≤m) (h2:m≤2) {k:Int} (hk:0≤k∧k≤4):Jz6 (Lc5 n m) k:=by
 refine⟨Lh0 h1 h2,hk,fun i hi=>?_⟩
 rw[Lc3] at hi
 obtain⟨a,b,c⟩:=Li1 (n:=n) h2 hi
 have h9: ∃j,k.toNat=0∨k.toNat=1∨k.toNat=j+2:=⟨k.toNat-2,by omega⟩
 obtain⟨j,h9⟩:=h9
 rcases h9 with e | e | e
 ·rw[e,a];rfl
 ·rw[e,b];rfl
 ·rw[e,c];rfl
theorem Lj5 (x:Iv):Cb5 (0,0) x=x:=Prod.ext (Rat.zero_add _) (Rat.zero_add _)
theorem Lj8 (x:Iv):Cb5 x (0,0)=x:=Prod.ext (Rat.add_zero _) (Rat.add_zero _)
theorem Lg6 {x:Iv} (h:x.1≤x.2):De8 x 1=x:=by
 unfold De8 Ag0
 rw[Rat.mul_one,Rat.mul_one,(Ht1 h).1,(Ht1 h).2]
theorem Li7 (r:Rat):De8 (0,0) r=(0,0):=by
 unfold De8 Ag0
 rw[Rat.zero_mul,(Ht1 Rat.le_refl).1,(Ht1 Rat.le_refl).2]
theorem Lg9 (c r:Rat):De8 (Eb6 c) r=Eb6 (c*r):=by
 unfold De8 Ag0 Eb6
 rw[(Ht1 Rat.le_refl).1,(Ht1 Rat.le_refl).2]
theorem Lj9 {n:Nat→Rat} {m i:Nat} (h2:m≤2) (hi:i<m) {x e:List Iv} {h:Rat} (hx:(Bm3 x i).1≤(Bm3 x i).2) {k:Nat} (hk:1≤k): ∀j,enS (Lc5 n m) x e h k i (j+2)=((Bm3 x i).1+n i*h,(Bm3 x i).2+n i*h):=by
 obtain⟨a,b,c⟩:=Li1 (n:=n) h2 hi
 have w1:wS h 1=h:=by
  show 1*h/((1:Nat):Rat)=h
  rw[show((1:Nat):Rat)=1 from rfl,Rat.div_def]
  grind
 have e1:enS (Lc5 n m) x e h k i 1=Bm3 x i:=by
  show Cb5 (0,0) (De8 (Aq8 (Bm3 (onB x e k 0)) ((Jz7 (Lc5 n m) i 0).getD [])) 1)=_
  have ho:onB x e k 0=x:=if_neg (by omega)
  rw[a,ho]
  show Cb5 (0,0) (De8 (Aq8 (Bm3 x) (Dc6 (i:Int))) 1)=_
  rw[Lj1 hx (by omega),Lg6 hx,Lj5]
 have e2:enS (Lc5 n m) x e h k i 2=((Bm3 x i).1+n i*h,(Bm3 x i).2+n i*h):=by
  show Cb5 (enS (Lc5 n m) x e h k i 1) (De8 (Aq8 (Bm3 (onB x e k 1)) ((Jz7 (Lc5 n m) i 1).getD [])) (wS h 1))=_
  rw[e1,b,w1]
  show Cb5 (Bm3 x i) (De8 (Aq8 (Bm3 (onB x e k 1)) (cst (n i))) h)=_
  rw[Lf8,Lg9]
  rfl
 intro j
 induction j with
 | zero=>exact e2
 | succ j ih=>
  show Cb5 (enS (Lc5 n m) x e h k i (j+2)) (De8 (Aq8 (Bm3 (onB x e k (j+2))) ((Jz7 (Lc5 n m) i (j+2)).getD [])) (wS h (j+2)))=_
  rw[ih,c j]
  show Cb5 _ (De8 (Aq8 (Bm3 (onB x e k (j+2))) []) (wS h (j+2)))=_
  rw[Li8,Li7,Lj8]
theorem Lk1 (h c:Rat):Ay9 (0,h) (Eb6 c)=(Az9 0 (h*c),Au7 0 (h*c)):=by
 simp only[Ay9,Bu9,Ag0,Eb6,Rat.zero_mul]
 refine Prod.ext ?_ ?_
 ·show Az9 (Az9 0 (h*c)) (Az9 0 (h*c))=Az9 0 (h*c)
  rcases Dj0 (Az9 0 (h*c)) (Az9 0 (h*c)) with e | e<;>exact e
 ·show Au7 (Au7 0 (h*c)) (Au7 0 (h*c))=Au7 0 (h*c)
  rcases Dj7 (Au7 0 (h*c)) (Au7 0 (h*c)) with e | e<;>exact e
theorem Lg0 {n:Nat→Rat} {m i:Nat} (hi:i<m) (x e:List Iv) (h:Rat):Kn0 (Lc5 n m) x e h i=((Bm3 x i).1+Az9 0 (h*n i),(Bm3 x i).2+Au7 0 (h*n i)):=by
 unfold Kn0
 rw[Lh3 hi,Lf8,Lk1]
 rfl
theorem Li2 {n:Nat→Rat} {m i:Nat} (hi:i<m) {x e:List Iv} {h:Rat} (he:Bm3 e i=Bu9 (Bm3 x i) ((Bm3 x i).1+n i*h,(Bm3 x i).2+n i*h)):Ft1 (Kn0 (Lc5 n m) x e h i) (Bm3 e i):=by
 rw[Lg0 hi,he]
 constructor
 ·show Az9 (Bm3 x i).1 ((Bm3 x i).1+n i*h)≤(Bm3 x i).1+Az9 0 (h*n i)
  have a1:=Dh5 (Bm3 x i).1 ((Bm3 x i).1+n i*h)
  rcases Dj0 0 (h*n i) with e1 | e1<;>rw[e1]
  ·rw[Rat.add_zero];exact a1.1
  ·rw[Rat.mul_comm h];exact a1.2
 ·show(Bm3 x i).2+Au7 0 (h*n i)≤Au7 (Bm3 x i).2 ((Bm3 x i).2+n i*h)
  have a1:=Cl6 (Bm3 x i).2 ((Bm3 x i).2+n i*h)
  rcases Dj7 0 (h*n i) with e1 | e1<;>rw[e1]
  ·rw[Rat.add_zero];exact a1.1
  ·rw[Rat.mul_comm h];exact a1.2
theorem Lf6 {n:Nat→Rat} {m i:Nat} (hi:i<m) {x:List Iv} {h:Rat} (hh:0<h):Ft1 (Kn0 (Lc5 n m) x x h i) (Bm3 x i)↔n i=0:=by
 rw[Lg0 hi]
 constructor
 ·rintro⟨h1,h2⟩
  have h1:(Bm3 x i).1≤(Bm3 x i).1+Az9 0 (h*n i):=h1
  have h2:(Bm3 x i).2+Au7 0 (h*n i)≤(Bm3 x i).2:=h2
  have a1:=Dh5 0 (h*n i)
  have a2:=Cl6 0 (h*n i)
  have e:h*n i=0:=by
   have k1:0≤h*n i:=by grind
   have k2:h*n i≤0:=by grind
   exact Rat.le_antisymm k2 k1
  rcases Rat.mul_eq_zero.1 e with e | e
  ·exact absurd e (by grind)
  ·exact e
 ·intro e
  rw[e,Rat.mul_zero]
  have a1:Az9 (0:Rat) 0=0:=by rcases Dj0 (0:Rat) 0 with e | e<;>exact e
  have a2:Au7 (0:Rat) 0=0:=by rcases Dj7 (0:Rat) 0 with e | e<;>exact e
  rw[a1,a2,Rat.add_zero,Rat.add_zero]
  exact⟨Rat.le_refl,Rat.le_refl⟩
end Go.Proofs.YtahohahjnhfedaaGreatDoor
/- flow.fits, Trap, End. -/
namespace Go.Proofs.YtahohahjnhfedaaGreatDoor
open Go Go.SX
theorem Kj6 {W0:PW} {M:Nat→Prop} {s sx se u t:Sl} {b:Bool} {f:List (List Tm)} {x e:List Iv} {h:Rat} {k:Nat} (hf:Ps W0 s f) (hx:Bc3 141 W0 sx x) (he:Bc3 141 W0 se e) (hh:Ab3 141 W0 u b t h) (hl:f.length≤1000) (hp: ∀p∈f,p.length≤1099511627776) (kx: ∀y∈x,IvS k y) (ke: ∀y∈e,IvS k y) (hk:k≤1000) (lx:x.length≤1000) (le:e.length≤1000) (hz:Sz k h):
  Aa0 Tryz.prog 39 [s.v,sx.v,se.v,.agg ⟨[u.v,.bool b,t.v]⟩] W0 M fun v W'=>v = .bool (decide (Jy9 f x e h))∧True:=by
 apply Kg2
 have n0:=hf.n
 have n1:=hx.n
 have n2:=he.n
 have no:¬Jy9 f x e h→Value.bool false = .bool (decide (Jy9 f x e h))∧True:=fun hno=>⟨by rw[decide_eq_false hno],trivial⟩
 refine Jz5 hf (by omega) hp fun W2 hE2 _=>⟨_,rfl,fun b1=>?_,fun b1 W _=>no fun ok=>of_decide_eq_false b1 ok.1⟩
 refine Cm2 (hx.ext hE2) kx (by omega) (by omega) fun W5 hE5 _=>⟨_,rfl,fun b2=>?_,fun b2 W _=>no fun ok=>of_decide_eq_false b2 ok.2.1⟩
 refine Cm2 (he.ext (hE2.trans hE5)) ke (by omega) (by omega) fun W8 hE8 _=>⟨_,rfl,fun b3=>⟨fun h1=>⟨fun h2=>?_,fun h2 W _=>no fun ok=>h2 (by have:=ok.2.2.2.2.1;omega)⟩,fun h1 W _=>no fun ok=>h1 (by have:=ok.2.2.2.1;omega)⟩,fun b3 W _=>no fun ok=>of_decide_eq_false b3 ok.2.2.1⟩
 refine Bk6 (hh.ext (hE2.trans (hE5.trans hE8))) hz (by omega) fun W11 hE11 _=>⟨_,rfl,fun W13 _=>⟨?_,trivial⟩⟩
 congr 1
 rw[decide_eq_decide,Al3]
 exact⟨fun h3=>⟨of_decide_eq_true b1,of_decide_eq_true b2,of_decide_eq_true b3,by omega,by omega,h3⟩,fun ok=>ok.2.2.2.2.2⟩
theorem Ka7 {W0 W:PW} {M:Nat→Prop} {s sx se u t:Sl} {b:Bool} {f:List (List Tm)} {x e:List Iv} {h:Rat} {k:Nat} {K:Value→PW→Prop} (hf:Ps W s f) (hx:Bc3 141 W sx x) (he:Bc3 141 W se e) (hh:Ab3 141 W u b t h) (hl:f.length≤1000) (hp: ∀p∈f,p.length≤1099511627776) (kx: ∀y∈x,IvS k y) (ke: ∀y∈e,IvS k y) (hk:k≤1000) (lx:x.length≤1000) (le:e.length≤1000) (hz:Sz k h) (kont: ∀(W':PW),Ext W W'→(True)→K (.bool (decide (Jy9 f x e h))) W'):
  Aa1 Tryz.prog W0 M 39 [s.v,sx.v,se.v,.agg ⟨[u.v,.bool b,t.v]⟩] W K:=
 Aa2 (fun W' hE=>Kj6 (M:=fun _=>False) (hf.ext hE) (hx.ext hE) (he.ext hE) (hh.ext hE) hl hp kx ke hk lx le hz) (fun W' v W'' hE hE' hP=>by
  obtain⟨rfl,h⟩:=hP
  exact kont W'' (hE.trans hE') h)
def ftI (W0:PW) (f:List (List Tm)) (x e:List Iv) (h:Rat) (L:List PL) (W:PW):Prop:=match L with
 | [.val (.int .i64 i)]=>∃j:Nat,i=(j:Int)∧j≤f.length∧Ext W0 W∧∀y,y<j→Ft1 (Kn0 f x e h y) (Bm3 e y)
 | _=>False
theorem Kk4 {f:List (List Tm)} {x e:List Iv} {h:Rat} (ok:Jy9 f x e h) {p:List Tm} (hp:p∈f):An3 p e:=⟨ok.2.2.1,by have:=ok.1.1 p hp;have:=ok.2.2.2.2.1;omega⟩
theorem Kp2 {h:Rat} {y:Iv} (hz:Sz 4 h) {K:Nat} (hy:BdI K y):BdI (9+K) (Ay9 (0,h) y):=(BdI.Co7 (k:=4) (x:=(0,h)) ⟨Sz.zero (by omega),hz⟩).mul hy
theorem Kn9 {f:List (List Tm)} {x e:List Iv} {h:Rat} (hb: ∀q∈f,Bd 56029 q∧q.length≤14) (ho: ∀q∈f,POk q) (kx: ∀y∈x,IvS 20 y) (ke: ∀y∈e,IvS 20 y) (hl:e.length≤5) (hz:Sz 4 h) {i:Nat} (hi:i<f.length):BdI 100000 (Aq8 (Bm3 e) (f.getD i []))∧BdI 100010 (Ay9 (0,h) (Aq8 (Bm3 e) (f.getD i [])))∧BdI 100100 (Kn0 f x e h i):=by
 have hm:=List.getElem_mem hi
 have hz1:BxN 56029 20 f[i] e:=⟨(hb _ hm).1,ke,ho _ hm,by have:=(hb _ hm).2;omega,by omega,by omega,by omega⟩
 have h1:BdI 100000 (Aq8 (Bm3 e) (f.getD i [])):=by rw[Jy8 hi];exact hz1.over.mono (by omega)
 have h2:=(Kp2 hz h1).mono (show _≤100010 by omega)
 have hx:BdI 41 (Bm3 x i):=Ep8 kx i
 exact⟨h1,h2,(hx.add h2).mono (by omega)⟩
theorem Kk0 {W0:PW} {M:Nat→Prop} {s sx se u t:Sl} {b:Bool} {f:List (List Tm)} {x e:List Iv} {h:Rat} (hf:Ps W0 s f) (hx:Bc3 141 W0 sx x) (he:Bc3 141 W0 se e) (hh:Ab3 141 W0 u b t h) (hl:f.length≤4) (hb: ∀q∈f,Bd 56029 q∧q.length≤14) (ho: ∀q∈f,POk q) (kx: ∀y∈x,IvS 20 y) (ke: ∀y∈e,IvS 20 y) (lx:x.length≤5) (le:e.length≤5) (hz:Sz 4 h):
  Aa0 Tryz.prog 15 [s.v,sx.v,se.v,.agg ⟨[u.v,.bool b,t.v]⟩] W0 M fun v W'=>v = .bool (decide (Kc4 f x e h))∧True:=by
 apply Kf7
 have n0:=hf.n
 have no:¬Kc4 f x e h→Value.bool false = .bool (decide (Kc4 f x e h))∧True:=fun hno=>⟨by rw[decide_eq_false hno],trivial⟩
 refine Ka7 hf hx he hh (by omega) (fun p hp=>by have:=(hb p hp).2;omega) kx ke (by omega) (by omega) (by omega) (hz.mono (by omega)) fun W2 hE2 _=>⟨_,rfl,fun b1 W _=>no fun ok=>by simp[ok.1] at b1,fun b1=>?_⟩
 have fit:Jy9 f x e h:=by simpa using b1
 refine⟨ftI W2 f x e h,Kq0 f.length,⟨0,rfl,Nat.zero_le _,Ext.refl _,fun y hy=>absurd hy (Nat.not_lt_zero _)⟩,?_⟩
 rintro i7 W8 ⟨j,rfl,hj,hE8,hall⟩
 refine⟨fun hlt=>?_,fun hge W52 _=>⟨?_,trivial⟩⟩
 rotate_left
 ·have:j=f.length:=by omega
  subst this
  rw[decide_eq_true (show Kc4 f x e h from⟨fit,hall⟩)]
 have hjl:j<f.length:=by omega
 have E8:=hE2.trans hE8
 obtain⟨s9,e9,hq⟩:=(hf.ext E8).at hjl
 have hm:=List.getElem_mem hjl
 have hz1:BxN 56029 20 f[j] e:=⟨(hb _ hm).1,ke,ho _ hm,by have:=(hb _ hm).2;omega,by omega,by omega,by omega⟩
 have hs:=Kk4 fit hm
 obtain⟨b1,b2,b3⟩:=Kn9 hb ho kx ke le hz hjl
 refine⟨(hf.ext E8).inB (by omega) (by omega),s9,e9,Bi4 hq (he.ext E8) hz1 fun l W11 hE11 h11=>h11.Ge9 fun s12 b13 s14 s15 b16 s17 h11=>?_⟩
 rw[if_pos hs,←Jy8 hjl] at h11
 have hH:SpV 141 W11 [.slice none 0 0,.bool false,.slice none 0 0,u.v,.bool b,t.v] (0,h):=SpV.mk (s:=⟨none,0,0⟩) (t:=⟨none,0,0⟩) (x:=(0,h)) (Ar9 W11) (hh.ext (E8.trans hE11))
 have y1:IvS 100000 ((0:Rat),h):=⟨Sz.zero (by omega),hz.mono (by omega)⟩
 refine Cx4 hH h11 y1 b1.sz (by omega) fun l W20 hE20 h20=>h20.out fun s21 b22 s23 s24 b25 s26 h20=>?_
 refine⟨fun e0=>absurd e0 (by rw[decide_eq_true hs];decide),fun _=>?_⟩
 have E20:=E8.trans (hE11.trans hE20)
 have lxx:j<x.length:=by have:=fit.2.2.2.1;omega
 have lee:j<e.length:=by have:=fit.2.2.2.2.1;omega
 obtain⟨y,⟨s28,b29,s30,s31,b32,s33,rfl,v1,v2⟩,el1⟩:=(hx.ext E20).at lxx
 obtain⟨y',⟨s34,b35,s36,s37,b38,s39,rfl,v3,v4⟩,el2⟩:=(he.ext E20).at lee
 rw[←Fi1 lxx] at v1 v2
 rw[←Fi1 lee] at v3 v4
 have zx:BdI 41 (Bm3 x j):=Ep8 kx j
 have ze:BdI 41 (Bm3 e j):=Ep8 ke j
 refine⟨(hx.ext E20).inB (by omega) (by omega),s28,b29,s30,s31,b32,s33,el1 0 rfl,(he.ext E20).inB (by omega) (by omega),s34,b35,s36,s37,b38,s39,el2 0 rfl,?_⟩
 refine Cy0 (SpV.mk v1 v2) h20 (zx.mono (show 41≤100010 by omega)).sz b2.sz (by omega) fun l W41 hE41 h41=>h41.out fun s42 b43 s44 s45 b46 s47 h41=>⟨hE41,?_⟩
 refine Fx1 h41 (SpV.mk (v3.ext hE41) (v4.ext hE41)) b3.sz (ze.mono (show 41≤100100 by omega)).sz (by omega) fun W49 hE49 _=>⟨_,rfl,fun b5 W _=>no fun ok=>?_,fun b5=>⟨by unfold I64;omega,⟨j+1,by push_cast;rfl,by omega,hE8.trans (hE11.trans (hE20.trans (hE41.trans hE49))),fun y hy=>?_⟩,by show f.length-Int.toNat ((j:Int)+1)<f.length-Int.toNat (j:Int);omega⟩⟩
 ·have hq:Ft1 (Kn0 f x e h j) (Bm3 e j):=ok.2 j hjl
  exact absurd b5 (by rw[decide_eq_true (show Ft1 (Cb5 (Bm3 x j) (Ay9 (0,h) (Aq8 (Bm3 e) (f.getD j [])))) (Bm3 e j) from hq)];decide)
 ·by_cases e1:y=j
  ·rw[e1]
   have:decide (Ft1 (Cb5 (Bm3 x j) (Ay9 (0,h) (Aq8 (Bm3 e) (f.getD j [])))) (Bm3 e j))=true:=by simpa using b5
   exact of_decide_eq_true this
  ·exact hall y (by omega)
theorem Kf6 {W0 W:PW} {M:Nat→Prop} {s sx se u t:Sl} {b:Bool} {f:List (List Tm)} {x e:List Iv} {h:Rat} {K:Value→PW→Prop} (hf:Ps W s f) (hx:Bc3 141 W sx x) (he:Bc3 141 W se e) (hh:Ab3 141 W u b t h) (hl:f.length≤4) (hb: ∀q∈f,Bd 56029 q∧q.length≤14) (ho: ∀q∈f,POk q) (kx: ∀y∈x,IvS 20 y) (ke: ∀y∈e,IvS 20 y) (lx:x.length≤5) (le:e.length≤5) (hz:Sz 4 h) (kont: ∀(W':PW),Ext W W'→(True)→K (.bool (decide (Kc4 f x e h))) W'):
  Aa1 Tryz.prog W0 M 15 [s.v,sx.v,se.v,.agg ⟨[u.v,.bool b,t.v]⟩] W K:=
 Aa2 (fun W' hE=>Kk0 (M:=fun _=>False) (hf.ext hE) (hx.ext hE) (he.ext hE) (hh.ext hE) hl hb ho kx ke lx le hz) (fun W' v W'' hE hE' hP=>by
  obtain⟨rfl,h⟩:=hP
  exact kont W'' (hE.trans hE') h)
/-! ### End. -/
def Km7 (a b : Nat → Iv) (n t : Nat) : List Iv := (List.range n).map fun i => if i < t then b i else a i
theorem Kh0 (a b:Nat→Iv) (n:Nat):Km7 a b n 0=(List.range n).map a:=List.map_congr_left fun i _=>if_neg (Nat.not_lt_zero _)
theorem Kk8 (a b:Nat→Iv) (n:Nat):Km7 a b n n=(List.range n).map b:=List.map_congr_left fun i hi=>if_pos (List.mem_range.1 hi)
theorem Kk9 (a b:Nat→Iv) (n t:Nat):(Km7 a b n t).length=n:=by unfold Km7;rw[List.length_map,List.length_range]
theorem Kn1 {a b:Nat→Iv} {n t:Nat} (h:t<n):(Km7 a b n t)[t]?=some (a t):=by
 unfold Km7
 rw[List.getElem?_map,List.getElem?_range h]
 show some (if t<t then b t else a t)=some (a t)
 rw[if_neg (Nat.lt_irrefl t)]
theorem Kl0 {a b:Nat→Iv} {n t:Nat} (h:t<n):(Km7 a b n t).set t (b t)=Km7 a b n (t+1):=by
 apply List.ext_getElem?
 intro i
 unfold Km7
 rw[List.getElem?_set]
 by_cases e:t=i
 ·subst e
  rw[if_pos rfl,List.length_map,List.length_range,if_pos h,List.getElem?_map,List.getElem?_range h]
  show some (b t)=some (if t<t+1 then b t else a t)
  rw[if_pos (Nat.lt_succ_self t)]
 ·rw[if_neg e]
  by_cases hi:i<n
  ·rw[List.getElem?_map,List.getElem?_map,List.getElem?_range hi]
   show some (if i<t then b i else a i)=some (if i<t+1 then b i else a i)
   by_cases h2:i<t
   ·rw[if_pos h2,if_pos (by omega)]
   ·rw[if_neg h2,if_neg (by omega)]
  ·rw[List.getElem?_eq_none (by simp;omega),List.getElem?_eq_none (by simp;omega)]
def enL (f:List (List Tm)) (x e:List Iv) (h:Rat) (k j:Nat):List Iv:=(List.range f.length).map fun i=>enS f x e h k i j
def Kr4 (W0:PW) (M:Nat→Prop) (sl sx sb:Sl) (bb:Bool) (tb:Sl) (l17:List (List Value)) (W36:PW) (K:List (List Value)→PW→Prop):Prop:=
 ∃(F41:List PL→PW→Prop) (F42:List PL→PW→Nat),F41 [PL.val (.int IntKind.i64 0),PL.row l17] W36∧∀(l43:List (List Value)) (i44:Int) (W45:PW),F41 [PL.val (.int IntKind.i64 i44),PL.row l43] W45→
  (i44<↑sl.2→inB sl i44∧∃s46:Sl,Aa7 W45 sl 1 (Int.toNat i44) 0 [Sl.v s46]∧Aa1 Tryz.prog W0 M 41 [.agg ⟨[Sl.v s46]⟩,Sl.v sx] W45 fun v47 W48=>∃(s49:Sl) (b50:Bool) (s51 s52:Sl) (b53:Bool) (s54:Sl) (b55:Bool),v47 = .tuple ⟨[.agg ⟨[Sl.v s49,.bool b50,Sl.v s51,Sl.v s52,.bool b53,Sl.v s54]⟩,.bool b55]⟩∧
   (0≤i44∧i44<↑(List.length l43))∧∃(s56:Sl) (b57:Bool) (s58 s59:Sl) (b60:Bool) (s61:Sl),Ck3 l43 (Int.toNat i44) 0 [Sl.v s56,.bool b57,Sl.v s58,Sl.v s59,.bool b60,Sl.v s61]∧
   Aa1 Tryz.prog W0 M 43 [.agg ⟨[Sl.v s49,.bool b50,Sl.v s51,Sl.v s52,.bool b53,Sl.v s54]⟩,.agg ⟨[Sl.v sb,.bool bb,Sl.v tb]⟩] W48 fun v62 W63=>∃(s64:Sl) (b65:Bool) (s66 s67:Sl) (b68:Bool) (s69:Sl),v62 = .agg ⟨[Sl.v s64,.bool b65,Sl.v s66,Sl.v s67,.bool b68,Sl.v s69]⟩∧
   Aa1 Tryz.prog W0 M 42 [.agg ⟨[Sl.v s56,.bool b57,Sl.v s58,Sl.v s59,.bool b60,Sl.v s61]⟩,.agg ⟨[Sl.v s64,.bool b65,Sl.v s66,Sl.v s67,.bool b68,Sl.v s69]⟩] W63 fun v70 W71=>∃(s72:Sl) (b73:Bool) (s74 s75:Sl) (b76:Bool) (s77:Sl),v70 = .agg ⟨[Sl.v s72,.bool b73,Sl.v s74,Sl.v s75,.bool b76,Sl.v s77]⟩∧
   (0≤i44∧i44<↑(List.length l43))∧Int.toNat i44<List.length l43∧I64 (i44+1)∧stp F41 F42 [PL.val (.int IntKind.i64 (i44+1)),PL.row (List.set l43 (Int.toNat i44) [Sl.v s72,.bool b73,Sl.v s74,Sl.v s75,.bool b76,Sl.v s77])] W71 [PL.val (.int IntKind.i64 i44),PL.row l43] W45)∧
  (¬i44<↑sl.2→K l43 W45)
def elI (W0:PW) (a b:Nat→Iv) (n:Nat) (L:List PL) (W:PW):Prop:=match L with
 | [.val (.int .i64 z),.row l]=>∃t:Nat,z=(t:Int)∧t≤n∧Ext W0 W∧An5 (SpV 141 W) l (Km7 a b n t)
 | _=>False
def Kq9 (n:Nat) (L:List PL) (_:PW):Nat:=match L with
 | [.val (.int .i64 z),_]=>n-z.toNat
 | _=>0
theorem Ki4 {W0 W:PW} {M:Nat→Prop} {sl sx sb:Sl} {bb:Bool} {tb:Sl} {l17:List (List Value)} {K:List (List Value)→PW→Prop} {X:List Iv} {gs:List (List Tm)} {a:Nat→Iv} {r:Rat} {KA:Nat} (hg:Ps W sl gs) (hx:Bc3 141 W sx X) (hr:Ab3 141 W sb bb tb r) (ha:An5 (SpV 141 W) l17 ((List.range gs.length).map a))
  (hn:gs.length≤4) (hB:Cn7 X) (kX: ∀y∈X,IvS 20 y) (hgs: ∀g∈gs,GOK 2000000 g∧Fd0 Cx8 0 g≤(X.length:Int)) (zr:Sz 40 r) (za: ∀i,i<gs.length→IvS KA (a i)) (hKA:KA≤100000000)
  (kont: ∀l W',Ext W W'→An5 (SpV 141 W') l ((List.range gs.length).map fun i=>Cb5 (a i) (De8 (Aq8 (Bm3 X) (gs.getD i [])) r))→K l W'):Kr4 W0 M sl sx sb bb tb l17 W K:=by
 have n0:=hg.n
 refine⟨elI W a (fun i=>Cb5 (a i) (De8 (Aq8 (Bm3 X) (gs.getD i [])) r)) gs.length,Kq9 gs.length,⟨0,rfl,Nat.zero_le _,Ext.refl _,by rw[Kh0];exact ha⟩,?_⟩
 rintro l43 i44 W45 ⟨t,rfl,ht,hE45,hal⟩
 have hl:=hal.len
 rw[Kk9] at hl
 refine⟨fun hlt=>?_,fun hge=>?_⟩
 ·have htl:t<gs.length:=by omega
  obtain⟨s46,e46,hq⟩:=(hg.ext hE45).at htl
  have hm:=List.getElem_mem htl
  obtain⟨gk,gv⟩:=hgs _ hm
  have hb3:=hB.1.2
  have hz1:BxN 2000000 20 gs[t] X:=⟨gk.bd,kX,gk.ok,by have:=gk.len;omega,by omega,by omega,by omega⟩
  have hs:An3 gs[t] X:=⟨hB,gv⟩
  have b1:BdI 2100000 (Aq8 (Bm3 X) gs[t]):=hz1.over.mono (by omega)
  have b2:=b1.scale zr
  refine⟨(hg.ext hE45).inB (by omega) (by omega),s46,e46,Bi4 hq (hx.ext hE45) hz1 fun l W48 hE48 h48=>h48.Ge9 fun s49 b50 s51 s52 b53 s54 h48=>⟨⟨by omega,by omega⟩,?_⟩⟩
  rw[if_pos hs] at h48
  obtain⟨c,hc,s56,b57,s58,s59,b60,s61,rfl,w1,w2⟩:=hal.get (Kn1 htl)
  refine⟨s56,b57,s58,s59,b60,s61,⟨_,hc,rfl⟩,?_⟩
  refine Hu2 (k:=2100000) h48 (hr.ext (hE45.trans hE48)) b1.sz (zr.mono (by omega)) (by omega) fun l W63 hE63 h63=>h63.out fun s64 b65 s66 s67 b68 s69 h63=>?_
  have E63:=hE48.trans hE63
  have zA:IvS 200000000 (a t):=⟨(za t htl).1.mono (by omega),(za t htl).2.mono (by omega)⟩
  refine Cy0 (SpV.mk (w1.ext E63) (w2.ext E63)) h63 zA (b2.mono (show _≤200000000 by omega)).sz (by omega) fun l W71 hE71 h71=>h71.out fun s72 b73 s74 s75 b76 s77 h71=>⟨⟨by omega,by omega⟩,by omega,by unfold I64;omega,⟨t+1,by push_cast;rfl,by omega,hE45.trans (E63.trans hE71),?_⟩,by show gs.length-Int.toNat ((t:Int)+1)<gs.length-Int.toNat (t:Int);omega⟩
  rw[←Kl0 htl,Int.toNat_natCast]
  refine(hal.mono fun _ _ h=>h.ext (E63.trans hE71)).set t ?_
  rw[Jy8 htl]
  exact h71
 ·have:t=gs.length:=by omega
  subst this
  rw[Kk8] at hal
  exact kont _ _ hE45 hal
end Go.Proofs.YtahohahjnhfedaaGreatDoor
