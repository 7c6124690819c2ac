/- The reference's intervals; cincturelaw5.Is, Of; span.Parse. -/
import Derived.Test.YtokefihiadbkbaaGreatDoorW8
import Derived.Test.YtokefihiadbkbaaGreatDoorW6
import Derived.Test.YtokefihiadbkbaaGreatDoorLib4
import Derived.Test.YtokefihiadbkbaaGreatDoorR14
import Derived.Test.YtokefihiadbkbaaGreatDoorW7
import Derived.Test.YtokefihiadbkbaaGreatDoorLib3
import Derived.Test.YtokefihiadbkbaaGreatDoorR12
import Derived.Test.YtokefihiadbkbaaGreatDoorR10
set_option linter.unusedVariables false
set_option linter.unusedSimpArgs false
set_option maxRecDepth 100000
namespace Go.Proofs.YtokefihiadbkbaaGreatDoor
open Go Go.SX
end Go.Proofs.YtokefihiadbkbaaGreatDoor
/- bound.Over, cinctureref1.Over. -/
namespace Go.Proofs.YtokefihiadbkbaaGreatDoor
open Go Go.SX
theorem Dq6 {m:Mon} (h:m.ok) (k:Nat):An6 m k=((mex m k:Nat):Int):=by
 unfold Mon.ok at h
 unfold An6 mex
 (repeat' split)<;>omega
def ovO (W0:PW) (p:List Tm) (b:Nat→Iv) (L:List PL) (W:PW):Prop:=match L with
 | [.val (.int .i64 i),.cells l]=>∃j:Nat,i=(j:Int)∧j≤p.length∧Ext W0 W∧SpV 231 W l (Aq8 b (p.take j))
 | _=>False
def ovI (W0:PW) (t:Tm) (b:Nat→Iv) (L:List PL) (W:PW):Prop:=match L with
 | [.val (.int .i64 i),.cells l]=>∃j:Nat,i=(j:Int)∧j≤3∧Ext W0 W∧SpV 231 W l (Ci9 b t j)
 | _=>False
theorem Fl7 {b:Nat→Iv} {p:List Tm} {k m e:Nat} (hp:Bd k p) (hm: ∀i,BdI m (b i)) (he: ∀t∈p,∀i,mex t.1 i≤e) (he2:e≤255) (hm2:m≤1000) (hk:k≤200000000):
  (∀j,IvS 210000000 (Aq8 b (p.take j)))∧(∀t∈p,∀j,j≤3→IvS 210000000 (Ci9 b t j))∧(∀t∈p,∀j,IvS 210000000 (Ai3 (b j) (mex t.1 j)))∧∀j,IvS 1048576 (b j):=by
 have hme:=Nat.mul_le_mul (show m+1≤1001 by omega) he2
 have hme':=Nat.mul_le_mul hm2 he2
 refine⟨fun j=>((Cv6 (hp.take j) hm fun t ht=>he t (List.mem_of_mem_take ht)).mono (by omega)).sz,fun t ht j hj=>((Ef7 (hp.sz t ht) hm (he t ht) j).mono ?_).sz,fun t ht j=>(((hm j).pow (mex t.1 j)).mono ?_).sz,fun j=>((hm j).mono (by omega)).sz⟩
 ·have:=Nat.mul_le_mul hj (show m*e+1≤1000*255+1 by omega)
  omega
 ·have:=Nat.mul_le_mul hm2 (Nat.le_trans (he t ht j) he2)
  omega
theorem Cz2 {W0:PW} {M:Nat→Prop} {s:Sl} {l:List Value} {p:List Tm} {b:Nat→Iv} {k m e:Nat} (h:Ab0 231 138 W0 s p) (hb:DmV 231 W0 l b) (hp:Bd k p) (hm: ∀i,BdI m (b i)) (he: ∀t∈p,∀i,mex t.1 i≤e) (he2:e≤255) (hm2:m≤1000) (hk:k≤200000000) (hl:p.length≤1073741824):
  Aa0 Tryz.prog 111 [.agg ⟨[s.v]⟩,.agg ⟨l⟩] W0 M fun v W'=>∃(r:List Value),v = .agg ⟨r⟩∧SpV 231 W' r (Aq8 b p):=by
 obtain⟨z1,z2,z3,z4⟩:=Fl7 hp hm he he2 hm2 hk
 have hb0:=hb
 obtain⟨s0,b0,t0,s1,b1,t1,s2,b2,t2,s3,b3,t3,s4,b4,t4,s5,b5,t5,rfl,_⟩:=hb
 apply Bz6
 obtain⟨xs,hr,ha⟩:=h
 have hxl:=ha.len
 refine Ba1 hr (by omega) fun s3 W2 hE2 ⟨_,hO⟩=>⟨s3,rfl,?_⟩
 have h3:Ab0 231 138 W2 s3 p:=⟨xs,hO.row,ha.mono fun _ _ e=>e.ext hE2⟩
 have hn:=h3.n
 refine⟨ovO W2 p b,cn1 p.length,⟨0,rfl,Nat.zero_le _,Ext.refl _,SpV.zero W2⟩,?_⟩
 rintro s6 b7 s8 s9 b10 s11 i12 W13 ⟨j,rfl,hj,hE13,hS⟩
 refine⟨fun hlt=>?_,fun hge W69 hE69=>⟨_,rfl,?_⟩⟩
 ·have hjl:j<p.length:=by omega
  have hP:=h3.ext hE13
  have hmem:=List.getElem_mem hjl
  obtain⟨h0,c1,d1,c2,e1,_,_,hq⟩:=hP.at (List.getElem?_eq_getElem hjl)
  refine⟨hP.inB (by omega) (by omega),_,_,_,c1,d1,c2,e1,De4 hq fun r W21 hE21 h21=>h21.out fun s22 b23 s24 s25 b26 s27 h21=>?_⟩
  refine⟨ovI W21 p[j] b,cn1 3,⟨0,rfl,Nat.zero_le _,Ext.refl _,h21⟩,?_⟩
  rintro s30 b31 s32 s33 b34 s35 i36 W37 ⟨v,rfl,hv,hE37,hT⟩
  refine⟨fun hlt3=>?_,fun hge3=>?_⟩
  ·have hv3:v<3:=by omega
   have hbW:=(hb0.ext (hE2.trans (hE13.trans (hE21.trans hE37))))
   obtain⟨x1,y1,x2,x3,y2,x4,hbx,hsp⟩:=hbW.box hv3
   have hmx:=he _ hmem v
   refine⟨⟨by omega,by omega⟩,_,Cn5 p[j].1 hv3,?_⟩
   rw[Dq6 h0 v]
   refine⟨fun hpos=>⟨⟨by omega,by omega⟩,x1,y1,x2,x3,y2,x4,hbx,by unfold I64;omega,?_⟩,fun hno=>⟨by unfold I64;omega,⟨v+1,by push_cast;rfl,by omega,hE37,?_⟩,?_⟩⟩
   ·refine Co8 hsp (z4 v) (by omega) (by omega) fun r W46 hE46 h46=>h46.out fun s47 b48 s49 s50 b51 s52 h46=>?_
    refine Cx4 (hT.ext hE46) h46 (z2 _ hmem v hv) (z3 _ hmem v) (by omega) fun r W54 hE54 h54=>h54.out fun s55 b56 s57 s58 b59 s60 h54=>⟨by unfold I64;omega,⟨v+1,by push_cast;rfl,by omega,hE37.trans (hE46.trans hE54),?_⟩,?_⟩
    ·rw[Ci9,if_pos (by omega)]
     exact h54
    ·show 3-Int.toNat ((v:Int)+1)<3-Int.toNat (v:Int)
     omega
   ·rw[Ci9,if_neg (by omega)]
    exact hT
   ·show 3-Int.toNat ((v:Int)+1)<3-Int.toNat (v:Int)
    omega
  ·have:v=3:=by omega
   subst this
   refine Cy0 (hS.ext (hE21.trans hE37)) hT (z1 j) (z2 _ hmem 3 (Nat.le_refl _)) (by omega) fun r W62 hE62 h62=>h62.out fun s63 b64 s65 s66 b67 s68 h62=>⟨by unfold I64;omega,⟨j+1,by push_cast;rfl,by omega,hE13.trans (hE21.trans (hE37.trans hE62)),?_⟩,?_⟩
   ·rw[List.take_succ_eq_append_getElem hjl,Bt2]
    exact h62
   ·show p.length-Int.toNat ((j:Int)+1)<p.length-Int.toNat (j:Int)
    omega
 ·have:j=p.length:=by omega
  subst this
  rw[List.take_length] at hS
  exact hS.ext hE69
theorem Az5 {W0 W:PW} {M:Nat→Prop} {s:Sl} {l:List Value} {p:List Tm} {b:Nat→Iv} {k m e:Nat} {K:Value→PW→Prop} (h:Ab0 231 138 W s p) (hb:DmV 231 W l b) (hp:Bd k p) (hm: ∀i,BdI m (b i)) (he: ∀t∈p,∀i,mex t.1 i≤e) (he2:e≤255) (hm2:m≤1000) (hk:k≤200000000) (hl:p.length≤1073741824) (kont: ∀(r:List Value) (W':PW),Ext W W'→(SpV 231 W' r (Aq8 b p))→K (.agg ⟨r⟩) W'):
  Aa1 Tryz.prog W0 M 111 [.agg ⟨[s.v]⟩,.agg ⟨l⟩] W K:=
 Aa2 (fun W' hE=>Cz2 (M:=fun _=>False) (h.ext hE) (hb.ext hE) hp hm he he2 hm2 hk hl) (fun W' v W'' hE hE' hP=>by
  obtain⟨r,rfl,h⟩:=hP
  exact kont r W'' (hE.trans hE') h)
end Go.Proofs.YtokefihiadbkbaaGreatDoor
/- Exponents up to a bound; products that fit. -/
namespace Go.Proofs.YtokefihiadbkbaaGreatDoor
open Go Go.SX
def Gk4 (e:Int) (p:List Tm):Prop:=∀t∈p,t.1.ok∧t.1.x≤e∧t.1.y≤e∧t.1.z≤e
end Go.Proofs.YtokefihiadbkbaaGreatDoor
/- poly.Same. -/
namespace Go.Proofs.YtokefihiadbkbaaGreatDoor
open Go Go.SX
end Go.Proofs.YtokefihiadbkbaaGreatDoor
/- cinctureref1: PolyAdd, PolyScale, PolySub, Var, Const, PolySame. -/
namespace Go.Proofs.YtokefihiadbkbaaGreatDoor
open Go Go.SX
end Go.Proofs.YtokefihiadbkbaaGreatDoor
/- cinctureref1.PolyMul. -/
namespace Go.Proofs.YtokefihiadbkbaaGreatDoor
open Go Go.SX
end Go.Proofs.YtokefihiadbkbaaGreatDoor
/- poly.Compose, cinctureref1.Compose. -/
namespace Go.Proofs.YtokefihiadbkbaaGreatDoor
open Go Go.SX
end Go.Proofs.YtokefihiadbkbaaGreatDoor
/- box.Right, gram.side, gram.Sum, and the reference's. -/
namespace Go.Proofs.YtokefihiadbkbaaGreatDoor
open Go Go.SX
def brI (W0:PW) (bs:List Iv) (L:List PL) (W:PW):Prop:=match L with
 | [.val (.int .i64 i)]=>∃j:Nat,i=(j:Int)∧j≤bs.length∧Ext W0 W∧∀x∈bs.take j,x.1<x.2
 | _=>False
theorem Ey3 {bs:List Iv} {j:Nat} (hj:j<bs.length) (h: ∀x∈bs.take j,x.1<x.2) (h2:bs[j].1<bs[j].2): ∀x∈bs.take (j+1),x.1<x.2:=fun x hx=>by
 rw[List.take_succ_eq_append_getElem hj,List.mem_append,List.mem_singleton] at hx
 rcases hx with hx | rfl
 ·exact h x hx
 ·exact h2
theorem Dk1 {W0:PW} {M:Nat→Prop} {s:Sl} {bs:List Iv} {k:Nat} (h:Bc3 231 W0 s bs) (hk: ∀x∈bs,IvS k x) (hk2:k≤1048576) (hl:bs.length≤1048576):
  Aa0 Tryz.prog 108 [s.v] W0 M fun v W'=>v = .bool (decide (Cn7 bs))∧True:=by
 apply Ck4
 have hn:=h.n
 refine⟨brI W0 bs,cn1 bs.length,⟨0,rfl,Nat.zero_le _,Ext.refl _,fun x hx=>(by cases hx)⟩,?_⟩
 rintro i3 W4 ⟨j,rfl,hj,hE4,hall⟩
 have h4:=Bc3.ext h hE4
 refine⟨fun hlt=>?_,fun hge=>?_⟩
 ·have hjl:j<bs.length:=by omega
  obtain⟨x,hx,hel⟩:=h4.at hjl
  obtain⟨s5,b6,s7,s8,b9,s10,rfl,q1,q2⟩:=hx
  have hz:=hk _ (List.getElem_mem hjl)
  refine⟨h4.inB (by omega) (by omega),s5,b6,s7,s8,b9,s10,hel 0 rfl,Aj2 q1 q2 hz.1 hz.2 (by omega) (by omega) fun W12 hE12 _=>⟨_,rfl,fun h0 W14 _=>⟨?_,trivial⟩,fun h0=>⟨by unfold I64;omega,⟨j+1,by push_cast;rfl,by omega,hE4.trans hE12,Ey3 hjl hall (At6.1 (by omega))⟩,?_⟩⟩⟩
  ·rw[decide_eq_false fun e=>Rat.not_lt.2 (El9.1 h0) (e.2 _ (List.getElem_mem hjl))]
  ·show bs.length-Int.toNat ((j:Int)+1)<bs.length-Int.toNat (j:Int)
   omega
 ·have:j=bs.length:=by omega
  subst this
  rw[List.take_length] at hall
  refine⟨fun h1 W15 _=>⟨?_,trivial⟩,fun h1 W16 _=>⟨?_,trivial⟩⟩
  ·congr 1
   rw[decide_eq_decide]
   exact⟨fun h=>⟨⟨by omega,by omega⟩,hall⟩,fun h=>by have:=h.1.2;omega⟩
  ·rw[decide_eq_false fun e=>by have:=e.1.1;omega]
theorem Cm2 {W0 W:PW} {M:Nat→Prop} {s:Sl} {bs:List Iv} {k:Nat} {K:Value→PW→Prop} (h:Bc3 231 W s bs) (hk: ∀x∈bs,IvS k x) (hk2:k≤1048576) (hl:bs.length≤1048576) (kont: ∀(W':PW),Ext W W'→(True)→K (.bool (decide (Cn7 bs))) W'):
  Aa1 Tryz.prog W0 M 108 [s.v] W K:=
 Aa2 (fun W' hE=>Dk1 (M:=fun _=>False) (h.ext hE) hk hk2 hl) (fun W' v W'' hE hE' hP=>by
  obtain⟨rfl,h⟩:=hP
  exact kont W'' (hE.trans hE') h)
def Fj5 (l:List SqP) (bs:List Iv):Prop:=Cn7 bs∧∀s∈l,0≤s.g∧s.g≤(bs.length:Int)
instance (l:List SqP) (bs:List Iv):Decidable (Fj5 l bs):=by unfold Fj5;infer_instance
end Go.Proofs.YtokefihiadbkbaaGreatDoor
/- poly.Diff, cinctureref1.Diff; cincturelaw8.PolyDiffs. -/
namespace Go.Proofs.YtokefihiadbkbaaGreatDoor
open Go Go.SX
theorem Hq5 (m:Mon) {k:Nat} (hk:k<3) (r:List Value):As9 (.int .u8 m.x :: .int .u8 m.y :: .int .u8 m.z :: r) (0+Int.toNat (k:Int)*1+0) [.int .u8 (An6 m k)]:=by
 rcases(by omega:k=0∨k=1∨k=2) with rfl | rfl | rfl<;>exact⟨by simp,rfl⟩
end Go.Proofs.YtokefihiadbkbaaGreatDoor
