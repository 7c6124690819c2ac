/- The reference's intervals; cincturelaw5.Is, Of; span.Parse. -/
import Derived.Test.YtjkkidjbppphpaaGreatDoorW14
import Derived.Test.YtjkkidjbppphpaaGreatDoorW10
import Derived.Test.YtjkkidjbppphpaaGreatDoorLib4
import Derived.Test.YtjkkidjbppphpaaGreatDoorW13
import Derived.Test.YtjkkidjbppphpaaGreatDoorR14
import Derived.Test.YtjkkidjbppphpaaGreatDoorW12
import Derived.Test.YtjkkidjbppphpaaGreatDoorLib3
import Derived.Test.YtjkkidjbppphpaaGreatDoorR12
set_option linter.unusedVariables false
set_option linter.unusedSimpArgs false
set_option maxRecDepth 100000
namespace Go.Proofs.YtjkkidjbppphpaaGreatDoor
open Go Go.SX
end Go.Proofs.YtjkkidjbppphpaaGreatDoor
/- bound.Over, cinctureref1.Over. -/
namespace Go.Proofs.YtjkkidjbppphpaaGreatDoor
open Go Go.SX
theorem Dq6 {m:Mon} (h:m.ok) (k:Nat):An6 m k=((mex m k:Nat):Int):=by
 unfold Mon.ok at h
 unfold An6 mex
 (repeat' split)<;>omega
def ovO (W0:PW) (p:List Tm) (b:Nat→Iv) (L:List PL) (W:PW):Prop:=match L with
 | [.val (.int .i64 i),.cells l]=>∃j:Nat,i=(j:Int)∧j≤p.length∧Ext W0 W∧SpV 284 W l (Aq8 b (p.take j))
 | _=>False
def ovI (W0:PW) (t:Tm) (b:Nat→Iv) (L:List PL) (W:PW):Prop:=match L with
 | [.val (.int .i64 i),.cells l]=>∃j:Nat,i=(j:Int)∧j≤3∧Ext W0 W∧SpV 284 W l (Ci9 b t j)
 | _=>False
theorem Fl7 {b:Nat→Iv} {p:List Tm} {k m e:Nat} (hp:Bd k p) (hm: ∀i,BdI m (b i)) (he: ∀t∈p,∀i,mex t.1 i≤e) (he2:e≤255) (hm2:m≤1000) (hk:k≤200000000):
  (∀j,IvS 210000000 (Aq8 b (p.take j)))∧(∀t∈p,∀j,j≤3→IvS 210000000 (Ci9 b t j))∧(∀t∈p,∀j,IvS 210000000 (Ai3 (b j) (mex t.1 j)))∧∀j,IvS 1048576 (b j):=by
 have hme:=Nat.mul_le_mul (show m+1≤1001 by omega) he2
 have hme':=Nat.mul_le_mul hm2 he2
 refine⟨fun j=>((Cv6 (hp.take j) hm fun t ht=>he t (List.mem_of_mem_take ht)).mono (by omega)).sz,fun t ht j hj=>((Ef7 (hp.sz t ht) hm (he t ht) j).mono ?_).sz,fun t ht j=>(((hm j).pow (mex t.1 j)).mono ?_).sz,fun j=>((hm j).mono (by omega)).sz⟩
 ·have:=Nat.mul_le_mul hj (show m*e+1≤1000*255+1 by omega)
  omega
 ·have:=Nat.mul_le_mul hm2 (Nat.le_trans (he t ht j) he2)
  omega
theorem Cz2 {W0:PW} {M:Nat→Prop} {s:Sl} {l:List Value} {p:List Tm} {b:Nat→Iv} {k m e:Nat} (h:Ab0 284 165 W0 s p) (hb:DmV 284 W0 l b) (hp:Bd k p) (hm: ∀i,BdI m (b i)) (he: ∀t∈p,∀i,mex t.1 i≤e) (he2:e≤255) (hm2:m≤1000) (hk:k≤200000000) (hl:p.length≤1073741824):
  Aa0 Tryz.prog 19 [.agg ⟨[s.v]⟩,.agg ⟨l⟩] W0 M fun v W'=>∃(r:List Value),v = .agg ⟨r⟩∧SpV 284 W' r (Aq8 b p):=by
 obtain⟨z1,z2,z3,z4⟩:=Fl7 hp hm he he2 hm2 hk
 have hb0:=hb
 obtain⟨s0,b0,t0,s1,b1,t1,s2,b2,t2,s3,b3,t3,s4,b4,t4,s5,b5,t5,rfl,_⟩:=hb
 apply Bz6
 obtain⟨xs,hr,ha⟩:=h
 have hxl:=ha.len
 refine Ba1 hr (by omega) fun s3 W2 hE2 ⟨_,hO⟩=>⟨s3,rfl,?_⟩
 have h3:Ab0 284 165 W2 s3 p:=⟨xs,hO.row,ha.mono fun _ _ e=>e.ext hE2⟩
 have hn:=h3.n
 refine⟨ovO W2 p b,cn1 p.length,⟨0,rfl,Nat.zero_le _,Ext.refl _,SpV.zero W2⟩,?_⟩
 rintro s6 b7 s8 s9 b10 s11 i12 W13 ⟨j,rfl,hj,hE13,hS⟩
 refine⟨fun hlt=>?_,fun hge W69 hE69=>⟨_,rfl,?_⟩⟩
 ·have hjl:j<p.length:=by omega
  have hP:=h3.ext hE13
  have hmem:=List.getElem_mem hjl
  obtain⟨h0,c1,d1,c2,e1,_,_,hq⟩:=hP.at (List.getElem?_eq_getElem hjl)
  refine⟨hP.inB (by omega) (by omega),_,_,_,c1,d1,c2,e1,De4 hq fun r W21 hE21 h21=>h21.out fun s22 b23 s24 s25 b26 s27 h21=>?_⟩
  refine⟨ovI W21 p[j] b,cn1 3,⟨0,rfl,Nat.zero_le _,Ext.refl _,h21⟩,?_⟩
  rintro s30 b31 s32 s33 b34 s35 i36 W37 ⟨v,rfl,hv,hE37,hT⟩
  refine⟨fun hlt3=>?_,fun hge3=>?_⟩
  ·have hv3:v<3:=by omega
   have hbW:=(hb0.ext (hE2.trans (hE13.trans (hE21.trans hE37))))
   obtain⟨x1,y1,x2,x3,y2,x4,hbx,hsp⟩:=hbW.box hv3
   have hmx:=he _ hmem v
   refine⟨⟨by omega,by omega⟩,_,Cn5 p[j].1 hv3,?_⟩
   rw[Dq6 h0 v]
   refine⟨fun hpos=>⟨⟨by omega,by omega⟩,x1,y1,x2,x3,y2,x4,hbx,by unfold I64;omega,?_⟩,fun hno=>⟨by unfold I64;omega,⟨v+1,by push_cast;rfl,by omega,hE37,?_⟩,?_⟩⟩
   ·refine Co8 hsp (z4 v) (by omega) (by omega) fun r W46 hE46 h46=>h46.out fun s47 b48 s49 s50 b51 s52 h46=>?_
    refine Cx4 (hT.ext hE46) h46 (z2 _ hmem v hv) (z3 _ hmem v) (by omega) fun r W54 hE54 h54=>h54.out fun s55 b56 s57 s58 b59 s60 h54=>⟨by unfold I64;omega,⟨v+1,by push_cast;rfl,by omega,hE37.trans (hE46.trans hE54),?_⟩,?_⟩
    ·rw[Ci9,if_pos (by omega)]
     exact h54
    ·show 3-Int.toNat ((v:Int)+1)<3-Int.toNat (v:Int)
     omega
   ·rw[Ci9,if_neg (by omega)]
    exact hT
   ·show 3-Int.toNat ((v:Int)+1)<3-Int.toNat (v:Int)
    omega
  ·have:v=3:=by omega
   subst this
   refine Cy0 (hS.ext (hE21.trans hE37)) hT (z1 j) (z2 _ hmem 3 (Nat.le_refl _)) (by omega) fun r W62 hE62 h62=>h62.out fun s63 b64 s65 s66 b67 s68 h62=>⟨by unfold I64;omega,⟨j+1,by push_cast;rfl,by omega,hE13.trans (hE21.trans (hE37.trans hE62)),?_⟩,?_⟩
   ·rw[List.take_succ_eq_append_getElem hjl,Bt2]
    exact h62
   ·show p.length-Int.toNat ((j:Int)+1)<p.length-Int.toNat (j:Int)
    omega
 ·have:j=p.length:=by omega
  subst this
  rw[List.take_length] at hS
  exact hS.ext hE69
theorem Az5 {W0 W:PW} {M:Nat→Prop} {s:Sl} {l:List Value} {p:List Tm} {b:Nat→Iv} {k m e:Nat} {K:Value→PW→Prop} (h:Ab0 284 165 W s p) (hb:DmV 284 W l b) (hp:Bd k p) (hm: ∀i,BdI m (b i)) (he: ∀t∈p,∀i,mex t.1 i≤e) (he2:e≤255) (hm2:m≤1000) (hk:k≤200000000) (hl:p.length≤1073741824) (kont: ∀(r:List Value) (W':PW),Ext W W'→(SpV 284 W' r (Aq8 b p))→K (.agg ⟨r⟩) W'):
  Aa1 Tryz.prog W0 M 19 [.agg ⟨[s.v]⟩,.agg ⟨l⟩] W K:=
 Aa2 (fun W' hE=>Cz2 (M:=fun _=>False) (h.ext hE) (hb.ext hE) hp hm he he2 hm2 hk hl) (fun W' v W'' hE hE' hP=>by
  obtain⟨r,rfl,h⟩:=hP
  exact kont r W'' (hE.trans hE') h)
end Go.Proofs.YtjkkidjbppphpaaGreatDoor
/- Exponents up to a bound; products that fit. -/
namespace Go.Proofs.YtjkkidjbppphpaaGreatDoor
open Go Go.SX
end Go.Proofs.YtjkkidjbppphpaaGreatDoor
/- poly.Same. -/
namespace Go.Proofs.YtjkkidjbppphpaaGreatDoor
open Go Go.SX
end Go.Proofs.YtjkkidjbppphpaaGreatDoor
/- cinctureref1: PolyAdd, PolyScale, PolySub, Var, Const, PolySame. -/
namespace Go.Proofs.YtjkkidjbppphpaaGreatDoor
open Go Go.SX
end Go.Proofs.YtjkkidjbppphpaaGreatDoor
