/- cincturelaw15.at, cincturelaw15.TmodHas. -/
import Derived.Test.YthpmkcidkcmlgaaGreatW16
import Derived.Test.YthpmkcidkcmlgaaGreatW20
import Derived.Test.YthpmkcidkcmlgaaGreatR16
import Derived.Test.YthpmkcidkcmlgaaGreatLib2
import Derived.Test.YthpmkcidkcmlgaaGreatLib3
import Derived.Test.YthpmkcidkcmlgaaGreatRows
import Derived.WalkKit
import Derived.ProofKit
import Derived.OpenShut
import Derived.JoinedCond
import Derived.Carry
import Derived.Deep.Strs
import Derived.Deep.Slices
set_option linter.unusedVariables false
set_option linter.unusedSimpArgs false
set_option maxRecDepth 100000
set_option linter.unusedVariables false
set_option linter.unusedSimpArgs false
namespace Go.Proofs.YthpmkcidkcmlgaaGreat
open Go Go.SX
theorem DomV.box {tu:TypeId} {W:PW} {l:List Value} {b:Nat→Iv} {n:Int} (h:DomV tu W l b n) {j:Nat} (hj:j<3): ∃(s:Sl) (c:Bool) (t s':Sl) (c':Bool) (t':Sl),BoxAt l (0+Int.toNat (j:Int)*6+0) [s.v,.bool c,t.v,s'.v,.bool c',t'.v]∧SpV tu W [s.v,.bool c,t.v,s'.v,.bool c',t'.v] (b j):=by
 obtain⟨l',rfl,s0,b0,t0,s1,b1,t1,s2,b2,t2,s3,b3,t3,s4,b4,t4,s5,b5,t5,rfl,h1,h2,h3⟩:=h
 rcases(by omega:j=0∨j=1∨j=2) with rfl | rfl | rfl
 ·exact⟨_,_,_,_,_,_,⟨by simp,rfl⟩,h1⟩
 ·exact⟨_,_,_,_,_,_,⟨by simp,rfl⟩,h2⟩
 ·exact⟨_,_,_,_,_,_,⟨by simp,rfl⟩,h3⟩
theorem box_int (a b c:Int) {j:Nat} (hj:j<3): ∃i:Int,BoxAt [.int .i64 a,.int .i64 b,.int .i64 c] (0+Int.toNat (j:Int)*1+0) [.int .i64 i]:=by
 rcases(by omega:j=0∨j=1∨j=2) with rfl | rfl | rfl
 ·exact⟨a,by simp,rfl⟩
 ·exact⟨b,by simp,rfl⟩
 ·exact⟨c,by simp,rfl⟩
theorem at_in {x:Iv} (ho:x.1≤x.2) {i:Int} (h0:0≤i) (h8:i≤8):inI x (x.1+(x.2-x.1)*((i:Rat)/((8:Int):Rat))):=by
 have h1:(0:Rat)≤(i:Rat)/((8:Int):Rat):=by
  rw[Rat.div_def]
  exact Rat.mul_nonneg (by exact_mod_cast h0) (by decide +kernel)
 have h2:(i:Rat)/((8:Int):Rat)≤1:=by
  have h3:(0:Rat)≤((8-i:Int):Rat)*(((8:Int):Rat))⁻¹:=Rat.mul_nonneg (by exact_mod_cast (show(0:Int)≤8-i by omega)) (by decide +kernel)
  have h8:(((8:Int):Rat))*(((8:Int):Rat))⁻¹ = 1:=by decide +kernel
  rw[Rat.intCast_sub] at h3
  rw[Rat.div_def]
  generalize (((8:Int):Rat))⁻¹ = c at h3 h8⊢
  generalize ((8:Int):Rat)=d at h3 h8⊢
  grind
 have h4:=Rat.mul_nonneg (show 0≤x.2-x.1 by grind) h1
 have h5:=Rat.mul_nonneg (show 0≤x.2-x.1 by grind) (show 0≤1-(i:Rat)/((8:Int):Rat) by grind)
 exact⟨by grind,by grind⟩
theorem law15At_ok {W0:PW} {M:Nat→Prop} {l1:List Value} {x:Iv} {i:Int} {k:Nat} (h:SpV 317 W0 l1 x) (hx:IvS k x) (hk:k≤1000000) (ho:x.1≤x.2):
  PCallsM Go.Proofs.Tryz.prog 70 [.agg ⟨l1⟩,.int .i64 i] W0 M fun v W'=>∃(r:Sl),∃(c:Bool),∃(u:Sl),∃(q:Rat),v = .agg ⟨[Sl.v r,.bool c,Sl.v u]⟩∧IsRat 317 W' r c u q∧inI x q∧Sz (3*k+4) q:=by
 have h0:=h
 obtain⟨s,b,t,s',b',t',rfl,q1,q2⟩:=h
 apply calllaw15_at
 refine bookWithin_call (by omega) (by omega) (by omega) fun i3 W2 hE2 hi=>⟨i3,rfl,?_⟩
 refine ratOf_call (z:=i3) (by unfold I64;omega) fun s6 b7 s8 W5 hE5 h5=>⟨s6,b7,s8,rfl,?_⟩
 refine ratOf_call (z:=8) (by unfold I64;omega) fun s11 b12 s13 W10 hE10 h10=>⟨s11,b12,s13,rfl,?_⟩
 have z3:Sz 1 ((i3:Int):Rat):=sz_small hi.1 (by omega)
 have z8:Sz 1 (((8:Int):Int):Rat):=sz_small (by omega) (by omega)
 refine ratDiv_call (h5.ext hE10) h10 z3 z8 (by omega) (by omega) (by omega) fun s16 b17 s18 W15 hE15 h15=>⟨s16,b17,s18,_,rfl,?_⟩
 have zw:=z3.div z8 (Nat.le_refl 1)
 have hE:=hE2.trans (hE5.trans (hE10.trans hE15))
 refine spanWidth_call (h0.ext hE) hx (by omega) fun s22 b23 s24 W21 hE21 h21=>⟨s22,b23,s24,rfl,?_⟩
 have zd:=hx.2.sub hx.1
 refine ratMul_call h21 (h15.ext hE21) zd zw (by omega) (by omega) fun s27 b28 s29 W26 hE26 h26=>⟨s27,b28,s29,rfl,?_⟩
 refine ratAdd_call (q1.ext (hE.trans (hE21.trans hE26))) h26 hx.1 (zd.mul zw) (by omega) (by omega) fun s32 b33 s34 W31 hE31 h31=>⟨s32,b33,s34,rfl,fun W35 hE35=>⟨s32,b33,s34,_,rfl,h31.ext hE35,at_in ho hi.1 hi.2,(hx.1.add (zd.mul zw)).mono (by omega)⟩⟩
theorem law15At_call {W0 W:PW} {M:Nat→Prop} {l1:List Value} {x:Iv} {i:Int} {k:Nat} {K:Value→PW→Prop} (h:SpV 317 W l1 x) (hx:IvS k x) (hk:k≤1000000) (ho:x.1≤x.2) (kont: ∀(r:Sl) (c:Bool) (u:Sl) (q:Rat) (W':PW),Ext W W'→(IsRat 317 W' r c u q∧inI x q∧Sz (3*k+4) q)→K (.agg ⟨[Sl.v r,.bool c,Sl.v u]⟩) W'):
  callN Go.Proofs.Tryz.prog W0 M 70 [.agg ⟨l1⟩,.int .i64 i] W K:=
 callN_of (fun W' hE=>law15At_ok (M:=fun _=>False) (h.ext hE) hx hk ho) (fun W' v W'' hE hE' hP=>by
  obtain⟨r,c,u,q,rfl,h⟩:=hP
  exact kont r c u q W'' (hE.trans hE') h)
def haI (W0:PW) (b:Nat→Iv) (L:List PL) (W:PW):Prop:=match L with
 | [.val (.int .i64 i),.cells [.slice A0 n0 c0,.bool b0,.slice A1 n1 c1,.slice A2 n2 c2,.bool b1,.slice A3 n3 c3,.slice A4 n4 c4,.bool b2,.slice A5 n5 c5]]=>∃(j:Nat) (u:Pt),i=(j:Int)∧j≤3∧Ext W0 W∧(∀k,Sz 25 (u.get k))∧
   (IsRat 317 W ⟨A0,n0,c0⟩ b0 ⟨A1,n1,c1⟩ u.x∧IsRat 317 W ⟨A2,n2,c2⟩ b1 ⟨A3,n3,c3⟩ u.y∧IsRat 317 W ⟨A4,n4,c4⟩ b2 ⟨A5,n5,c5⟩ u.z)∧∀k,k<j→inI (b k) (u.get k)
 | _=>False
theorem pt_sz {l:Nat} {a b c:Rat} (ha:Sz l a) (hb:Sz l b) (hc:Sz l c): ∀k,Sz l ((Pt.mk a b c).get k):=fun k=>by
 unfold Pt.get
 (repeat' split)<;>assumption
theorem at_size {p:List Tm} {u:Pt} {k m:Nat} {x:Int} (hp:Bd k p) (hu: ∀i,Sz 25 (u.get i)) (hl:p.length≤m) (he:PExp x p) (hm:m≤100) (hk:k≤100000):Sz (m*119129+1) (atQ u p):=by
 refine(atQ_sz hp.sz hu (e:=255) fun t ht i=>eget_le (he t ht).1 i).mono ?_
 have:=Nat.mul_le_mul hl (show k+3*(25*255+1)+1≤119129 by omega)
 omega
theorem tmodHas_ok {W0:PW} {M:Nat→Prop} {q0 q1 q2 r0 r1 r2:ByteArray} {n:Int} {s u:Sl} {L L3:List (Mon×ByteArray)} {x2a x2b x3a x3b:ByteArray} {j0 j1 j2 i5 i6:Int} (h:IsAPoly W0 s L) (h3:IsAPoly W0 u L3) (z0:q0.size≤1099511627776) (z1:q1.size≤1099511627776) (z2:q2.size≤1099511627776) (z3:r0.size≤1099511627776) (z4:r1.size≤1099511627776) (z5:r2.size≤1099511627776) (hl:L.length≤1099511627776) (hz: ∀t∈L,t.2.size≤1099511627776) (hc:x2a.size≤1099511627776) (hd:x2b.size≤1099511627776) (hl3:L3.length≤1099511627776) (hz3: ∀t∈L3,t.2.size≤1099511627776) (hc3:x3a.size≤1099511627776) (hd3:x3b.size≤1099511627776):
  PCallsM Go.Proofs.Tryz.prog 10 [.agg ⟨[.string q0,.string r0,.string q1,.string r1,.string q2,.string r2]⟩,.int .i64 n,.agg ⟨[s.v,.string x2a,.string x2b]⟩,.agg ⟨[u.v,.string x3a,.string x3b]⟩,.agg ⟨[.int .i64 j0,.int .i64 j1,.int .i64 j2]⟩,.int .i64 i5,.int .i64 i6] W0 M fun v W'=>v = .bool true∧True:=by
 apply calllaw15_TmodHas
 have alv: ∀W,callN Go.Proofs.Tryz.prog W0 M 46 [] W fun v11 W12=>∃b13:Bool,v11 = .bool b13∧∀(W14:PW),Ext W12 W14→Value.bool b13 = .bool true∧True:=fun W=>law15alive_call fun W12 _ _=>⟨true,rfl,fun W14 _=>⟨rfl,trivial⟩⟩
 refine law15Domain_call (t:=⟨q0,r0,q1,r1,q2,r2⟩) (n:=n) (DT.szs' z0 z3 z1 z4 z2 z5) fun l l' ok b W2 hE2 ⟨hD,hR,hB,_,_⟩=>dom_out hD hR ?_
 intros
 rename_i hD hR
 refine law15Of_call (h.ext hE2) hl hz hc hd fun l l' ok2 x W43 hE43 ⟨hm,hrm,hok⟩=>?_
 obtain⟨_,_,_,_,_,_,_,rfl,mp,mr⟩:=MdV.pts hm
 obtain⟨_,_,_,_,_,_,_,rfl,rp,rr⟩:=RMdV.pts hrm
 refine⟨_,_,_,_,_,_,_,_,_,_,_,_,_,_,_,rfl,law15Of_call (h3.ext (hE2.trans hE43)) hl3 hz3 hc3 hd3 fun l l' ok3 y W60 hE60 ⟨hm,hrm,hok3⟩=>?_⟩
 obtain⟨_,_,_,_,_,_,_,rfl,np,nr⟩:=MdV.pts hm
 obtain⟨_,_,_,_,_,_,_,rfl,op,or⟩:=RMdV.pts hrm
 refine⟨_,_,_,_,_,_,_,_,_,_,_,_,_,_,_,rfl,fun _=>alv _,fun _=>⟨fun _=>alv _,fun hk2=>⟨fun _=>alv _,fun hk3=>law15alive_call fun W89 hE89 _=>⟨true,rfl,fun e=>(by cases e),fun _=>?_⟩⟩⟩⟩
 have hx:=hok (by simpa using hk2)
 have hy:=hok3 (by simpa using hk3)
 refine refDomainRight_call (k:=7) (hR.ext (hE43.trans (hE60.trans hE89))) (fun i=>((hB.bd i).mono (Nat.le_refl 7)).sz) (by omega) fun W96 hE96 _=>⟨_,rfl,fun _=>alv _,fun hdr=>?_⟩
 have hdr:DRight b n:=by simpa using hdr
 have E60:=hE89.trans hE96
 have E43:=hE60.trans E60
 have hD:=hD.ext (hE43.trans E43)
 have mp:=mp.ext E43
 have mr:=mr.ext E43
 have np:=np.ext E60
 have nr:=nr.ext E60
 clear alv hok hok3 hm hrm rp rr op or hR h h3
 refine⟨haI W96 b,fun L _=>match L with | [.val (.int .i64 i),_]=>3-i.toNat | _=>0,⟨0,⟨0,0,0⟩,rfl,Nat.zero_le _,Ext.refl _,pt_sz (Sz.zero (by omega)) (Sz.zero (by omega)) (Sz.zero (by omega)),⟨isRat_zero W96,isRat_zero W96,isRat_zero W96⟩,fun k hk=>by omega⟩,?_⟩
 rintro s104 b105 s106 s107 b108 s109 s110 b111 s112 i113 W114 ⟨j,u,rfl,hj,hE114,hu,⟨u0,u1,u2⟩,hin⟩
 have u0:IsRat 317 W114 s104 b105 s106 u.x:=u0
 have u1:IsRat 317 W114 s107 b108 s109 u.y:=u1
 have u2:IsRat 317 W114 s110 b111 s112 u.z:=u2
 refine⟨fun hlt=>?_,fun hge=>?_⟩
 ·have hj3:j<3:=by omega
  obtain⟨s115,b116,s117,s118,b119,s120,hbx,hsp⟩:=DomV.box (hD.ext hE114) hj3
  obtain⟨i121,hbi⟩:=box_int j0 j1 j2 hj3
  refine⟨by omega,s115,b116,s117,s118,b119,s120,hbx,by omega,i121,hbi,?_⟩
  refine law15At_call hsp ((hB.bd j).mono (Nat.le_refl 7)).sz (by omega) (hB.ord j) fun s124 b125 s126 q W123 hE123 ⟨k1,k2,k3⟩=>⟨s124,b125,s126,rfl,by omega,by omega,⟨⟨trivial,fun hj0=>⟨by unfold I64;omega,⟨j+1,⟨q,u.y,u.z⟩,by push_cast;rfl,by omega,hE114.trans hE123,pt_sz (k3.mono (by omega)) (hu 1) (hu 2),⟨k1,u1.ext hE123,u2.ext hE123⟩,fun k hk=>?_⟩,?_⟩⟩,fun hj0=>⟨by unfold I64;omega,⟨j+1,⟨u.x,q,u.z⟩,by push_cast;rfl,by omega,hE114.trans hE123,pt_sz (hu 0) (k3.mono (by omega)) (hu 2),⟨u0.ext hE123,k1,u2.ext hE123⟩,fun k hk=>?_⟩,?_⟩⟩,fun hj0=>⟨by unfold I64;omega,⟨j+1,⟨u.x,u.y,q⟩,by push_cast;rfl,by omega,hE114.trans hE123,pt_sz (hu 0) (hu 1) (k3.mono (by omega)),⟨u0.ext hE123,u1.ext hE123,k1⟩,fun k hk=>?_⟩,?_⟩⟩
  ·have:j=0:=by omega
   have:k=0:=by omega
   subst_vars
   exact k2
  ·show 3-Int.toNat ((j:Int)+1)<3-Int.toNat (j:Int)
   omega
  ·have:j=1:=by omega
   subst this
   rcases(by omega:k=0∨k=1) with rfl | rfl
   ·exact hin 0 (by omega)
   ·exact k2
  ·show 3-Int.toNat ((j:Int)+1)<3-Int.toNat (j:Int)
   omega
  ·have:j=2:=by omega
   subst this
   rcases(by omega:k=0∨k=1∨k=2) with rfl | rfl | rfl
   ·exact hin 0 (by omega)
   ·exact hin 1 (by omega)
   ·exact k2
  ·show 3-Int.toNat ((j:Int)+1)<3-Int.toNat (j:Int)
   omega
 have:j=3:=by omega
 subst this
 have hD:=hD.ext hE114
 have mp:=mp.ext hE114
 have mr:=mr.ext hE114
 have np:=np.ext hE114
 have nr:=nr.ext hE114
 have hin:inB3 b u:=hin
 have l1:=hx.len
 have l2:=hy.len
 have l12:=Nat.mul_le_mul l1 l2
 have okx:POk x.1:=fun t ht=>(hx.b.ok t ht).1
 have oky:POk y.1:=fun t ht=>(hy.b.ok t ht).1
 have zx:=at_size hx.b.bd hu l1 hx.b.ok (by omega) (by omega)
 have zy:=at_size hy.b.bd hu l2 hy.b.ok (by omega) (by omega)
 refine polyAt_call (k:=24013) (l:=25) mp u0 u1 u2 hx.b.bd.sz hu (by omega) (by omega) (by omega) fun s129 b130 s131 W128 E1 k1=>⟨s129,b130,s131,rfl,?_⟩
 refine law15At_call (mr.ext E1) hx.b.rest.sz (by omega) hx.ord fun s134 b135 s136 v1 W133 E2 ⟨k2,i1,zv1⟩=>⟨s134,b135,s136,rfl,?_⟩
 refine ratAdd_call (k1.ext E2) k2 zx zv1 (by omega) (by omega) fun s139 b140 s141 W138 E3 k3=>⟨s139,b140,s141,rfl,?_⟩
 have F3:=E1.trans (E2.trans E3)
 refine polyAt_call (k:=24013) (l:=25) (np.ext F3) (u0.ext F3) (u1.ext F3) (u2.ext F3) hy.b.bd.sz hu (by omega) (by omega) (by omega) fun s144 b145 s146 W143 E4 k4=>⟨s144,b145,s146,rfl,?_⟩
 refine law15At_call (nr.ext (F3.trans E4)) hy.b.rest.sz (by omega) hy.ord fun s149 b150 s151 v2 W148 E5 ⟨k5,i2,zv2⟩=>⟨s149,b150,s151,rfl,?_⟩
 refine ratAdd_call (k4.ext E5) k5 zy zv2 (by omega) (by omega) fun s154 b155 s156 W153 E6 k6=>⟨s154,b155,s156,rfl,?_⟩
 have zv:=zx.add zv1
 have zw:=zy.add zv2
 have F6:=F3.trans (E4.trans (E5.trans E6))
 refine tmodMul_call (hD.ext F6) (MdV.mk (x:=x) (mp.ext F6) (mr.ext F6)) (MdV.mk (x:=y) (np.ext F6) (nr.ext F6)) hx.b hy.b hB.bd (Nat.le_refl 7) (by omega) (by omega) (by omega) (by omega) (by omega) (by omega) (by omega) fun r7 W158 E7 k7=>k7.out fun _ _ _ _ _ _ _ k7 k7p k7r=>?_
 rw[if_pos hdr] at k7 k7p k7r
 have F7:=F6.trans E7
 refine tmodAdd_call (k:=24013) (r:=7) (MdV.mk (x:=x) (mp.ext F7) (mr.ext F7)) (MdV.mk (x:=y) (np.ext F7) (nr.ext F7)) hx.b.bd hy.b.bd hx.b.rest.sz hy.b.rest.sz (by omega) (by omega) (by omega) (by omega) fun r8 W168 E8 k8=>k8.out1 fun _ _ _ _ _ _ _ k8 k8p k8r=>?_
 have F8:=F7.trans E8
 refine tmodCut_call (hD.ext F8) (mp.ext F8) hx.b.good hx.b.bd hB.bd (Nat.le_refl 7) hx.b.ok (by omega) (by omega) (by omega) fun r9 W177 E9 k9=>k9.out fun _ _ _ _ _ _ _ k9 k9p k9r=>?_
 rw[if_pos hdr] at k9 k9p k9r
 have F9:=F8.trans E9
 have mulb:=MdB.mul (n:=n) hx.b hy.b hB.bd (Nat.le_refl 7) (by omega) (by omega) (by omega)
 have addb:=MdB.add hx.b hy.b
 have cutb:=MdB.cut (n:=n) hx.b.bd hx.b.good hB.bd (Nat.le_refl 7) hx.b.ok (by omega)
 have lm:(mdMul b n x y).1.length≤36:=by
  have h1:=low_len n (pnorm (ppairs x.1 y.1))
  have h2:=pnorm_len (ppairs x.1 y.1)
  rw[ppairs_len] at h2
  show(lowP n (pnorm (ppairs x.1 y.1))).length≤_
  omega
 have ls:(mdAdd x y).1.length≤12:=by
  have h2:=pnorm_len (x.1 ++ y.1)
  rw[List.length_append] at h2
  show(pnorm (x.1 ++ y.1)).length≤_
  omega
 have lc:(cutP b n x.1).1.length≤6:=by
  have:=low_len n x.1
  show(lowP n x.1).length≤_
  omega
 refine tmodBound_call (hD.ext F9) (k7.ext (E8.trans E9)) mulb hB.bd (Nat.le_refl 7) (by omega) (by omega) (by omega) (by omega) fun r10 W187 E10 k10=>?_
 rw[if_pos hdr] at k10
 obtain⟨_,_,_,_,_,_,rfl,k10a,k10b⟩:=k10
 have k10:=SpV.mk k10a k10b
 refine⟨_,_,_,_,_,_,_,rfl,?_⟩
 have F10:=F9.trans E10
 have hmul:=has_mul hin n okx oky i1 i2
 have hadd:=has_add (u:=u) i1 i2
 have hcut:=has_cut hin n x.1
 have hbnd:=has_bound hin hmul
 have zm:=at_size mulb.bd hu lm mulb.ok (by omega) (by omega)
 have zs:=at_size addb.bd hu ls addb.ok (by omega) (by omega)
 have zc:=at_size cutb.bd hu lc cutb.ok (by omega) (by omega)
 have ob:=((over_bd mulb.bd hB.bd (Nat.le_refl 7) mulb.ok (by omega)).add mulb.rest).sz
 refine⟨fun _=>⟨fun _=>⟨fun _=>?_,fun e=>absurd e (by simp[hdr])⟩,fun e=>absurd e (by simp[hdr])⟩,fun e=>absurd e (by simp[hdr])⟩
 have G7:=E8.trans (E9.trans E10)
 have G8:=E9.trans E10
 have G3:=(E4.trans (E5.trans E6)).trans (E7.trans G7)
 have G6:=E7.trans G7
 refine ratMul_call (k3.ext G3) (k6.ext G6) zv zw (by omega) (by omega) fun s197 b198 s199 W196 H1 j1=>⟨s197,b198,s199,rfl,?_⟩
 have P1:=F10.trans H1
 refine polyAt_call (k:=48026) (l:=25) (k7p.ext (G7.trans H1)) (u0.ext P1) (u1.ext P1) (u2.ext P1) mulb.bd.sz hu (by omega) (by omega) (by omega) fun s202 b203 s204 W201 H2 j2=>⟨s202,b203,s204,rfl,?_⟩
 refine ratSub_call (j1.ext H2) j2 (zv.mul zw) zm (by omega) (by omega) fun s207 b208 s209 W206 H3 j3=>⟨s207,b208,s209,rfl,?_⟩
 have Q3:=H1.trans (H2.trans H3)
 refine spanHas_call (k:=10000000) (k7r.ext (G7.trans Q3)) j3 (mulb.rest.mono (by omega)).sz (((zv.mul zw).sub zm).mono (by omega)) (by omega) fun W211 H4 _=>⟨_,rfl,fun _=>?_,fun e=>absurd (show _∧_ from hmul) (of_decide_eq_false e)⟩
 have Q4:=Q3.trans H4
 refine ratAdd_call (k3.ext (G3.trans Q4)) (k6.ext (G6.trans Q4)) zv zw (by omega) (by omega) fun s215 b216 s217 W214 H5 j5=>⟨s215,b216,s217,rfl,?_⟩
 have P5:=F10.trans (Q4.trans H5)
 refine polyAt_call (k:=48027) (l:=25) (k8p.ext (G8.trans (Q4.trans H5))) (u0.ext P5) (u1.ext P5) (u2.ext P5) addb.bd.sz hu (by omega) (by omega) (by omega) fun s220 b221 s222 W219 H6 j6=>⟨s220,b221,s222,rfl,?_⟩
 refine ratSub_call (j5.ext H6) j6 (zv.add zw) zs (by omega) (by omega) fun s225 b226 s227 W224 H7 j7=>⟨s225,b226,s227,rfl,?_⟩
 have Q7:=Q4.trans (H5.trans (H6.trans H7))
 refine spanHas_call (k:=10000000) (k8r.ext (G8.trans Q7)) j7 (addb.rest.mono (by omega)).sz (((zv.add zw).sub zs).mono (by omega)) (by omega) fun W229 H8 _=>⟨_,rfl,fun _=>?_,fun e=>absurd (show _∧_ from hadd) (of_decide_eq_false e)⟩
 have Q8:=Q7.trans H8
 have P8:=F10.trans Q8
 refine polyAt_call (k:=24013) (l:=25) (mp.ext P8) (u0.ext P8) (u1.ext P8) (u2.ext P8) hx.b.bd.sz hu (by omega) (by omega) (by omega) fun s233 b234 s235 W232 H9 j9=>⟨s233,b234,s235,rfl,?_⟩
 have P9:=P8.trans H9
 refine polyAt_call (k:=24013) (l:=25) (k9p.ext (E10.trans (Q8.trans H9))) (u0.ext P9) (u1.ext P9) (u2.ext P9) cutb.bd.sz hu (by omega) (by omega) (by omega) fun s238 b239 s240 W237 H10 j10=>⟨s238,b239,s240,rfl,?_⟩
 refine ratSub_call (j9.ext H10) j10 zx zc (by omega) (by omega) fun s243 b244 s245 W242 H11 j11=>⟨s243,b244,s245,rfl,?_⟩
 have Q11:=Q8.trans (H9.trans (H10.trans H11))
 refine spanHas_call (k:=10000000) (k9r.ext (E10.trans Q11)) j11 (cutb.rest.mono (by omega)).sz ((zx.sub zc).mono (by omega)) (by omega) fun W247 H12 _=>⟨_,rfl,fun _=>?_,fun e=>absurd (show _∧_ from hcut) (of_decide_eq_false e)⟩
 have Q12:=Q11.trans H12
 refine ratMul_call (k3.ext (G3.trans Q12)) (k6.ext (G6.trans Q12)) zv zw (by omega) (by omega) fun s251 b252 s253 W250 H13 j13=>⟨s251,b252,s253,rfl,?_⟩
 refine spanHas_call (k:=10000000) (k10.ext (Q12.trans H13)) j13 ⟨ob.1.mono (by omega),ob.2.mono (by omega)⟩ ((zv.mul zw).mono (by omega)) (by omega) fun W255 H14 _=>⟨_,rfl,fun W257 _=>⟨?_,trivial⟩⟩
 exact congrArg Value.bool (decide_eq_true (p:=_∧_) hbnd)
end Go.Proofs.YthpmkcidkcmlgaaGreat

/- Arguments opened: what every kind of argument needs. -/
set_option maxRecDepth 100000
set_option linter.unusedVariables false
set_option linter.unusedSimpArgs false
namespace Go.Proofs.YthpmkcidkcmlgaaGreat
open Go Go.SX Go.ChangeShapes Go.WideShapes Go.ChangeAt Go.RowKit Go.Deep
theorem ownKnob_none:ownKnob Go.Proofs.Tryz.prog.godebug=none:=by kernel_rfl
theorem laidOut:laidOutB Go.Proofs.Tryz.prog=true:=by kernel_rfl
theorem cells_str:Go.Proofs.Tryz.prog.cellsOf 9=1:=by kernel_rfl
theorem cell_block {W:World} {b o:Nat} {v:Value} (h:W.cell? ⟨b,o,none⟩=some v): ∃cs t fz,W.heap[b]?=some (.cells cs t fz)∧cs[o]?=some v:=by
 unfold World.cell? at h
 cases e:W.heap[b]? with
 | none=>simp[e] at h
 | some ob=>
  cases ob with
  | cells cs t fz=>exact⟨cs,t,fz,rfl,by simpa[e] using h⟩
  | _=>simp[e] at h
theorem bulk_one {H:Type} (d:DataW H):1≤Rows.uptoBulk d:=by
 cases d with
 | lit l=>cases l<;>simp[Rows.uptoBulk]
 | nil=>simp[Rows.uptoBulk]
 | ptr d=>simp[Rows.uptoBulk]
 | slice elems spare=>simp[Rows.uptoBulk]
 | agg parts=>simp[Rows.uptoBulk]
 | iface t d=>simp[Rows.uptoBulk]
 | map entries=>simp[Rows.uptoBulk]
 | held h=>simp[Rows.uptoBulk]
theorem bulk_part {H:Type} {d:DataW H} {l:List (DataW H)} (h:d∈l):Rows.uptoBulk d≤Rows.uptoBulkAll l:=by
 induction l with
 | nil=>cases h
 | cons x r ih=>
  simp only[Rows.uptoBulkAll]
  cases List.mem_cons.1 h with
  | inl e=>subst e;omega
  | inr e=>have:=ih e;omega
theorem bulk_length {H:Type} (l:List (DataW H)):l.length≤Rows.uptoBulkAll l:=by
 induction l with
 | nil=>simp[Rows.uptoBulkAll]
 | cons x r ih=>have:=bulk_one x;simp only[Rows.uptoBulkAll,List.length_cons];omega
theorem rowA_of_cellsN {W:World} {a:Addr} {n c sz:Nat} {V:Nat→List Value} (h: ∀j,j<n→∀i v,(V j)[i]?=some v→W.cell? (a.add (j*sz+i))=some v) (hV: ∀j,j<n→(V j).length=sz) (hsz:0<sz) (hn:n≤c) (hc:c≤maxLen) (h1: ∀j,j<n→∀u∈V j,u.oneCell'=true):
  RowA ⟨W,fun _=>False⟩ sz ⟨some a,n,c⟩ ((List.range n).map V):=by
 have hel: ∀x∈(List.range n).map V,x.length=sz∧∀u∈x,u.oneCell'=true:=by
  intro x hx
  obtain⟨j,hj,rfl⟩:=List.mem_map.1 hx
  exact⟨hV j (List.mem_range.1 hj),h1 j (List.mem_range.1 hj)⟩
 by_cases h0:n=0
 ·subst h0
  exact⟨0,rfl,Nat.zero_le _,hc,hel,.inl rfl⟩
 ·obtain⟨b,off,sp⟩:=a
  have hlen0:=hV 0 (by omega)
  obtain⟨v0,hv0⟩: ∃v,(V 0)[0]?=some v:=⟨_,List.getElem?_eq_getElem (by omega)⟩
  have hc0:=h 0 (by omega) 0 v0 hv0
  have hsp:sp=none:=by simpa[Addr.add] using World.cell?_spot hc0
  subst hsp
  obtain⟨cs,t,fz,hh,_⟩:=cell_block (by rw[←add_plain];exact hc0)
  refine⟨t,by simp,hn,hc,hel,.inr ⟨b,off,cs,fz,rfl,id,hh,fun j v hj=>?_⟩⟩
  have hjl:=(List.getElem?_eq_some_iff.1 hj).1
  rw[flatten_length (sz:=sz) (fun x hx=>(hel x hx).1)] at hjl
  simp only[List.length_map,List.length_range] at hjl
  have hi:j/sz<n:=(Nat.div_lt_iff_lt_mul hsz).2 hjl
  have hm:j%sz<sz:=Nat.mod_lt _ hsz
  have e:j/sz*sz+j%sz=j:=by rw[Nat.mul_comm];exact Nat.div_add_mod j sz
  have hx:((List.range n).map V)[j/sz]?=some (V (j/sz)):=by simp[hi]
  have hl:=hV _ hi
  have hf:=flatten_at (sz:=sz) (fun x hx=>(hel x hx).1) hx (j:=j%sz) (v:=(V (j/sz))[j%sz]'(by omega)) (List.getElem?_eq_getElem (by omega))
  rw[e,hj] at hf
  have hcell:=h _ hi (j%sz) v (by rw[hf];exact List.getElem?_eq_getElem (by omega))
  rw[e,add_plain] at hcell
  obtain⟨cs',t',fz',hh',hv⟩:=cell_block hcell
  rw[hh] at hh'
  cases hh'
  exact hv
end Go.Proofs.YthpmkcidkcmlgaaGreat

/- Arguments of pairs of texts, opened. -/
set_option maxRecDepth 100000
set_option linter.unusedVariables false
set_option linter.unusedSimpArgs false
namespace Go.Proofs.YthpmkcidkcmlgaaGreat
open Go Go.SX Go.ChangeShapes Go.WideShapes Go.ChangeAt Go.RowKit Go.Deep
theorem cells_pair:Go.Proofs.Tryz.prog.cellsOf 111=2:=by kernel_rfl
theorem open_pair {H:Type} {enc:TypeId×Value→H} {W:World} {fuel:Nat} {cs:List Value} {x:DataW H×List MemPlace} (h:DataW.trod enc Go.Proofs.Tryz.prog W 0 (fun _=>true) true fuel 111 cs=some x):
  ∃a b:ByteArray,cs = [.string a,.string b]∧a.size≤Rows.uptoBulk x.1∧b.size≤Rows.uptoBulk x.1:=by
 obtain⟨xs,k,rfl,rfl,hl,hxl,hf⟩:=DataW.trod_struct Go.Proofs.Tryz.underlying111 h
 rw[cells_pair] at hl
 have g0:DataW.trod enc Go.Proofs.Tryz.prog W 0 (fun _=>true) true k 9 ((cs.drop 0).take (Go.Proofs.Tryz.prog.cellsOf 9))=xs[0]?:=hf 0 _ rfl
 have g1:DataW.trod enc Go.Proofs.Tryz.prog W 0 (fun _=>true) true k 9 ((cs.drop 1).take (Go.Proofs.Tryz.prog.cellsOf 9))=xs[1]?:=hf 1 _ rfl
 rw[cells_str] at g0 g1
 match cs,hl,xs,hxl with
 | [v0,v1],_,[y0,y1],_=>
  have g0:DataW.trod enc Go.Proofs.Tryz.prog W 0 (fun _=>true) true k 9 [v0]=some y0:=g0
  have g1:DataW.trod enc Go.Proofs.Tryz.prog W 0 (fun _=>true) true k 9 [v1]=some y1:=g1
  obtain⟨s0,h0,rfl,_⟩:=DataW.trod_string Go.Proofs.Tryz.underlying9 g0
  obtain⟨s1,h1,rfl,_⟩:=DataW.trod_string Go.Proofs.Tryz.underlying9 g1
  have k0:v0=Value.string s0:=(List.cons.inj (show[v0] = [Value.string s0] from h0)).1
  have k1:v1=Value.string s1:=(List.cons.inj (show[v1] = [Value.string s1] from h1)).1
  subst k0 k1
  refine⟨s0,s1,rfl,?_⟩
  have e0:s0.data.toList.length=s0.size:=by rw[Array.length_toList];rfl
  have e1:s1.data.toList.length=s1.size:=by rw[Array.length_toList];rfl
  simp only[List.map_cons,List.map_nil,Rows.uptoBulk,Rows.uptoBulkAll]
  omega
end Go.Proofs.YthpmkcidkcmlgaaGreat

/- An argument of three pairs of texts, opened. -/
set_option maxRecDepth 100000
set_option linter.unusedVariables false
set_option linter.unusedSimpArgs false
namespace Go.Proofs.YthpmkcidkcmlgaaGreat
open Go Go.SX Go.ChangeShapes Go.WideShapes Go.ChangeAt Go.RowKit Go.Deep
theorem three_pairs_of {r:Reach} {w:World} {base:Nat} {v:Value} (h:Value.okWide Go.Proofs.Tryz.prog w r base 112 v): ∃xs:Array Value,v = .agg xs∧xs.size=6:=by
 simp only[Value.okWide,Go.Proofs.Tryz.underlying112] at h
 obtain⟨cs,h1,h2,_⟩:=h
 exact⟨cs,h1,by rw[h2];kernel_rfl⟩
theorem open_three_pairs {H:Type} {enc:TypeId×Value→H} {W:World} {fuel:Nat} {l:List Value} {d:DataW H} {p:List MemPlace} (h:DataW.trod enc Go.Proofs.Tryz.prog W 0 (fun _=>true) true fuel 112 l=some (d,p)) (hl:l.length=6):
  ∃a b c a' b' c':ByteArray,l = [.string a,.string a',.string b,.string b',.string c,.string c']∧(a.size≤Rows.uptoBulk d∧a'.size≤Rows.uptoBulk d)∧(b.size≤Rows.uptoBulk d∧b'.size≤Rows.uptoBulk d)∧c.size≤Rows.uptoBulk d∧c'.size≤Rows.uptoBulk d:=by
 obtain⟨zs,m,rfl,hx,_,hzl,hz⟩:=DataW.trod_array Go.Proofs.Tryz.underlying112 h
 have e0:=hz 0 (by omega)
 have e1:=hz 1 (by omega)
 have e2:=hz 2 (by omega)
 rw[cells_pair] at e0 e1 e2
 match l,hl,zs,hzl with
 | [v0,v1,v2,v3,v4,v5],_,[w0,w1,w2],_=>
  have e0:DataW.trod enc Go.Proofs.Tryz.prog W 0 (fun _=>true) true m 111 [v0,v1]=some w0:=e0
  have e1:DataW.trod enc Go.Proofs.Tryz.prog W 0 (fun _=>true) true m 111 [v2,v3]=some w1:=e1
  have e2:DataW.trod enc Go.Proofs.Tryz.prog W 0 (fun _=>true) true m 111 [v4,v5]=some w2:=e2
  obtain⟨a,a',h0,k0,k1⟩:=open_pair e0
  obtain⟨b,b',h1,k2,k3⟩:=open_pair e1
  obtain⟨c,c',h2,k4,k5⟩:=open_pair e2
  simp only[List.cons.injEq,and_true] at h0 h1 h2
  obtain⟨rfl,rfl⟩:=h0
  obtain⟨rfl,rfl⟩:=h1
  obtain⟨rfl,rfl⟩:=h2
  simp only[Prod.mk.injEq] at hx
  obtain⟨rfl,_⟩:=hx
  refine⟨a,b,c,a',b',c',rfl,?_⟩
  simp only[List.map_cons,List.map_nil,Rows.uptoBulk,Rows.uptoBulkAll]
  omega
end Go.Proofs.YthpmkcidkcmlgaaGreat

/- An argument that is a slice of terms with texts, opened. -/
set_option maxRecDepth 100000
set_option linter.unusedVariables false
set_option linter.unusedSimpArgs false
namespace Go.Proofs.YthpmkcidkcmlgaaGreat
open Go Go.SX Go.ChangeShapes Go.WideShapes Go.ChangeAt Go.RowKit Go.Deep
instance:Inhabited (Mon×ByteArray):=⟨(⟨0,0,0⟩,⟨#[]⟩)⟩
theorem cells_term:Go.Proofs.Tryz.prog.cellsOf 185=4:=by kernel_rfl
theorem cells_mono:Go.Proofs.Tryz.prog.cellsOf 183=3:=by kernel_rfl
theorem cells_u8:Go.Proofs.Tryz.prog.cellsOf 5=1:=by kernel_rfl
theorem u8_ok {n:Int} (h:(Lit.int .u8 n).wf=true):0≤n∧n≤255:=by
 simp[Lit.wf,IntKind.min,IntKind.max,IntKind.bits,IntKind.signed] at h
 omega
theorem open_term {H:Type} {enc:TypeId×Value→H} {W:World} {fuel:Nat} {cs:List Value} {x:DataW H×List MemPlace} (h:DataW.trod enc Go.Proofs.Tryz.prog W 0 (fun _=>true) true fuel 185 cs=some x):
  ∃t:Mon×ByteArray,AT cs t∧t.2.size≤Rows.uptoBulk x.1:=by
 obtain⟨xs,k,rfl,rfl,hl,hxl,hf⟩:=DataW.trod_struct Go.Proofs.Tryz.underlying185 h
 rw[cells_term] at hl
 have g0:DataW.trod enc Go.Proofs.Tryz.prog W 0 (fun _=>true) true k 183 ((cs.drop 0).take (Go.Proofs.Tryz.prog.cellsOf 183))=xs[0]?:=hf 0 _ rfl
 have g1:DataW.trod enc Go.Proofs.Tryz.prog W 0 (fun _=>true) true k 9 ((cs.drop 3).take (Go.Proofs.Tryz.prog.cellsOf 9))=xs[1]?:=hf 1 _ rfl
 rw[cells_mono] at g0
 rw[cells_str] at g1
 match cs,hl,xs,hxl with
 | [v0,v1,v2,v3],_,[y0,y1],_=>
  have g0:DataW.trod enc Go.Proofs.Tryz.prog W 0 (fun _=>true) true k 183 [v0,v1,v2]=some y0:=g0
  have g1:DataW.trod enc Go.Proofs.Tryz.prog W 0 (fun _=>true) true k 9 [v3]=some y1:=g1
  obtain⟨zs,m,rfl,rfl,_,hzl,hz⟩:=DataW.trod_array Go.Proofs.Tryz.underlying183 g0
  obtain⟨s,hs,rfl,hsz⟩:=DataW.trod_string Go.Proofs.Tryz.underlying9 g1
  have e0:=hz 0 (by omega)
  have e1:=hz 1 (by omega)
  have e2:=hz 2 (by omega)
  rw[cells_u8] at e0 e1 e2
  match zs,hzl with
  | [w0,w1,w2],_=>
   have e0:DataW.trod enc Go.Proofs.Tryz.prog W 0 (fun _=>true) true m 5 [v0]=some w0:=e0
   have e1:DataW.trod enc Go.Proofs.Tryz.prog W 0 (fun _=>true) true m 5 [v1]=some w1:=e1
   have e2:DataW.trod enc Go.Proofs.Tryz.prog W 0 (fun _=>true) true m 5 [v2]=some w2:=e2
   obtain⟨n0,h0,_,k0⟩:=DataW.trod_int Go.Proofs.Tryz.underlying5 e0
   obtain⟨n1,h1,_,k1⟩:=DataW.trod_int Go.Proofs.Tryz.underlying5 e1
   obtain⟨n2,h2,_,k2⟩:=DataW.trod_int Go.Proofs.Tryz.underlying5 e2
   have hs: [v3] = [Value.string s]:=hs
   have h0: [v0] = [Value.int .u8 n0]:=h0
   have h1: [v1] = [Value.int .u8 n1]:=h1
   have h2: [v2] = [Value.int .u8 n2]:=h2
   simp only[List.cons.injEq,and_true] at hs h0 h1 h2
   subst hs h0 h1 h2
   refine⟨(⟨n0,n1,n2⟩,s),⟨⟨u8_ok k0,u8_ok k1,u8_ok k2⟩,rfl⟩,?_⟩
   have e:s.data.toList.length=s.size:=by rw[Array.length_toList];rfl
   simp only[List.map_cons,List.map_nil,Rows.uptoBulk,Rows.uptoBulkAll]
   omega
theorem all2_map {n:Nat} {V:Nat→List Value} {y:Nat→Mon×ByteArray} (h: ∀i,i<n→AT (V i) (y i)):All2 AT ((List.range n).map V) ((List.range n).map y):=by
 induction n with
 | zero=>trivial
 | succ n ih=>
  rw[List.range_succ,List.map_append,List.map_append]
  exact(ih fun i hi=>h i (by omega)).append ⟨h n (by omega),trivial⟩
theorem open_terms {H:Type} {enc:TypeId×Value→H} {W:World} {fuel:Nat} {v:Value} {d:DataW H} {p:List MemPlace} (h:DataW.trod enc Go.Proofs.Tryz.prog W 0 (fun _=>true) true fuel 22 [v]=some (d,p)):
  ∃(s:Sl) (L:List (Mon×ByteArray)),v=s.v∧IsAPoly ⟨W,fun _=>False⟩ s L∧L.length≤Rows.uptoBulk d∧∀t∈L,t.2.size≤Rows.uptoBulk d:=by
 rcases open_slice Go.Proofs.Tryz.underlying22 h with⟨hcs,hx⟩ | ⟨a,len,cap,m,n,D,Pl,hcs,_,hl,hm,hmm,hx,hcell⟩
 ·have hv:v = .slice none 0 0:=by simpa using hcs
  subst hv
  exact⟨⟨none,0,0⟩,[],rfl,⟨[],⟨0,rfl,Nat.le_refl _,Nat.zero_le _,fun x h=>by simp at h,.inl rfl⟩,trivial⟩,Nat.zero_le _,fun l h=>by simp at h⟩
 ·have hv:v = .slice (some a) len cap:=by simpa using hcs
  subst hv
  simp only[if_true] at hmm
  subst hmm
  simp only[Prod.mk.injEq] at hx
  obtain⟨rfl,_⟩:=hx
  rw[cells_term] at hcell
  obtain⟨q,hq⟩: ∃q:Nat→List Value×(Mon×ByteArray),∀i,i<m→W.cells? 0 (a.add (i*4)) 4=some (q i).1∧AT (q i).1 (q i).2∧(q i).2.2.size≤Rows.uptoBulk (D i):=choose_lt (α:=List Value×(Mon×ByteArray)) (p:=fun i q=>W.cells? 0 (a.add (i*4)) 4=some q.1∧AT q.1 q.2∧q.2.2.size≤Rows.uptoBulk (D i)) fun i hi=>by
   obtain⟨cs',h1,h2⟩:=hcell i hi
   obtain⟨t,h3,h4⟩:=open_term h2
   exact⟨(cs',t),h1,h3,h4⟩
  have hr:=rowA_of_cellsN (W:=W) (a:=a) (n:=len) (c:=m) (sz:=4) (V:=fun i=>(q i).1) (fun j hj i v hv=>by
   obtain⟨_,hlen,hc⟩:=World.cells?_some (hq j (by omega)).1
   have hi:i<4:=by have:=(List.getElem?_eq_some_iff.1 hv).1;omega
   have:=hc i hi
   rw[add_add] at this
   rw[this];exact hv) (fun j hj=>(World.cells?_some (hq j (by omega)).1).2.1) (by omega) hl hm (fun j hj u hu=>by
   rw[(hq j (by omega)).2.1.2] at hu
   simp only[List.mem_cons,List.not_mem_nil,or_false] at hu
   rcases hu with rfl | rfl | rfl | rfl<;>rfl)
  have hbulk: ∀i,i<len→Rows.uptoBulk (D i)≤Rows.uptoBulkAll ((List.range len).map D):=fun i hi=>bulk_part (List.mem_map.2 ⟨i,List.mem_range.2 hi,rfl⟩)
  have hlen:=bulk_length ((List.range len).map D)
  simp only[List.length_map,List.length_range] at hlen
  refine⟨⟨some a,len,m⟩,(List.range len).map fun i=>(q i).2,rfl,⟨_,hr,all2_map fun i hi=>(hq i (by omega)).2.1⟩,?_,fun t ht=>?_⟩
  ·simp only[List.length_map,List.length_range,Rows.uptoBulk]
   omega
  ·obtain⟨j,hj,rfl⟩:=List.mem_map.1 ht
   have hj':=List.mem_range.1 hj
   have h1:=hbulk j hj'
   have h2:=(hq j (by omega)).2.2
   simp only[Rows.uptoBulk]
   omega
end Go.Proofs.YthpmkcidkcmlgaaGreat

/- An argument that is a model's texts, opened. -/
set_option maxRecDepth 100000
set_option linter.unusedVariables false
set_option linter.unusedSimpArgs false
namespace Go.Proofs.YthpmkcidkcmlgaaGreat
open Go Go.SX Go.ChangeShapes Go.WideShapes Go.ChangeAt Go.RowKit Go.Deep
theorem model_of {r:Reach} {w:World} {base:Nat} {v:Value} (h:Value.okWide Go.Proofs.Tryz.prog w r base 114 v): ∃xs:Array Value,v = .agg xs∧xs.size=3:=by
 simp only[Value.okWide,Go.Proofs.Tryz.underlying114] at h
 obtain⟨cs,h1,h2,_⟩:=h
 exact⟨cs,h1,by rw[h2];kernel_rfl⟩
theorem cells_terms1:Go.Proofs.Tryz.prog.cellsOf 22=1:=by kernel_rfl
theorem open_model {H:Type} {enc:TypeId×Value→H} {W:World} {fuel:Nat} {l:List Value} {d:DataW H} {p:List MemPlace} (h:DataW.trod enc Go.Proofs.Tryz.prog W 0 (fun _=>true) true fuel 114 l=some (d,p)) (hl:l.length=3):
  ∃(s:Sl) (L:List (Mon×ByteArray)) (a b:ByteArray),l = [s.v,.string a,.string b]∧IsAPoly ⟨W,fun _=>False⟩ s L∧(L.length≤Rows.uptoBulk d∧∀t∈L,t.2.size≤Rows.uptoBulk d)∧a.size≤Rows.uptoBulk d∧b.size≤Rows.uptoBulk d:=by
 obtain⟨xs,k,rfl,hx,_,hxl,hf⟩:=DataW.trod_struct Go.Proofs.Tryz.underlying114 h
 have g0:DataW.trod enc Go.Proofs.Tryz.prog W 0 (fun _=>true) true k 22 ((l.drop 0).take (Go.Proofs.Tryz.prog.cellsOf 22))=xs[0]?:=hf 0 _ rfl
 have g1:DataW.trod enc Go.Proofs.Tryz.prog W 0 (fun _=>true) true k 111 ((l.drop 1).take (Go.Proofs.Tryz.prog.cellsOf 111))=xs[1]?:=hf 1 _ rfl
 rw[cells_terms1] at g0
 rw[cells_pair] at g1
 match l,hl,xs,hxl with
 | [v0,v1,v2],_,[y0,y1],_=>
  have g0:DataW.trod enc Go.Proofs.Tryz.prog W 0 (fun _=>true) true k 22 [v0]=some (y0.1,y0.2):=g0
  have g1:DataW.trod enc Go.Proofs.Tryz.prog W 0 (fun _=>true) true k 111 [v1,v2]=some y1:=g1
  obtain⟨s,L,rfl,h1,h2,h3⟩:=open_terms g0
  obtain⟨a,b,h4,h5,h6⟩:=open_pair g1
  obtain⟨k1,k2⟩:=List.cons.inj (show[v1,v2] = [Value.string a,Value.string b] from h4)
  obtain⟨k2,_⟩:=List.cons.inj k2
  subst k1 k2
  simp only[Prod.mk.injEq] at hx
  obtain⟨rfl,_⟩:=hx
  refine⟨s,L,a,b,rfl,h1,⟨?_,fun t ht=>?_⟩,?_⟩
  ·simp only[List.map_cons,List.map_nil,Rows.uptoBulk,Rows.uptoBulkAll]
   omega
  ·have:=h3 t ht
   simp only[List.map_cons,List.map_nil,Rows.uptoBulk,Rows.uptoBulkAll]
   omega
  ·simp only[List.map_cons,List.map_nil,Rows.uptoBulk,Rows.uptoBulkAll]
   omega
end Go.Proofs.YthpmkcidkcmlgaaGreat
