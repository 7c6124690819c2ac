/- tmod: Right, Cut, Mul, Add, Scale, Bound. -/
import Derived.Test.YthpmkcidkcmlgaaGreatW16
import Derived.Test.YthpmkcidkcmlgaaGreatW17
import Derived.Test.YthpmkcidkcmlgaaGreatR14
import Derived.Test.YthpmkcidkcmlgaaGreatW15
set_option linter.unusedVariables false
set_option linter.unusedSimpArgs false
set_option maxRecDepth 100000
set_option linter.unusedVariables false
set_option linter.unusedSimpArgs false
namespace Go.Proofs.YthpmkcidkcmlgaaGreat
open Go Go.SX
def trI (W0:PW) (b:Nat→Iv) (L:List PL) (W:PW):Prop:=match L with
 | [.val (.int .i64 i)]=>∃j:Nat,i=(j:Int)∧j≤3∧Ext W0 W∧∀t,t<j→(b t).1≤(b t).2
 | _=>False
theorem dright_iff {b:Nat→Iv} {n:Int} :DRight b n↔(∀t,t<3→(b t).1≤(b t).2)∧0≤n∧n≤8:=by
 unfold DRight
 constructor
 ·rintro⟨h0,h1,h2,h3⟩
  refine⟨fun t ht=>?_,h3⟩
  rcases(by omega:t=0∨t=1∨t=2) with rfl | rfl | rfl<;>assumption
 ·rintro⟨h,h3⟩
  exact⟨h 0 (by omega),h 1 (by omega),h 2 (by omega),h3⟩
theorem tmodRight_ok {W0:PW} {M:Nat→Prop} {l:List Value} {b:Nat→Iv} {n:Int} {k:Nat} (h:DomV 317 W0 l b n) (hk: ∀i,IvS k (b i)) (hk2:k≤1048576):
  PCallsM Go.Proofs.Tryz.prog 59 [.agg ⟨l⟩] W0 M fun v W'=>v = .bool (decide (DRight b n))∧True:=by
 obtain⟨l',rfl,hb⟩:=h
 have hb0:=hb
 obtain⟨s0,b0,t0,s1,b1,t1,s2,b2,t2,s3,b3,t3,s4,b4,t4,s5,b5,t5,rfl,_⟩:=hb
 apply calltmod_Right
 refine⟨trI W0 b,cn1 3,⟨0,rfl,Nat.zero_le _,Ext.refl _,fun t ht=>by omega⟩,?_⟩
 rintro i3 W4 ⟨j,rfl,hj,hE4,hall⟩
 refine⟨fun hlt=>?_,fun hge=>?_⟩
 ·have hj3:j<3:=by omega
  obtain⟨x1,y1,x2,x3,y2,x4,e,q1,q2⟩:=(hb0.ext hE4).take hj3
  refine⟨⟨by omega,by omega⟩,x1,y1,x2,x3,y2,x4,e,ratCmp_call q1 q2 (hk j).1 (hk j).2 (by omega) (by omega) fun W12 hE12 _=>⟨_,rfl,fun h W14 _=>⟨?_,trivial⟩,fun h=>⟨by unfold I64;omega,⟨j+1,by push_cast;rfl,by omega,hE4.trans hE12,fun t ht=>?_⟩,?_⟩⟩⟩
  ·rw[decide_eq_false fun e=>Rat.not_le.2 (cmpQ_gt.1 h) ((dright_iff.1 e).1 j hj3)]
  ·by_cases e:t=j
   ·subst e;exact Rat.not_lt.1 fun e=>h (cmpQ_gt.2 e)
   ·exact hall t (by omega)
  ·show 3-Int.toNat ((j:Int)+1)<3-Int.toNat (j:Int)
   omega
 ·have:j=3:=by omega
  subst this
  refine⟨fun h0 W15 _=>⟨?_,trivial⟩,fun h0 W16 _=>⟨?_,trivial⟩⟩
  ·congr 1
   rw[decide_eq_decide,dright_iff]
   exact⟨fun h=>⟨hall,h0,h⟩,fun h=>h.2.2⟩
  ·rw[decide_eq_false fun e=>h0 (dright_iff.1 e).2.1]
theorem tmodRight_call {W0 W:PW} {M:Nat→Prop} {l:List Value} {b:Nat→Iv} {n:Int} {k:Nat} {K:Value→PW→Prop} (h:DomV 317 W l b n) (hk: ∀i,IvS k (b i)) (hk2:k≤1048576) (kont: ∀(W':PW),Ext W W'→(True)→K (.bool (decide (DRight b n))) W'):
  callN Go.Proofs.Tryz.prog W0 M 59 [.agg ⟨l⟩] W K:=
 callN_of (fun W' hE=>tmodRight_ok (M:=fun _=>False) (h.ext hE) hk hk2) (fun W' v W'' hE hE' hP=>by
  obtain⟨rfl,h⟩:=hP
  exact kont W'' (hE.trans hE') h)
def tcI (W0:PW) (p:List Tm) (n:Int) (L:List PL) (W:PW):Prop:=match L with
 | [.row l,.row l',.val (.int .i64 i)]=>∃j:Nat,i=(j:Int)∧j≤p.length∧Ext W0 W∧All2 (PT 317 W) l (highP n (p.take j))∧All2 (PT 317 W) l' (lowP n (p.take j))
 | _=>False
theorem low_snoc {n:Int} {p:List Tm} {j:Nat} (hj:j<p.length):lowP n (p.take (j+1))=if p[j].1.deg≤n then lowP n (p.take j) ++ [p[j]] else lowP n (p.take j):=by
 unfold lowP
 rw[filter_snoc hj]
 simp only[decide_eq_true_eq]
theorem high_snoc {n:Int} {p:List Tm} {j:Nat} (hj:j<p.length):highP n (p.take (j+1))=if n<p[j].1.deg then highP n (p.take j) ++ [p[j]] else highP n (p.take j):=by
 unfold highP
 rw[filter_snoc hj]
 simp only[decide_eq_true_eq]
theorem tmodCut_ok {W0:PW} {M:Nat→Prop} {l:List Value} {s:Sl} {p:List Tm} {b:Nat→Iv} {n:Int} {k m:Nat} {e:Int} (hD:DomV 317 W0 l b n) (h:IsPoly 317 188 W0 s p) (hG:PGood p) (hp:Bd k p) (hm: ∀i,BdI m (b i)) (hm2:m≤7) (he:PExp e p) (he2:e≤255) (hk:k≤100000000) (hl:p.length≤1073741824):
  PCallsM Go.Proofs.Tryz.prog 51 [.agg ⟨l⟩,.agg ⟨[s.v]⟩] W0 M fun v W'=>∃(r:List Value),v = .tuple ⟨[.agg ⟨r⟩,.bool (decide (DRight b n))]⟩∧MdV 317 188 W' r (if DRight b n then cutP b n p else mdlZ):=by
 obtain⟨l',rfl,hb⟩:=hD
 have hb0:=hb
 obtain⟨s0,b0,t0,s1,b1,t1,s2,b2,t2,s3,b3,t3,s4,b4,t4,s5,b5,t5,rfl,_⟩:=hb
 apply calltmod_Cut
 refine tmodRight_call (k:=7) (DomV.mk hb0) (fun i=>((hm i).mono hm2).sz) (by omega) fun W2 hE2 _=>⟨_,rfl,fun hno W4 hE4=>?_,fun hyes=>?_⟩
 ·have h:¬DRight b n:=by simpa using hno
  rw[decide_eq_false h,if_neg h]
  exact⟨_,rfl,MdV.zero W4⟩
 have hR:DRight b n:=by simpa using hyes
 rw[decide_eq_true hR,if_pos hR]
 obtain⟨xs,hr,ha⟩:=h.ext hE2
 have hxl:=ha.len
 refine polyTerms_call hr (by omega) fun s7 W6 hE6 ⟨_,hO⟩=>⟨s7,rfl,?_⟩
 have h6:IsPoly 317 188 W6 s7 p:=⟨xs,hO.row,ha.mono fun _ _ e=>e.ext hE6⟩
 have hn:=h6.n
 refine⟨tcI W6 p n,fun L _=>match L with | [_,_,.val (.int .i64 i)]=>p.length-i.toNat | _=>0,⟨0,rfl,Nat.zero_le _,Ext.refl _,trivial,trivial⟩,?_⟩
 rintro l10 l11 i12 W13 ⟨j,rfl,hj,hE13,hH,hL⟩
 have lH:=hH.len
 have lL:=hL.len
 have l1:=high_len n (p.take j)
 have l2:=low_len n (p.take j)
 rw[List.length_take] at l1 l2
 refine⟨fun hlt=>?_,fun hge s23 W24 hE24 hO23 _=>?_⟩
 ·have hjl:j<p.length:=by omega
  have hP:=h6.ext hE13
  obtain⟨h0,c1,d1,c2,e1,_,_,hq⟩:=hP.at (List.getElem?_eq_getElem hjl)
  have hmu:p.length-Int.toNat ((j:Int)+1)<p.length-Int.toNat (j:Int):=by omega
  refine⟨hP.inB (by omega) (by omega),_,_,_,c1,d1,c2,e1,monoDegree_call h0 fun W21 hE21 _=>⟨_,rfl,fun hhi=>⟨by simp;omega,by unfold I64;omega,⟨j+1,by push_cast;rfl,by omega,hE13.trans hE21,?_,?_⟩,hmu⟩,fun hlo=>⟨by simp;omega,by unfold I64;omega,⟨j+1,by push_cast;rfl,by omega,hE13.trans hE21,?_,?_⟩,hmu⟩⟩⟩
  ·rw[high_snoc hjl,if_pos hhi]
   exact(hH.mono fun _ _ h=>h.ext hE21).append ⟨⟨h0,c1,d1,c2,rfl,hq.ext hE21⟩,trivial⟩
  ·rw[low_snoc hjl,if_neg (by omega)]
   exact hL.mono fun _ _ h=>h.ext hE21
  ·rw[high_snoc hjl,if_neg hlo]
   exact hH.mono fun _ _ h=>h.ext hE21
  ·rw[low_snoc hjl,if_pos (by omega)]
   exact(hL.mono fun _ _ h=>h.ext hE21).append ⟨⟨h0,c1,d1,c2,rfl,hq.ext hE21⟩,trivial⟩
 ·have:j=p.length:=by omega
  subst this
  rw[List.take_length] at hH hL
  have pl:IsPoly 317 188 W24 s23 (lowP n p):=⟨_,hO23.row,hL.mono fun _ _ h=>h.ext hE24⟩
  refine polyNew_call pl (hp.filter _) (by omega) (by have:=low_len n p;omega) fun s27 W26 hE26 h26=>⟨s27,rfl,fun s28 W29 hE29 hO28 _=>?_⟩
  have ph:IsPoly 317 188 W29 s28 (highP n p):=⟨_,hO28.row,hH.mono fun _ _ h=>h.ext (hE24.trans (hE26.trans hE29))⟩
  refine polyNew_call ph (hp.filter _) (by omega) (by have:=high_len n p;omega) fun s32 W31 hE31 h31=>⟨s32,rfl,?_⟩
  rw[show pnorm (lowP n p)=lowP n p from pnorm_of (hG.filter _)] at h26
  rw[show pnorm (highP n p)=highP n p from pnorm_of (hG.filter _)] at h31
  have hbW:=hb0.ext (hE2.trans (hE6.trans (hE13.trans (hE24.trans (hE26.trans (hE29.trans hE31))))))
  refine boundOver_call h31 hbW (hp.filter _) hm (he.filter _).mex (by omega) (by omega) (by omega) (by have:=high_len n p;omega) fun r W34 hE34 h34=>h34.out fun s35 b36 s37 s38 b39 s40 h34 W41 hE41=>⟨_,rfl,MdV.mk (x:=cutP b n p) (h26.ext (hE29.trans (hE31.trans (hE34.trans hE41)))) (h34.ext hE41)⟩
theorem tmodCut_call {W0 W:PW} {M:Nat→Prop} {l:List Value} {s:Sl} {p:List Tm} {b:Nat→Iv} {n:Int} {k m:Nat} {e:Int} {K:Value→PW→Prop} (hD:DomV 317 W l b n) (h:IsPoly 317 188 W s p) (hG:PGood p) (hp:Bd k p) (hm: ∀i,BdI m (b i)) (hm2:m≤7) (he:PExp e p) (he2:e≤255) (hk:k≤100000000) (hl:p.length≤1073741824) (kont: ∀(r:List Value) (W':PW),Ext W W'→(MdV 317 188 W' r (if DRight b n then cutP b n p else mdlZ))→K (.tuple ⟨[.agg ⟨r⟩,.bool (decide (DRight b n))]⟩) W'):
  callN Go.Proofs.Tryz.prog W0 M 51 [.agg ⟨l⟩,.agg ⟨[s.v]⟩] W K:=
 callN_of (fun W' hE=>tmodCut_ok (M:=fun _=>False) (hD.ext hE) (h.ext hE) hG hp hm hm2 he he2 hk hl) (fun W' v W'' hE hE' hP=>by
  obtain⟨r,rfl,h⟩:=hP
  exact kont r W'' (hE.trans hE') h)
theorem MdV.pts {tu tt:TypeId} {W:PW} {l:List Value} {x:Mdl} (h:MdV tu tt W l x): ∃(p s:Sl) (b:Bool) (t s':Sl) (b':Bool) (t':Sl),l = [p.v,s.v,.bool b,t.v,s'.v,.bool b',t'.v]∧IsPoly tu tt W p x.1∧SpV tu W [s.v,.bool b,t.v,s'.v,.bool b',t'.v] x.2:=by
 obtain⟨p,l',rfl,h1,s,b,t,s',b',t',rfl,h2,h3⟩:=h
 exact⟨p,s,b,t,s',b',t',rfl,h1,SpV.mk h2 h3⟩
theorem tmodMul_ok {W0:PW} {M:Nat→Prop} {l lx ly:List Value} {x y:Mdl} {b:Nat→Iv} {n:Int} {kx rx ky ry m:Nat} {ex ey:Int} (hD:DomV 317 W0 l b n) (hx:MdV 317 188 W0 lx x) (hy:MdV 317 188 W0 ly y) (bx:MdB kx rx ex x) (bz:MdB ky ry ey y) (hm: ∀i,BdI m (b i)) (hm2:m≤7) (he:ex+ey≤255) (he1:0≤ex) (he2:0≤ey) (hk:kx+ky≤30000000) (hr:rx+ry≤30000000) (lx1:x.1.length≤32768) (ly1:y.1.length≤32768):
  PCallsM Go.Proofs.Tryz.prog 53 [.agg ⟨l⟩,.agg ⟨lx⟩,.agg ⟨ly⟩] W0 M fun v W'=>∃(r:List Value),v = .tuple ⟨[.agg ⟨r⟩,.bool (decide (DRight b n))]⟩∧MdV 317 188 W' r (if DRight b n then mdMul b n x y else mdlZ):=by
 obtain⟨l',rfl,hb⟩:=hD
 have hb0:=hb
 obtain⟨s0,b0,t0,s1,b1,t1,s2,b2,t2,s3,b3,t3,s4,b4,t4,s5,b5,t5,rfl,_⟩:=hb
 obtain⟨px,u0,c0,v0,u1,c1,v1,rfl,hxp,hxr⟩:=MdV.pts hx
 obtain⟨py,u2,c2,v2,u3,c3,v3,rfl,hyp,hyr⟩:=MdV.pts hy
 apply calltmod_Mul
 have hM:=mulOK_of bx.ok bz.ok he
 have hlen:=Nat.mul_le_mul lx1 ly1
 have hpl:(pnorm (ppairs x.1 y.1)).length≤1073741824:=by have:=pnorm_len (ppairs x.1 y.1);rw[ppairs_len] at this;omega
 refine polyMul_call hxp hyp (bx.bd.mono (show kx≤30000000 by omega)) (bz.bd.mono (by omega)) (by omega) (by omega) (by omega) (by omega) fun s3 W2 hE2 h2=>⟨s3,_,rfl,?_⟩
 rw[mulP_of hM] at h2
 rw[decide_eq_true hM]
 have hpe:=pairs_exp bx.ok bz.ok he
 have hpb:=(bx.bd.pairs bz.bd).norm
 refine tmodCut_call (DomV.mk (hb0.ext hE2)) h2 (pnorm_good _) hpb hm hm2 hpe he (by omega) hpl fun r W6 hE6 h6=>h6.out fun s7 s8 b9 s10 s11 b12 s13 h6 hp6 hr6=>⟨fun e=>(by cases e),fun _=>⟨fun hno W16 hE16=>?_,fun hyes=>?_⟩⟩
 ·have h:¬DRight b n:=by simpa using hno
  rw[decide_eq_false h,if_neg h]
  exact⟨_,rfl,MdV.zero W16⟩
 have hR:DRight b n:=by simpa using hyes
 rw[if_pos hR] at hp6 hr6
 rw[decide_eq_true hR,if_pos hR]
 have hc:=MdB.cut (n:=n) hpb (pnorm_good _) hm hm2 hpe he
 have ox:=over_bd bx.bd hm hm2 bx.ok (by omega)
 have oy:=over_bd bz.bd hm hm2 bz.ok (by omega)
 have d1:=ox.mul bz.rest
 have d2:=oy.mul bx.rest
 have d3:=bx.rest.mul bz.rest
 have e1:=hc.rest.add d1
 have e2:=e1.add d2
 have E0:=hE2.trans hE6
 refine boundOver_call (hxp.ext E0) (hb0.ext E0) bx.bd hm (PExp.mex bx.ok) (by omega) (by omega) (by omega) (by omega) fun r W18 hE18 h18=>h18.out fun s19 b20 s21 s22 b23 s24 h18=>?_
 have E1:=E0.trans hE18
 refine spanMul_call h18 (hyr.ext E1) (ox.mono (show _≤200000000 by omega)).sz (bz.rest.mono (by omega)).sz (by omega) fun r W26 hE26 h26=>h26.out fun s27 b28 s29 s30 b31 s32 h26=>?_
 refine spanAdd_call (hr6.ext (hE18.trans hE26)) h26 (hc.rest.mono (show _≤200000000 by omega)).sz (d1.mono (by omega)).sz (by omega) fun r W34 hE34 h34=>h34.out fun s35 b36 s37 s38 b39 s40 h34=>?_
 have E2:=(E1.trans hE26).trans hE34
 refine boundOver_call (hyp.ext E2) (hb0.ext E2) bz.bd hm (PExp.mex bz.ok) (by omega) (by omega) (by omega) (by omega) fun r W42 hE42 h42=>h42.out fun s43 b44 s45 s46 b47 s48 h42=>?_
 have E3:=E2.trans hE42
 refine spanMul_call h42 (hxr.ext E3) (oy.mono (show _≤200000000 by omega)).sz (bx.rest.mono (by omega)).sz (by omega) fun r W50 hE50 h50=>h50.out fun s51 b52 s53 s54 b55 s56 h50=>?_
 refine spanAdd_call (h34.ext (hE42.trans hE50)) h50 (e1.mono (show _≤400000000 by omega)).sz (d2.mono (by omega)).sz (by omega) fun r W58 hE58 h58=>h58.out fun s59 b60 s61 s62 b63 s64 h58=>?_
 have E4:=(E3.trans hE50).trans hE58
 refine spanMul_call (hxr.ext E4) (hyr.ext E4) (bx.rest.mono (show _≤200000000 by omega)).sz (bz.rest.mono (by omega)).sz (by omega) fun r W66 hE66 h66=>h66.out fun s67 b68 s69 s70 b71 s72 h66=>?_
 exact spanAdd_call (h58.ext hE66) h66 (e2.mono (show _≤800000000 by omega)).sz (d3.mono (by omega)).sz (by omega) fun r W74 hE74 h74=>h74.out fun s75 b76 s77 s78 b79 s80 h74 W81 hE81=>⟨_,rfl,MdV.mk (x:=mdMul b n x y) (hp6.ext (hE18.trans (hE26.trans (hE34.trans (hE42.trans (hE50.trans (hE58.trans (hE66.trans (hE74.trans hE81))))))))) (h74.ext hE81)⟩
theorem tmodMul_call {W0 W:PW} {M:Nat→Prop} {l lx ly:List Value} {x y:Mdl} {b:Nat→Iv} {n:Int} {kx rx ky ry m:Nat} {ex ey:Int} {K:Value→PW→Prop} (hD:DomV 317 W l b n) (hx:MdV 317 188 W lx x) (hy:MdV 317 188 W ly y) (bx:MdB kx rx ex x) (bz:MdB ky ry ey y) (hm: ∀i,BdI m (b i)) (hm2:m≤7) (he:ex+ey≤255) (he1:0≤ex) (he2:0≤ey) (hk:kx+ky≤30000000) (hr:rx+ry≤30000000) (lx1:x.1.length≤32768) (ly1:y.1.length≤32768) (kont: ∀(r:List Value) (W':PW),Ext W W'→(MdV 317 188 W' r (if DRight b n then mdMul b n x y else mdlZ))→K (.tuple ⟨[.agg ⟨r⟩,.bool (decide (DRight b n))]⟩) W'):
  callN Go.Proofs.Tryz.prog W0 M 53 [.agg ⟨l⟩,.agg ⟨lx⟩,.agg ⟨ly⟩] W K:=
 callN_of (fun W' hE=>tmodMul_ok (M:=fun _=>False) (hD.ext hE) (hx.ext hE) (hy.ext hE) bx bz hm hm2 he he1 he2 hk hr lx1 ly1) (fun W' v W'' hE hE' hP=>by
  obtain⟨r,rfl,h⟩:=hP
  exact kont r W'' (hE.trans hE') h)
theorem tmodAdd_ok {W0:PW} {M:Nat→Prop} {lx ly:List Value} {x y:Mdl} {k r:Nat} (hx:MdV 317 188 W0 lx x) (hy:MdV 317 188 W0 ly y) (b1:Bd k x.1) (b2:Bd k y.1) (r1:IvS r x.2) (r2:IvS r y.2) (hk:k≤30000000) (hr:r≤500000000) (lx1:x.1.length≤32768) (ly1:y.1.length≤32768):
  PCallsM Go.Proofs.Tryz.prog 62 [.agg ⟨lx⟩,.agg ⟨ly⟩] W0 M fun v W'=>∃(r':List Value),v = .agg ⟨r'⟩∧MdV 317 188 W' r' (mdAdd x y):=by
 obtain⟨px,u0,c0,v0,u1,c1,v1,rfl,hxp,hxr⟩:=MdV.pts hx
 obtain⟨py,u2,c2,v2,u3,c3,v3,rfl,hyp,hyr⟩:=MdV.pts hy
 apply calltmod_Add
 refine polyAdd_call hxp hyp b1 b2 (by omega) (by omega) (by omega) fun s3 W2 hE2 h2=>⟨s3,rfl,?_⟩
 exact spanAdd_call (hxr.ext hE2) (hyr.ext hE2) r1 r2 (by omega) fun r W5 hE5 h5=>h5.out fun s6 b7 s8 s9 b10 s11 h5 W12 hE12=>⟨_,rfl,MdV.mk (x:=mdAdd x y) (h2.ext (hE5.trans hE12)) (h5.ext hE12)⟩
theorem tmodAdd_call {W0 W:PW} {M:Nat→Prop} {lx ly:List Value} {x y:Mdl} {k r:Nat} {K:Value→PW→Prop} (hx:MdV 317 188 W lx x) (hy:MdV 317 188 W ly y) (b1:Bd k x.1) (b2:Bd k y.1) (r1:IvS r x.2) (r2:IvS r y.2) (hk:k≤30000000) (hr:r≤500000000) (lx1:x.1.length≤32768) (ly1:y.1.length≤32768) (kont: ∀(r':List Value) (W':PW),Ext W W'→(MdV 317 188 W' r' (mdAdd x y))→K (.agg ⟨r'⟩) W'):
  callN Go.Proofs.Tryz.prog W0 M 62 [.agg ⟨lx⟩,.agg ⟨ly⟩] W K:=
 callN_of (fun W' hE=>tmodAdd_ok (M:=fun _=>False) (hx.ext hE) (hy.ext hE) b1 b2 r1 r2 hk hr lx1 ly1) (fun W' v W'' hE hE' hP=>by
  obtain⟨r',rfl,h⟩:=hP
  exact kont r' W'' (hE.trans hE') h)
end Go.Proofs.YthpmkcidkcmlgaaGreat

/- cinctureref1: DomainRight, Cut, ModelMul, ModelAdd, none. -/
set_option maxRecDepth 100000
set_option linter.unusedVariables false
set_option linter.unusedSimpArgs false
namespace Go.Proofs.YthpmkcidkcmlgaaGreat
open Go Go.SX
theorem refDomainRight_ok {W0:PW} {M:Nat→Prop} {l:List Value} {b:Nat→Iv} {n:Int} {k:Nat} (h:RDomV 317 W0 l b n) (hk: ∀i,IvS k (b i)) (hk2:k≤1048576):
  PCallsM Go.Proofs.Tryz.prog 56 [.agg ⟨l⟩] W0 M fun v W'=>v = .bool (decide (DRight b n))∧True:=by
 obtain⟨l',rfl,hb⟩:=h
 have hb0:=hb
 obtain⟨b0,s0,t0,b1,s1,t1,b2,s2,t2,b3,s3,t3,b4,s4,t4,b5,s5,t5,rfl,_⟩:=hb
 apply callref1_DomainRight
 refine⟨trI W0 b,cn1 3,⟨0,rfl,Nat.zero_le _,Ext.refl _,fun t ht=>by omega⟩,?_⟩
 rintro i3 W4 ⟨j,rfl,hj,hE4,hall⟩
 refine⟨fun hlt=>?_,fun hge=>?_⟩
 ·have hj3:j<3:=by omega
  obtain⟨x1,y1,x2,x3,y2,x4,e,e',q1,q2⟩:=(hb0.ext hE4).ends (m:=[.int .i64 n]) hj3
  refine⟨⟨by omega,by omega⟩,x1,y1,x2,e,⟨by omega,by omega⟩,x3,y2,x4,e',refQCmp_call q1 q2 (hk j).1 (hk j).2 (by omega) (by omega) fun W12 hE12 _=>⟨_,rfl,fun h W14 _=>⟨?_,trivial⟩,fun h=>⟨by unfold I64;omega,⟨j+1,by push_cast;rfl,by omega,hE4.trans hE12,fun t ht=>?_⟩,?_⟩⟩⟩
  ·rw[decide_eq_false fun e=>Rat.not_le.2 (cmpQ_gt.1 h) ((dright_iff.1 e).1 j hj3)]
  ·by_cases e:t=j
   ·subst e;exact Rat.not_lt.1 fun e=>h (cmpQ_gt.2 e)
   ·exact hall t (by omega)
  ·show 3-Int.toNat ((j:Int)+1)<3-Int.toNat (j:Int)
   omega
 ·have:j=3:=by omega
  subst this
  refine⟨fun h0 W15 _=>⟨?_,trivial⟩,fun h0 W16 _=>⟨?_,trivial⟩⟩
  ·congr 1
   rw[decide_eq_decide,dright_iff]
   exact⟨fun h=>⟨hall,h0,h⟩,fun h=>h.2.2⟩
  ·rw[decide_eq_false fun e=>h0 (dright_iff.1 e).2.1]
theorem refDomainRight_call {W0 W:PW} {M:Nat→Prop} {l:List Value} {b:Nat→Iv} {n:Int} {k:Nat} {K:Value→PW→Prop} (h:RDomV 317 W l b n) (hk: ∀i,IvS k (b i)) (hk2:k≤1048576) (kont: ∀(W':PW),Ext W W'→(True)→K (.bool (decide (DRight b n))) W'):
  callN Go.Proofs.Tryz.prog W0 M 56 [.agg ⟨l⟩] W K:=
 callN_of (fun W' hE=>refDomainRight_ok (M:=fun _=>False) (h.ext hE) hk hk2) (fun W' v W'' hE hE' hP=>by
  obtain⟨rfl,h⟩:=hP
  exact kont W'' (hE.trans hE') h)
end Go.Proofs.YthpmkcidkcmlgaaGreat
