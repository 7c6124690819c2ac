/- cinctureref1: MatRight, square, rows, One, Ldl, Semi; ldl.Semi. -/
import Derived.Test.YthpmkcidkcmlgaaGreatLib2
import Derived.Test.YthpmkcidkcmlgaaGreatW15
import Derived.Test.YthpmkcidkcmlgaaGreatW10
import Derived.Test.YthpmkcidkcmlgaaGreatR9
import Derived.Test.YthpmkcidkcmlgaaGreatW14
import Derived.Test.YthpmkcidkcmlgaaGreatR13
import Derived.Test.YthpmkcidkcmlgaaGreatW16
import Derived.Test.YthpmkcidkcmlgaaGreatR14
set_option linter.unusedVariables false
set_option linter.unusedSimpArgs false
set_option maxRecDepth 100000
set_option linter.unusedVariables false
set_option linter.unusedSimpArgs false
namespace Go.Proofs.YthpmkcidkcmlgaaGreat
open Go Go.SX
theorem refRight_ok {W0:PW} {M:Nat→Prop} {s:Sl} {r:Nat} {c:Nat→Nat} {m:Nat→Nat→Rat} (h:IsRMat 317 92 193 W0 s r c m) (hr:r≤1099511627776):
  PCallsM Go.Proofs.Tryz.prog 232 [s.v] W0 M fun v W'=>∃(b:Bool),v = .bool b∧(b=true↔RightP r c):=by
 apply callref1_MatRight
 have hn:=h.n
 have bad:¬RightP r c→∃b:Bool,(Value.bool false) = .bool b∧(b=true↔RightP r c):=fun h=>⟨false,rfl,fun e=>(by cases e),fun hp=>absurd hp h⟩
 refine⟨fun h1 W1 _=>bad fun hp=>by have:=hp.2.1;omega,fun h1=>⟨fun h12 W2 _=>bad fun hp=>by have:=hp.2.2.1;omega,fun h12=>?_⟩⟩
 obtain⟨x,e1,e2⟩:=h.at (i:=0) (by omega)
 have hx:=e2.n
 have hib:=h.inB (i:=0) (by omega) (by omega)
 refine⟨hib,x,e1,fun h3 W4 _=>bad fun hp=>by have:=hp.2.2.2.1;omega,fun h3=>⟨hib,x,e1,fun h5 W6 _=>bad fun hp=>by have:=hp.2.2.2.2;omega,fun h5=>?_⟩⟩
 refine⟨fun l W=>match l with | [.val (.int .i64 i)]=>Ext W0 W∧∃k:Nat,i=(k:Int)∧k≤r∧∀j,j<k→c j=c 0 | _=>False,fun l _=>match l with | [.val (.int .i64 i)]=>r-i.toNat | _=>0,⟨Ext.refl _,0,rfl,Nat.zero_le _,fun j hj=>by omega⟩,?_⟩
 rintro i9 W10 ⟨hE,k,rfl,hk,hck⟩
 refine⟨fun hlt=>?_,fun hge W14 _=>⟨true,rfl,fun _=>⟨fun i hi=>hck i (by omega),by omega,by omega,by omega,by omega⟩,fun _=>rfl⟩⟩
 obtain⟨y,y1,y2⟩:=(h.ext hE).at (i:=k) (by omega)
 have hy:=y2.n
 refine⟨(h.ext hE).inB (by omega) (by omega),y,y1,(h.ext hE).inB (by omega) (by omega),x,e1.ext hE,fun hne W13 _=>bad fun hp=>?_,fun heq=>⟨by unfold I64;omega,⟨hE,k+1,by push_cast;rfl,by omega,fun j hj=>?_⟩,?_⟩⟩
 ·have:=hp.1 k (by omega)
  omega
 ·by_cases e:j=k
  ·subst e;omega
  ·exact hck j (by omega)
 ·show r-Int.toNat ((k:Int)+1)<r-Int.toNat (k:Int)
  omega
theorem refRight_call {W0 W:PW} {M:Nat→Prop} {s:Sl} {r:Nat} {c:Nat→Nat} {m:Nat→Nat→Rat} {K:Value→PW→Prop} (h:IsRMat 317 92 193 W s r c m) (hr:r≤1099511627776) (kont: ∀(b:Bool) (W':PW),Ext W W'→((b=true↔RightP r c))→K (.bool b) W'):
  callN Go.Proofs.Tryz.prog W0 M 232 [s.v] W K:=
 callN_of (fun W' hE=>refRight_ok (M:=fun _=>False) (h.ext hE) hr) (fun W' v W'' hE hE' hP=>by
  obtain⟨b,rfl,h⟩:=hP
  exact kont b W'' (hE.trans hE') h)
theorem refSquare_ok {W0:PW} {M:Nat→Prop} {s:Sl} {r:Nat} {c:Nat→Nat} {m:Nat→Nat→Rat} (h:IsRMat 317 92 193 W0 s r c m) (hr:r≤1099511627776):
  PCallsM Go.Proofs.Tryz.prog 184 [s.v] W0 M fun v W'=>∃(b:Bool),v = .bool b∧(b=true↔RightP r c∧c 0=r):=by
 apply callref1_square
 have hn:=h.n
 refine refRight_call h hr fun b W2 hE2 hb=>⟨b,rfl,fun ht=>?_,fun hf W6 _=>⟨false,rfl,fun e=>(by cases e),fun hp=>?_⟩⟩
 ·have hp:=hb.1 ht
  obtain⟨x,e1,e2⟩:=(h.ext hE2).at (i:=0) hp.2.1
  have hx:=e2.n
  refine⟨(h.ext hE2).inB (by omega) (by have:=hp.2.1;omega),x,e1,fun W5 _=>⟨_,rfl,fun e=>⟨hp,?_⟩,fun e=>?_⟩⟩
  ·have:=of_decide_eq_true e
   omega
  ·exact decide_eq_true (by have:=e.2;omega)
 ·rw[hb.2 hp.1] at hf
  cases hf
theorem refSquare_call {W0 W:PW} {M:Nat→Prop} {s:Sl} {r:Nat} {c:Nat→Nat} {m:Nat→Nat→Rat} {K:Value→PW→Prop} (h:IsRMat 317 92 193 W s r c m) (hr:r≤1099511627776) (kont: ∀(b:Bool) (W':PW),Ext W W'→((b=true↔RightP r c∧c 0=r))→K (.bool b) W'):
  callN Go.Proofs.Tryz.prog W0 M 184 [s.v] W K:=
 callN_of (fun W' hE=>refSquare_ok (M:=fun _=>False) (h.ext hE) hr) (fun W' v W'' hE hE' hP=>by
  obtain⟨b,rfl,h⟩:=hP
  exact kont b W'' (hE.trans hE') h)
def rrI (W0:PW) (N:Nat→Prop) (r w:Nat) (m:Nat→Nat→Rat) (l:List PL) (W:PW):Prop:=
 match l with
 | [.row l3,.val (.int .i64 i)]=>Ext W0 W∧∃(k:Nat) (ss:List Sl),i=(k:Int)∧l3=(ss.map fun x=>[x.v])∧ss.length=k∧k≤r∧ORows 317 92 N W ss w m
 | _=>False
def cn2 (r:Nat) (l:List PL) (W:PW):Nat:=
 match l with
 | [_,.val (.int .i64 i)]=>r-i.toNat
 | _=>0
theorem refRows_ok {W0:PW} {M:Nat→Prop} {n0 r w:Nat} {s:Sl} {c:Nat→Nat} {m:Nat→Nat→Rat} (hn:NewFrom n0 W0) (h:IsRMat 317 92 193 W0 s r c m) (hr:r≤1048576) (hw:w≤1048576) (hc: ∀i,i<r→c i=w):
  PCallsM Go.Proofs.Tryz.prog 185 [s.v] W0 M fun v W'=>∃(s':Sl),v=Sl.v s'∧ORMat 317 92 193 (n0≤·) W' s' r w m:=by
 apply callref1_rows
 have hsn:=h.n
 refine⟨rrI W0 (n0≤·) r w m,cn2 r,⟨Ext.refl _,0,[],rfl,rfl,rfl,Nat.zero_le _,ORows.nil⟩,?_⟩
 rintro l3 i4 W5 ⟨hE5,k,ss,rfl,rfl,hl,hk,hO5⟩
 refine⟨fun hlt=>?_,fun hge s10 W11 hE11 hO hf W12 hE12=>⟨s10,rfl,?_⟩⟩
 ·obtain⟨x,e1,xs,e2,e3⟩:=(h.ext hE5).at (i:=k) (by omega)
  have hxl:=e3.1
  have hcw:=hc k (by omega)
  refine⟨(h.ext hE5).inB (by omega) (by omega),x,e1,xs,⟨_,e2⟩,by omega,fun s8 W9 hE9 hO9 hf9=>⟨by simp;omega,by unfold I64;omega,⟨hE5.trans hE9,k+1,ss ++ [s8],by push_cast;rfl,by simp,by simp[hl],by omega,?_⟩,?_⟩⟩
  ·refine hO5.snoc hE9 hO9 (fun g hg=>⟨Nat.le_trans hn (hf9 g hg).1,(hf9 g hg).2⟩) ?_
   rw[hl,←hcw]
   exact e3.ext hE9
  ·show r-Int.toNat ((k:Int)+1)<r-Int.toNat (k:Int)
   omega
 ·have hkr:k=r:=by omega
  exact((hO5.ext hE11).mat (by omega) hO.row).ext hE12
theorem refRows_call {W0 W:PW} {M:Nat→Prop} {n0 r w:Nat} {s:Sl} {c:Nat→Nat} {m:Nat→Nat→Rat} {K:Value→PW→Prop} (hn:NewFrom n0 W) (h:IsRMat 317 92 193 W s r c m) (hr:r≤1048576) (hw:w≤1048576) (hc: ∀i,i<r→c i=w) (kont: ∀(s':Sl) (W':PW),Ext W W'→(ORMat 317 92 193 (n0≤·) W' s' r w m)→K (Sl.v s') W'):
  callN Go.Proofs.Tryz.prog W0 M 185 [s.v] W K:=
 callN_of (fun W' hE=>refRows_ok (M:=fun _=>False) (hn.ext hE) (h.ext hE) hr hw hc) (fun W' v W'' hE hE' hP=>by
  obtain⟨s',rfl,h⟩:=hP
  exact kont s' W'' (hE.trans hE') h)
theorem refOne_ok {W0:PW} {M:Nat→Prop} {n0 n:Nat} (hn:NewFrom n0 W0) (h1:1≤n) (h12:n≤12):
  PCallsM Go.Proofs.Tryz.prog 186 [.int .i64 (n:Int)] W0 M fun v W'=>∃(s':Sl),v=Sl.v s'∧ORMat 317 92 193 (n0≤·) W' s' n n oneM:=by
 apply callref1_One
 have en:mn (mx (n:Int) 1) 12=(n:Int):=by unfold mn mx;split<;>(try split)<;>omega
 unfold Rref1_One
 rw[en]
 refine⟨rrI W0 (n0≤·) n n oneM,cn2 n,⟨Ext.refl _,0,[],rfl,rfl,rfl,Nat.zero_le _,ORows.nil⟩,?_⟩
 rintro l3 i4 W5 ⟨hE5,k,ss,rfl,rfl,hl,hk,hO5⟩
 refine⟨fun hlt=>?_,fun hge s10 W11 hE11 hO hf W12 hE12=>⟨s10,rfl,?_⟩⟩
 ·refine⟨⟨rfl,by omega,by omega⟩,refRatOf_call (z:=1) (by unfold I64;omega) fun b8 s9 s10 W7 hE7 h7=>⟨b8,s9,s10,rfl,⟨by omega,by rw[List.length_replicate];omega⟩,by rw[List.length_replicate];omega,fun s11 W12 hE12 hO12 hf12=>⟨by simp;omega,by unfold I64;omega,⟨(hE5.trans hE7).trans hE12,k+1,ss ++ [s11],by push_cast;rfl,by simp,by simp[hl],by omega,?_⟩,?_⟩⟩⟩
  ·refine(hO5.ext hE7).snoc hE12 hO12 (fun g hg=>⟨Nat.le_trans hn (hf12 g hg).1,(hf12 g hg).2⟩) ?_
   rw[hl]
   refine((rqs_zero W12 n).set (i:=k) (by omega) (h7.ext hE12)).congr fun j hj=>?_
   unfold oneM
   by_cases e:j=k
   ·rw[if_pos e,if_pos e.symm];rfl
   ·rw[if_neg e,if_neg (fun h=>e h.symm)]
  ·show n-Int.toNat ((k:Int)+1)<n-Int.toNat (k:Int)
   omega
 ·have hkr:k=n:=by omega
  exact((hO5.ext hE11).mat (by omega) hO.row).ext hE12
theorem refOne_call {W0 W:PW} {M:Nat→Prop} {n0 n:Nat} {K:Value→PW→Prop} (hn:NewFrom n0 W) (h1:1≤n) (h12:n≤12) (kont: ∀(s':Sl) (W':PW),Ext W W'→(ORMat 317 92 193 (n0≤·) W' s' n n oneM)→K (Sl.v s') W'):
  callN Go.Proofs.Tryz.prog W0 M 186 [.int .i64 (n:Int)] W K:=
 callN_of (fun W' hE=>refOne_ok (M:=fun _=>False) (hn.ext hE) h1 h12) (fun W' v W'' hE hE' hP=>by
  obtain⟨s',rfl,h⟩:=hP
  exact kont s' W'' (hE.trans hE') h)
end Go.Proofs.YthpmkcidkcmlgaaGreat

/- poly.Same. -/
set_option maxRecDepth 100000
set_option linter.unusedVariables false
set_option linter.unusedSimpArgs false
namespace Go.Proofs.YthpmkcidkcmlgaaGreat
open Go Go.SX
theorem sameTm_ok {W0:PW} {M:Nat→Prop} {a b:Mon} {s1 s2 s3 s4:Sl} {b1 b2:Bool} {q r:Rat} {k:Nat} (h1:IsRat 317 W0 s1 b1 s2 q) (h2:IsRat 317 W0 s3 b2 s4 r) (hq:Sz k q) (hr:Sz k r) (hk:k≤34359738368):
  PCallsM Go.Proofs.Tryz.prog 101 [.agg ⟨[.int .u8 a.x,.int .u8 a.y,.int .u8 a.z,s1.v,.bool b1,s2.v]⟩,.agg ⟨[.int .u8 b.x,.int .u8 b.y,.int .u8 b.z,s3.v,.bool b2,s4.v]⟩] W0 M fun v W'=>v = .bool (decide (a=b∧q=r))∧True:=by
 apply callpoly_Same_1
 refine⟨fun he=>ratCmp_call h1 h2 hq hr hk hk fun W2 hE2 _=>⟨_,rfl,fun W4 _=>⟨?_,trivial⟩⟩,fun hne W5 _=>⟨?_,trivial⟩⟩
 ·have he:=mon_cells.1 he
  congr 1
  rw[decide_eq_decide,cmpQ_zero]
  exact⟨fun h=>⟨he,h⟩,fun h=>h.2⟩
 ·rw[decide_eq_false fun h=>hne (mon_cells.2 h.1)]
theorem sameTm_call {W0 W:PW} {M:Nat→Prop} {a b:Mon} {s1 s2 s3 s4:Sl} {b1 b2:Bool} {q r:Rat} {k:Nat} {K:Value→PW→Prop} (h1:IsRat 317 W s1 b1 s2 q) (h2:IsRat 317 W s3 b2 s4 r) (hq:Sz k q) (hr:Sz k r) (hk:k≤34359738368) (kont: ∀(W':PW),Ext W W'→(True)→K (.bool (decide (a=b∧q=r))) W'):
  callN Go.Proofs.Tryz.prog W0 M 101 [.agg ⟨[.int .u8 a.x,.int .u8 a.y,.int .u8 a.z,s1.v,.bool b1,s2.v]⟩,.agg ⟨[.int .u8 b.x,.int .u8 b.y,.int .u8 b.z,s3.v,.bool b2,s4.v]⟩] W K:=
 callN_of (fun W' hE=>sameTm_ok (M:=fun _=>False) (h1.ext hE) (h2.ext hE) hq hr hk) (fun W' v W'' hE hE' hP=>by
  obtain⟨rfl,h⟩:=hP
  exact kont W'' (hE.trans hE') h)
theorem eqTms_ok {W0:PW} {M:Nat→Prop} {s t:Sl} {p q:List Tm} {k:Nat} (h1:IsPoly 317 188 W0 s p) (h2:IsPoly 317 188 W0 t q) (hp: ∀t∈p,Sz k t.2) (hq: ∀t∈q,Sz k t.2) (hk:k≤34359738368) (hl:p.length≤1099511627776):
  PCallsM Go.Proofs.Tryz.prog 100 [s.v,t.v,.func (.func 101) #[] #[]] W0 M fun v W'=>v = .bool (decide (p=q))∧True:=by
 apply callslices_EqualFunc_poly_Term_poly_Term_poly_Term_poly_Term
 have n1:=h1.n
 have n2:=h2.n
 refine⟨fun hne W1 _=>⟨?_,trivial⟩,fun heq=>?_⟩
 ·rw[decide_eq_false]
  rintro rfl
  omega
 have hlen:p.length=q.length:=by omega
 refine⟨fun L W=>match L with | [.val (.int .i64 i)]=>Ext W0 W∧∃j:Nat,i=(j:Int)∧j≤p.length∧p.take j=q.take j | _=>False,fun l _=>match l with | [.val (.int .i64 i)]=>p.length-i.toNat | _=>0,⟨Ext.refl _,0,rfl,by omega,rfl⟩,?_⟩
 rintro i4 W5 ⟨hE,j,rfl,hj,ht⟩
 refine⟨fun hlt=>?_,fun hge W22 _=>⟨?_,trivial⟩⟩
 ·have hjl:j<p.length:=by omega
  have hjq:j<q.length:=by omega
  have hP:=h1.ext hE
  have hQ:=h2.ext hE
  obtain⟨o1,a1,b1,c1,e1,_,_,r1⟩:=hP.at (List.getElem?_eq_getElem hjl)
  obtain⟨o2,a2,b2,c2,e2,_,_,r2⟩:=hQ.at (List.getElem?_eq_getElem hjq)
  refine⟨hP.inB (by omega) (by omega),_,_,_,a1,b1,c1,e1,hQ.inB (by omega) (by omega),_,_,_,a2,b2,c2,e2,sameTm_call r1 r2 (hp _ (List.getElem_mem hjl)) (hq _ (List.getElem_mem hjq)) hk fun W19 hE19 _=>⟨_,rfl,fun hno W21 _=>⟨?_,trivial⟩,fun hyes=>⟨by unfold I64;omega,⟨hE.trans hE19,j+1,by push_cast;rfl,by omega,?_⟩,?_⟩⟩⟩
  ·rw[decide_eq_false]
   rintro rfl
   simp at hno
  ·rw[take_snocR hjl,take_snocR hjq,ht]
   have he:p[j].1=q[j].1∧p[j].2=q[j].2:=by simpa using hyes
   rw[show p[j]=q[j] from Prod.ext he.1 he.2]
  ·show p.length-Int.toNat ((j:Int)+1)<p.length-Int.toNat (j:Int)
   omega
 ·have:j=p.length:=by omega
  subst this
  rw[List.take_length,hlen,List.take_length] at ht
  rw[decide_eq_true ht]
theorem eqTms_call {W0 W:PW} {M:Nat→Prop} {s t:Sl} {p q:List Tm} {k:Nat} {K:Value→PW→Prop} (h1:IsPoly 317 188 W s p) (h2:IsPoly 317 188 W t q) (hp: ∀t∈p,Sz k t.2) (hq: ∀t∈q,Sz k t.2) (hk:k≤34359738368) (hl:p.length≤1099511627776) (kont: ∀(W':PW),Ext W W'→(True)→K (.bool (decide (p=q))) W'):
  callN Go.Proofs.Tryz.prog W0 M 100 [s.v,t.v,.func (.func 101) #[] #[]] W K:=
 callN_of (fun W' hE=>eqTms_ok (M:=fun _=>False) (h1.ext hE) (h2.ext hE) hp hq hk hl) (fun W' v W'' hE hE' hP=>by
  obtain⟨rfl,h⟩:=hP
  exact kont W'' (hE.trans hE') h)
theorem polySame_ok {W0:PW} {M:Nat→Prop} {s t:Sl} {p q:List Tm} {k:Nat} (h1:IsPoly 317 188 W0 s p) (h2:IsPoly 317 188 W0 t q) (hp: ∀t∈p,Sz k t.2) (hq: ∀t∈q,Sz k t.2) (hk:k≤34359738368) (hl:p.length≤1099511627776):
  PCallsM Go.Proofs.Tryz.prog 22 [.agg ⟨[s.v]⟩,.agg ⟨[t.v]⟩] W0 M fun v W'=>v = .bool (decide (p=q))∧True:=by
 apply callpoly_Same
 exact eqTms_call h1 h2 hp hq hk hl fun W2 _ _=>⟨_,rfl,fun W4 _=>⟨rfl,trivial⟩⟩
theorem polySame_call {W0 W:PW} {M:Nat→Prop} {s t:Sl} {p q:List Tm} {k:Nat} {K:Value→PW→Prop} (h1:IsPoly 317 188 W s p) (h2:IsPoly 317 188 W t q) (hp: ∀t∈p,Sz k t.2) (hq: ∀t∈q,Sz k t.2) (hk:k≤34359738368) (hl:p.length≤1099511627776) (kont: ∀(W':PW),Ext W W'→(True)→K (.bool (decide (p=q))) W'):
  callN Go.Proofs.Tryz.prog W0 M 22 [.agg ⟨[s.v]⟩,.agg ⟨[t.v]⟩] W K:=
 callN_of (fun W' hE=>polySame_ok (M:=fun _=>False) (h1.ext hE) (h2.ext hE) hp hq hk hl) (fun W' v W'' hE hE' hP=>by
  obtain⟨rfl,h⟩:=hP
  exact kont W'' (hE.trans hE') h)
end Go.Proofs.YthpmkcidkcmlgaaGreat

/- cinctureref1: PolyAdd, PolyScale, PolySub, Var, Const, PolySame. -/
set_option maxRecDepth 100000
set_option linter.unusedVariables false
set_option linter.unusedSimpArgs false
namespace Go.Proofs.YthpmkcidkcmlgaaGreat
open Go Go.SX
theorem refPolyAdd_ok {W0:PW} {M:Nat→Prop} {sp sq:Sl} {p q:List Tm} {k:Nat} (h1:IsRPoly 317 195 W0 sp p) (h2:IsRPoly 317 195 W0 sq q) (g1:PGood p) (b1:Bd k p) (b2:Bd k q) (hk:k≤40000000) (hp:p.length≤536870912) (hq:q.length≤536870912):
  PCallsM Go.Proofs.Tryz.prog 114 [sp.v,sq.v] W0 M fun v W'=>∃(s':Sl),v=Sl.v s'∧IsRPoly 317 195 W' s' (pnorm (p ++ q)):=by
 apply callref1_PolyAdd
 have n2:=h2.n
 refine⟨fun L W=>match L with
  | [.val (.slice A n c),.val (.int .i64 i)]=>∃j:Nat,i=(j:Int)∧j≤q.length∧Ext W0 W∧IsRPoly 317 195 W ⟨A,n,c⟩ (pnorm (p ++ q.take j))
  | _=>False,cnL q.length,⟨0,rfl,by omega,Ext.refl _,by rw[List.take_zero,List.append_nil,pnorm_of g1];exact h1⟩,?_⟩
 rintro s3 i4 W5 ⟨j,rfl,hj,hE5,hp5⟩
 have hp5:IsRPoly 317 195 W5 s3 (pnorm (p ++ q.take j)):=hp5
 refine⟨fun hlt=>?_,fun hge W15 hE15=>⟨s3,rfl,?_⟩⟩
 ·have hjl:j<q.length:=by omega
  obtain⟨h0,c1,s1,s2,e1,_,_,hr⟩:=(h2.ext hE5).at (List.getElem?_eq_getElem hjl)
  have hlen:=pnorm_len (p ++ q.take j)
  rw[List.length_append,List.length_take] at hlen
  refine⟨(h2.ext hE5).inB (by omega) (by omega),_,_,_,c1,s1,s2,e1,refPut_call (m:=q[j].1) hp5 hr h0 ((b1.append (b2.take j)).norm.sz) ((b2.sz _ (List.getElem_mem hjl)).mono (by omega)) (by omega) (by omega) fun s' W13 hE13 h13=>⟨s',rfl,by unfold I64;omega,⟨j+1,by push_cast;rfl,by omega,hE5.trans hE13,?_⟩,?_⟩⟩
  ·rw[take_snocR hjl,←List.append_assoc,pnorm_snoc]
   exact h13
  ·show q.length-Int.toNat ((j:Int)+1)<q.length-Int.toNat (j:Int)
   omega
 ·have:j=q.length:=by omega
  subst this
  rw[List.take_length] at hp5
  exact hp5.ext hE15
theorem refPolyAdd_call {W0 W:PW} {M:Nat→Prop} {sp sq:Sl} {p q:List Tm} {k:Nat} {K:Value→PW→Prop} (h1:IsRPoly 317 195 W sp p) (h2:IsRPoly 317 195 W sq q) (g1:PGood p) (b1:Bd k p) (b2:Bd k q) (hk:k≤40000000) (hp:p.length≤536870912) (hq:q.length≤536870912) (kont: ∀(s':Sl) (W':PW),Ext W W'→(IsRPoly 317 195 W' s' (pnorm (p ++ q)))→K (Sl.v s') W'):
  callN Go.Proofs.Tryz.prog W0 M 114 [sp.v,sq.v] W K:=
 callN_of (fun W' hE=>refPolyAdd_ok (M:=fun _=>False) (h1.ext hE) (h2.ext hE) g1 b1 b2 hk hp hq) (fun W' v W'' hE hE' hP=>by
  obtain⟨s',rfl,h⟩:=hP
  exact kont s' W'' (hE.trans hE') h)
theorem refPolyScale_ok {W0:PW} {M:Nat→Prop} {sp s t:Sl} {p:List Tm} {b:Bool} {r:Rat} {k l:Nat} (h1:IsRPoly 317 195 W0 sp p) (h2:IsRefQ 317 W0 b s t r) (b1:Bd k p) (b2:Sz l r) (hk:k≤40000000) (hl:l≤40000000) (hp:p.length≤1073741824):
  PCallsM Go.Proofs.Tryz.prog 65 [sp.v,.agg ⟨[.bool b,s.v,t.v]⟩] W0 M fun v W'=>∃(s':Sl),v=Sl.v s'∧IsRPoly 317 195 W' s' (pnorm (pmap p r)):=by
 apply callref1_PolyScale
 have n1:=h1.n
 have hB:=Bd.pmap b1 b2
 refine⟨fun L W=>match L with
  | [.val (.slice A n c),.val (.int .i64 i)]=>∃j:Nat,i=(j:Int)∧j≤p.length∧Ext W0 W∧IsRPoly 317 195 W ⟨A,n,c⟩ (pnorm (pmap (p.take j) r))
  | _=>False,cnL p.length,⟨0,rfl,by omega,Ext.refl _,IsRPoly.nil W0⟩,?_⟩
 rintro s3 i4 W5 ⟨j,rfl,hj,hE5,hp5⟩
 have hp5:IsRPoly 317 195 W5 s3 (pnorm (pmap (p.take j) r)):=hp5
 refine⟨fun hlt=>?_,fun hge W20 hE20=>⟨s3,rfl,?_⟩⟩
 ·have hjl:j<p.length:=by omega
  have hP:=h1.ext hE5
  have hib:=hP.inB (i:=(j:Int)) (by omega) (by omega)
  obtain⟨h0,c1,s1,s2,_,e2,e3,hr⟩:=hP.at (List.getElem?_eq_getElem hjl)
  have hlen:=pnorm_len (pmap (p.take j) r)
  rw[pmap_len,List.length_take] at hlen
  refine⟨hib,_,_,_,e2,hib,c1,s1,s2,e3,refQMul_call hr (h2.ext hE5) (b1.sz _ (List.getElem_mem hjl)) b2 (by omega) (by omega) fun c3 t3 u3 W13 hE13 h13=>⟨c3,t3,u3,rfl,hE13,?_⟩⟩
  refine refPut_call (m:=p[j].1) (hp5.ext hE13) h13 h0 ((Bd.pmap (b1.take j) b2).norm.sz) (hB.sz (p[j].1,p[j].2*r) (List.mem_map.2 ⟨p[j],List.getElem_mem hjl,rfl⟩)) (by omega) (by omega) fun s' W18 hE18 h18=>⟨s',rfl,hE18,by unfold I64;omega,⟨j+1,by push_cast;rfl,by omega,hE5.trans (hE13.trans hE18),?_⟩,?_⟩
  ·rw[take_snocR hjl,show pmap (p.take j ++ [p[j]]) r=pmap (p.take j) r ++ [(p[j].1,p[j].2*r)] from List.map_append,pnorm_snoc]
   exact h18
  ·show p.length-Int.toNat ((j:Int)+1)<p.length-Int.toNat (j:Int)
   omega
 ·have:j=p.length:=by omega
  subst this
  rw[List.take_length] at hp5
  exact hp5.ext hE20
theorem refPolyScale_call {W0 W:PW} {M:Nat→Prop} {sp s t:Sl} {p:List Tm} {b:Bool} {r:Rat} {k l:Nat} {K:Value→PW→Prop} (h1:IsRPoly 317 195 W sp p) (h2:IsRefQ 317 W b s t r) (b1:Bd k p) (b2:Sz l r) (hk:k≤40000000) (hl:l≤40000000) (hp:p.length≤1073741824) (kont: ∀(s':Sl) (W':PW),Ext W W'→(IsRPoly 317 195 W' s' (pnorm (pmap p r)))→K (Sl.v s') W'):
  callN Go.Proofs.Tryz.prog W0 M 65 [sp.v,.agg ⟨[.bool b,s.v,t.v]⟩] W K:=
 callN_of (fun W' hE=>refPolyScale_ok (M:=fun _=>False) (h1.ext hE) (h2.ext hE) b1 b2 hk hl hp) (fun W' v W'' hE hE' hP=>by
  obtain⟨s',rfl,h⟩:=hP
  exact kont s' W'' (hE.trans hE') h)
end Go.Proofs.YthpmkcidkcmlgaaGreat

/- cinctureref1.PolyMul. -/
set_option maxRecDepth 100000
set_option linter.unusedVariables false
set_option linter.unusedSimpArgs false
namespace Go.Proofs.YthpmkcidkcmlgaaGreat
open Go Go.SX
end Go.Proofs.YthpmkcidkcmlgaaGreat
