/- cinctureref1: MatRight, square, rows, One, Ldl, Semi; ldl.Semi. -/
import Derived.Test.YthpmkcidkcmlgaaGreatLib2
import Derived.Test.YthpmkcidkcmlgaaGreatW15
import Derived.Test.YthpmkcidkcmlgaaGreatW10
import Derived.Test.YthpmkcidkcmlgaaGreatR9
import Derived.Test.YthpmkcidkcmlgaaGreatW14
import Derived.Test.YthpmkcidkcmlgaaGreatR13
import Derived.Test.YthpmkcidkcmlgaaGreatW16
import Derived.Test.YthpmkcidkcmlgaaGreatR14
set_option linter.unusedVariables false
set_option linter.unusedSimpArgs false
set_option maxRecDepth 100000
set_option linter.unusedVariables false
set_option linter.unusedSimpArgs false
namespace Go.Proofs.YthpmkcidkcmlgaaGreat
open Go Go.SX
def rrI (W0:PW) (N:Nat→Prop) (r w:Nat) (m:Nat→Nat→Rat) (l:List PL) (W:PW):Prop:=
 match l with
 | [.row l3,.val (.int .i64 i)]=>Ext W0 W∧∃(k:Nat) (ss:List Sl),i=(k:Int)∧l3=(ss.map fun x=>[x.v])∧ss.length=k∧k≤r∧ORows 317 92 N W ss w m
 | _=>False
def cn2 (r:Nat) (l:List PL) (W:PW):Nat:=
 match l with
 | [_,.val (.int .i64 i)]=>r-i.toNat
 | _=>0
end Go.Proofs.YthpmkcidkcmlgaaGreat

/- poly.Same. -/
set_option maxRecDepth 100000
set_option linter.unusedVariables false
set_option linter.unusedSimpArgs false
namespace Go.Proofs.YthpmkcidkcmlgaaGreat
open Go Go.SX
theorem sameTm_ok {W0:PW} {M:Nat→Prop} {a b:Mon} {s1 s2 s3 s4:Sl} {b1 b2:Bool} {q r:Rat} {k:Nat} (h1:IsRat 317 W0 s1 b1 s2 q) (h2:IsRat 317 W0 s3 b2 s4 r) (hq:Sz k q) (hr:Sz k r) (hk:k≤34359738368):
  PCallsM Go.Proofs.Tryz.prog 101 [.agg ⟨[.int .u8 a.x,.int .u8 a.y,.int .u8 a.z,s1.v,.bool b1,s2.v]⟩,.agg ⟨[.int .u8 b.x,.int .u8 b.y,.int .u8 b.z,s3.v,.bool b2,s4.v]⟩] W0 M fun v W'=>v = .bool (decide (a=b∧q=r))∧True:=by
 apply callpoly_Same_1
 refine⟨fun he=>ratCmp_call h1 h2 hq hr hk hk fun W2 hE2 _=>⟨_,rfl,fun W4 _=>⟨?_,trivial⟩⟩,fun hne W5 _=>⟨?_,trivial⟩⟩
 ·have he:=mon_cells.1 he
  congr 1
  rw[decide_eq_decide,cmpQ_zero]
  exact⟨fun h=>⟨he,h⟩,fun h=>h.2⟩
 ·rw[decide_eq_false fun h=>hne (mon_cells.2 h.1)]
theorem sameTm_call {W0 W:PW} {M:Nat→Prop} {a b:Mon} {s1 s2 s3 s4:Sl} {b1 b2:Bool} {q r:Rat} {k:Nat} {K:Value→PW→Prop} (h1:IsRat 317 W s1 b1 s2 q) (h2:IsRat 317 W s3 b2 s4 r) (hq:Sz k q) (hr:Sz k r) (hk:k≤34359738368) (kont: ∀(W':PW),Ext W W'→(True)→K (.bool (decide (a=b∧q=r))) W'):
  callN Go.Proofs.Tryz.prog W0 M 101 [.agg ⟨[.int .u8 a.x,.int .u8 a.y,.int .u8 a.z,s1.v,.bool b1,s2.v]⟩,.agg ⟨[.int .u8 b.x,.int .u8 b.y,.int .u8 b.z,s3.v,.bool b2,s4.v]⟩] W K:=
 callN_of (fun W' hE=>sameTm_ok (M:=fun _=>False) (h1.ext hE) (h2.ext hE) hq hr hk) (fun W' v W'' hE hE' hP=>by
  obtain⟨rfl,h⟩:=hP
  exact kont W'' (hE.trans hE') h)
theorem eqTms_ok {W0:PW} {M:Nat→Prop} {s t:Sl} {p q:List Tm} {k:Nat} (h1:IsPoly 317 188 W0 s p) (h2:IsPoly 317 188 W0 t q) (hp: ∀t∈p,Sz k t.2) (hq: ∀t∈q,Sz k t.2) (hk:k≤34359738368) (hl:p.length≤1099511627776):
  PCallsM Go.Proofs.Tryz.prog 100 [s.v,t.v,.func (.func 101) #[] #[]] W0 M fun v W'=>v = .bool (decide (p=q))∧True:=by
 apply callslices_EqualFunc_poly_Term_poly_Term_poly_Term_poly_Term
 have n1:=h1.n
 have n2:=h2.n
 refine⟨fun hne W1 _=>⟨?_,trivial⟩,fun heq=>?_⟩
 ·rw[decide_eq_false]
  rintro rfl
  omega
 have hlen:p.length=q.length:=by omega
 refine⟨fun L W=>match L with | [.val (.int .i64 i)]=>Ext W0 W∧∃j:Nat,i=(j:Int)∧j≤p.length∧p.take j=q.take j | _=>False,fun l _=>match l with | [.val (.int .i64 i)]=>p.length-i.toNat | _=>0,⟨Ext.refl _,0,rfl,by omega,rfl⟩,?_⟩
 rintro i4 W5 ⟨hE,j,rfl,hj,ht⟩
 refine⟨fun hlt=>?_,fun hge W22 _=>⟨?_,trivial⟩⟩
 ·have hjl:j<p.length:=by omega
  have hjq:j<q.length:=by omega
  have hP:=h1.ext hE
  have hQ:=h2.ext hE
  obtain⟨o1,a1,b1,c1,e1,_,_,r1⟩:=hP.at (List.getElem?_eq_getElem hjl)
  obtain⟨o2,a2,b2,c2,e2,_,_,r2⟩:=hQ.at (List.getElem?_eq_getElem hjq)
  refine⟨hP.inB (by omega) (by omega),_,_,_,a1,b1,c1,e1,hQ.inB (by omega) (by omega),_,_,_,a2,b2,c2,e2,sameTm_call r1 r2 (hp _ (List.getElem_mem hjl)) (hq _ (List.getElem_mem hjq)) hk fun W19 hE19 _=>⟨_,rfl,fun hno W21 _=>⟨?_,trivial⟩,fun hyes=>⟨by unfold I64;omega,⟨hE.trans hE19,j+1,by push_cast;rfl,by omega,?_⟩,?_⟩⟩⟩
  ·rw[decide_eq_false]
   rintro rfl
   simp at hno
  ·rw[take_snocR hjl,take_snocR hjq,ht]
   have he:p[j].1=q[j].1∧p[j].2=q[j].2:=by simpa using hyes
   rw[show p[j]=q[j] from Prod.ext he.1 he.2]
  ·show p.length-Int.toNat ((j:Int)+1)<p.length-Int.toNat (j:Int)
   omega
 ·have:j=p.length:=by omega
  subst this
  rw[List.take_length,hlen,List.take_length] at ht
  rw[decide_eq_true ht]
theorem eqTms_call {W0 W:PW} {M:Nat→Prop} {s t:Sl} {p q:List Tm} {k:Nat} {K:Value→PW→Prop} (h1:IsPoly 317 188 W s p) (h2:IsPoly 317 188 W t q) (hp: ∀t∈p,Sz k t.2) (hq: ∀t∈q,Sz k t.2) (hk:k≤34359738368) (hl:p.length≤1099511627776) (kont: ∀(W':PW),Ext W W'→(True)→K (.bool (decide (p=q))) W'):
  callN Go.Proofs.Tryz.prog W0 M 100 [s.v,t.v,.func (.func 101) #[] #[]] W K:=
 callN_of (fun W' hE=>eqTms_ok (M:=fun _=>False) (h1.ext hE) (h2.ext hE) hp hq hk hl) (fun W' v W'' hE hE' hP=>by
  obtain⟨rfl,h⟩:=hP
  exact kont W'' (hE.trans hE') h)
theorem polySame_ok {W0:PW} {M:Nat→Prop} {s t:Sl} {p q:List Tm} {k:Nat} (h1:IsPoly 317 188 W0 s p) (h2:IsPoly 317 188 W0 t q) (hp: ∀t∈p,Sz k t.2) (hq: ∀t∈q,Sz k t.2) (hk:k≤34359738368) (hl:p.length≤1099511627776):
  PCallsM Go.Proofs.Tryz.prog 22 [.agg ⟨[s.v]⟩,.agg ⟨[t.v]⟩] W0 M fun v W'=>v = .bool (decide (p=q))∧True:=by
 apply callpoly_Same
 exact eqTms_call h1 h2 hp hq hk hl fun W2 _ _=>⟨_,rfl,fun W4 _=>⟨rfl,trivial⟩⟩
theorem polySame_call {W0 W:PW} {M:Nat→Prop} {s t:Sl} {p q:List Tm} {k:Nat} {K:Value→PW→Prop} (h1:IsPoly 317 188 W s p) (h2:IsPoly 317 188 W t q) (hp: ∀t∈p,Sz k t.2) (hq: ∀t∈q,Sz k t.2) (hk:k≤34359738368) (hl:p.length≤1099511627776) (kont: ∀(W':PW),Ext W W'→(True)→K (.bool (decide (p=q))) W'):
  callN Go.Proofs.Tryz.prog W0 M 22 [.agg ⟨[s.v]⟩,.agg ⟨[t.v]⟩] W K:=
 callN_of (fun W' hE=>polySame_ok (M:=fun _=>False) (h1.ext hE) (h2.ext hE) hp hq hk hl) (fun W' v W'' hE hE' hP=>by
  obtain⟨rfl,h⟩:=hP
  exact kont W'' (hE.trans hE') h)
end Go.Proofs.YthpmkcidkcmlgaaGreat

/- cinctureref1: PolyAdd, PolyScale, PolySub, Var, Const, PolySame. -/
set_option maxRecDepth 100000
set_option linter.unusedVariables false
set_option linter.unusedSimpArgs false
namespace Go.Proofs.YthpmkcidkcmlgaaGreat
open Go Go.SX
end Go.Proofs.YthpmkcidkcmlgaaGreat

/- cinctureref1.PolyMul. -/
set_option maxRecDepth 100000
set_option linter.unusedVariables false
set_option linter.unusedSimpArgs false
namespace Go.Proofs.YthpmkcidkcmlgaaGreat
open Go Go.SX
end Go.Proofs.YthpmkcidkcmlgaaGreat
