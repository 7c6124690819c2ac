/- cinctureref1: PolyAdd, PolyScale, PolySub, Var, Const, PolySame. -/
import Derived.Test.YthpmkcidkcmlgaaGreatW14
import Derived.Test.YthpmkcidkcmlgaaGreatR11
import Derived.Test.YthpmkcidkcmlgaaGreatR10
set_option linter.unusedVariables false
set_option linter.unusedSimpArgs false
set_option maxRecDepth 100000
set_option linter.unusedVariables false
set_option linter.unusedSimpArgs false
namespace Go.Proofs.YthpmkcidkcmlgaaGreat
open Go Go.SX
theorem refPolyAdd_ok {W0:PW} {M:Nat→Prop} {sp sq:Sl} {p q:List Tm} {k:Nat} (h1:IsRPoly 317 195 W0 sp p) (h2:IsRPoly 317 195 W0 sq q) (g1:PGood p) (b1:Bd k p) (b2:Bd k q) (hk:k≤40000000) (hp:p.length≤536870912) (hq:q.length≤536870912):
  PCallsM Go.Proofs.Tryz.prog 114 [sp.v,sq.v] W0 M fun v W'=>∃(s':Sl),v=Sl.v s'∧IsRPoly 317 195 W' s' (pnorm (p ++ q)):=by
 apply callref1_PolyAdd
 have n2:=h2.n
 refine⟨fun L W=>match L with
  | [.val (.slice A n c),.val (.int .i64 i)]=>∃j:Nat,i=(j:Int)∧j≤q.length∧Ext W0 W∧IsRPoly 317 195 W ⟨A,n,c⟩ (pnorm (p ++ q.take j))
  | _=>False,cnL q.length,⟨0,rfl,by omega,Ext.refl _,by rw[List.take_zero,List.append_nil,pnorm_of g1];exact h1⟩,?_⟩
 rintro s3 i4 W5 ⟨j,rfl,hj,hE5,hp5⟩
 have hp5:IsRPoly 317 195 W5 s3 (pnorm (p ++ q.take j)):=hp5
 refine⟨fun hlt=>?_,fun hge W15 hE15=>⟨s3,rfl,?_⟩⟩
 ·have hjl:j<q.length:=by omega
  obtain⟨h0,c1,s1,s2,e1,_,_,hr⟩:=(h2.ext hE5).at (List.getElem?_eq_getElem hjl)
  have hlen:=pnorm_len (p ++ q.take j)
  rw[List.length_append,List.length_take] at hlen
  refine⟨(h2.ext hE5).inB (by omega) (by omega),_,_,_,c1,s1,s2,e1,refPut_call (m:=q[j].1) hp5 hr h0 ((b1.append (b2.take j)).norm.sz) ((b2.sz _ (List.getElem_mem hjl)).mono (by omega)) (by omega) (by omega) fun s' W13 hE13 h13=>⟨s',rfl,by unfold I64;omega,⟨j+1,by push_cast;rfl,by omega,hE5.trans hE13,?_⟩,?_⟩⟩
  ·rw[take_snocR hjl,←List.append_assoc,pnorm_snoc]
   exact h13
  ·show q.length-Int.toNat ((j:Int)+1)<q.length-Int.toNat (j:Int)
   omega
 ·have:j=q.length:=by omega
  subst this
  rw[List.take_length] at hp5
  exact hp5.ext hE15
theorem refPolyAdd_call {W0 W:PW} {M:Nat→Prop} {sp sq:Sl} {p q:List Tm} {k:Nat} {K:Value→PW→Prop} (h1:IsRPoly 317 195 W sp p) (h2:IsRPoly 317 195 W sq q) (g1:PGood p) (b1:Bd k p) (b2:Bd k q) (hk:k≤40000000) (hp:p.length≤536870912) (hq:q.length≤536870912) (kont: ∀(s':Sl) (W':PW),Ext W W'→(IsRPoly 317 195 W' s' (pnorm (p ++ q)))→K (Sl.v s') W'):
  callN Go.Proofs.Tryz.prog W0 M 114 [sp.v,sq.v] W K:=
 callN_of (fun W' hE=>refPolyAdd_ok (M:=fun _=>False) (h1.ext hE) (h2.ext hE) g1 b1 b2 hk hp hq) (fun W' v W'' hE hE' hP=>by
  obtain⟨s',rfl,h⟩:=hP
  exact kont s' W'' (hE.trans hE') h)
theorem refConst_ok {W0:PW} {M:Nat→Prop} {s t:Sl} {b:Bool} {q:Rat} {k:Nat} (h:IsRefQ 317 W0 b s t q) (hq:Sz k q) (hk:k≤100000000):
  PCallsM Go.Proofs.Tryz.prog 113 [.agg ⟨[.bool b,s.v,t.v]⟩] W0 M fun v W'=>∃(s':Sl),v=Sl.v s'∧IsRPoly 317 195 W' s' (pnorm [(⟨0,0,0⟩,q)]):=by
 apply callref1_Const
 exact refPut_call (sp:=⟨none,0,0⟩) (m:=⟨0,0,0⟩) (IsRPoly.nil W0) h (by decide) (fun t ht=>by simp at ht) hq hk (by simp) fun s' W2 hE2 h2=>⟨s',rfl,fun W4 hE4=>⟨s',rfl,h2.ext hE4⟩⟩
theorem refConst_call {W0 W:PW} {M:Nat→Prop} {s t:Sl} {b:Bool} {q:Rat} {k:Nat} {K:Value→PW→Prop} (h:IsRefQ 317 W b s t q) (hq:Sz k q) (hk:k≤100000000) (kont: ∀(s':Sl) (W':PW),Ext W W'→(IsRPoly 317 195 W' s' (pnorm [(⟨0,0,0⟩,q)]))→K (Sl.v s') W'):
  callN Go.Proofs.Tryz.prog W0 M 113 [.agg ⟨[.bool b,s.v,t.v]⟩] W K:=
 callN_of (fun W' hE=>refConst_ok (M:=fun _=>False) (h.ext hE) hq hk) (fun W' v W'' hE hE' hP=>by
  obtain⟨s',rfl,h⟩:=hP
  exact kont s' W'' (hE.trans hE') h)
end Go.Proofs.YthpmkcidkcmlgaaGreat

/- cinctureref1.PolyMul. -/
set_option maxRecDepth 100000
set_option linter.unusedVariables false
set_option linter.unusedSimpArgs false
namespace Go.Proofs.YthpmkcidkcmlgaaGreat
open Go Go.SX
theorem ppairs_split {p q:List Tm} {j:Nat} (hj:j<p.length):ppairs p q=ppairs (p.take j) q ++ (prow p[j] q ++ ppairs (p.drop (j+1)) q):=by
 have e:p=p.take j ++ p[j] :: p.drop (j+1):=by rw[←List.drop_eq_getElem_cons hj,List.take_append_drop]
 have e2: ∀a b:List Tm,ppairs (a ++ b) q=ppairs a q ++ ppairs b q:=fun a b=>by simp[ppairs]
 conv=>lhs;rw[e]
 rw[e2]
 rfl
theorem prow_split (a:Tm) (q:List Tm) (k:Nat):prow a q=prow a (q.take k) ++ prow a (q.drop k):=by
 rw[prow,prow,prow,←List.map_append,List.take_append_drop]
theorem prow_snoc {a:Tm} {q:List Tm} {k:Nat} (hk:k<q.length):prow a (q.take (k+1))=prow a (q.take k) ++ [(a.1.add q[k].1,a.2*q[k].2)]:=by
 rw[take_snocR hk]
 exact List.map_append
def rmO (W0:PW) (p q:List Tm) (l:List PL) (W:PW):Prop:=match l with
 | [.val (.slice A n c),.val (.int .i64 i)]=>∃j:Nat,i=(j:Int)∧j≤p.length∧Ext W0 W∧MulOK (p.take j) q∧IsRPoly 317 195 W ⟨A,n,c⟩ (pnorm (ppairs (p.take j) q))
 | _=>False
def rmI (W0:PW) (p q:List Tm) (j:Nat) (t:Tm) (l:List PL) (W:PW):Prop:=match l with
 | [.val (.slice A n c),.val (.int .i64 i)]=>∃k:Nat,i=(k:Int)∧k≤q.length∧Ext W0 W∧(∀b∈q.take k,(t.1.add b.1).ok)∧IsRPoly 317 195 W ⟨A,n,c⟩ (pnorm (ppairs (p.take j) q ++ prow t (q.take k)))
 | _=>False
theorem refPolyMul_ok {W0:PW} {M:Nat→Prop} {sp sq:Sl} {p q:List Tm} {k:Nat} (h1:IsRPoly 317 195 W0 sp p) (h2:IsRPoly 317 195 W0 sq q) (b1:Bd k p) (b2:Bd k q) (hk:k≤50000000) (hp:p.length≤1073741824) (hq:q.length≤1073741824) (hpq:p.length*q.length≤1073741824):
  PCallsM Go.Proofs.Tryz.prog 110 [sp.v,sq.v] W0 M fun v W'=>∃(s':Sl),v = .tuple ⟨[Sl.v s',.bool (decide (MulOK p q))]⟩∧IsRPoly 317 195 W' s' (mulP p q):=by
 apply callref1_PolyMul
 have n1:=h1.n
 have n2:=h2.n
 have hB:=b1.pairs b2
 refine⟨rmO W0 p q,cnL p.length,⟨0,rfl,by omega,Ext.refl _,fun a ha=>by simp at ha,IsRPoly.nil W0⟩,?_⟩
 rintro s3 i4 W5 ⟨j,rfl,hj,hE5,hok,hr⟩
 have hr:IsRPoly 317 195 W5 s3 (pnorm (ppairs (p.take j) q)):=hr
 refine⟨fun hlt=>?_,fun hge W59 hE59=>⟨s3,?_,?_⟩⟩
 ·have hjl:j<p.length:=by omega
  refine⟨rmI W0 p q j p[j],cnL q.length,⟨0,rfl,by omega,hE5,fun b hb=>by simp at hb,by simpa[prow] using hr⟩,?_⟩
  rintro s8 i9 W10 ⟨k',rfl,hk',hE10,hok',hr'⟩
  have hr':IsRPoly 317 195 W10 s8 (pnorm (ppairs (p.take j) q ++ prow p[j] (q.take k'))):=hr'
  refine⟨fun hlt'=>?_,fun hge'=>⟨by unfold I64;omega,⟨j+1,by push_cast;rfl,by omega,hE10,?_,?_⟩,?_⟩⟩
  ·have hkl:k'<q.length:=by omega
   have hP:=h1.ext hE10
   have hQ:=h2.ext hE10
   have i1:=hP.inB (i:=(j:Int)) (by omega) (by omega)
   have i2:=hQ.inB (i:=(k':Int)) (by omega) (by omega)
   obtain⟨o1,_,_,_,_,e1,_,_⟩:=hP.at (List.getElem?_eq_getElem hjl)
   obtain⟨o2,_,_,_,_,e2,_,_⟩:=hQ.at (List.getElem?_eq_getElem hkl)
   refine⟨i1,_,_,_,e1,i2,_,_,_,e2,?_⟩
   refine refMonoMul_call o1 o2 fun W18 hE18 _=>⟨_,_,_,_,rfl,fun hno W23 hE23=>?_,fun hyes=>?_⟩
   ·have hno:¬(p[j].1.add q[k'].1).ok:=by simpa using hno
    have hM:¬MulOK p q:=fun h=>hno (h _ (List.getElem_mem hjl) _ (List.getElem_mem hkl))
    refine⟨⟨none,0,0⟩,?_,?_⟩
    ·rw[decide_eq_false hM]
    ·unfold mulP
     rw[if_neg hM]
     exact IsRPoly.nil W23
   ·have hyes:(p[j].1.add q[k'].1).ok:=by simpa using hyes
    have hmm:mulMon p[j].1 q[k'].1=p[j].1.add q[k'].1:=by unfold mulMon;rw[if_pos hyes]
    rw[hmm]
    obtain⟨_,c1,t1,u1,_,_,f1,r1⟩:=(hP.ext hE18).at (List.getElem?_eq_getElem hjl)
    obtain⟨_,c2,t2,u2,_,_,f2,r2⟩:=(hQ.ext hE18).at (List.getElem?_eq_getElem hkl)
    have hpre:Bd (k+k) (ppairs (p.take j) q ++ prow p[j] (q.take k') ++ [(p[j].1.add q[k'].1,p[j].2*q[k'].2)]):=by
     have hB':=hB
     rw[ppairs_split hjl,←List.append_assoc] at hB'
     have:=hB'.left
     rw[prow_split p[j] q (k'+1),prow_snoc hkl] at this
     rw[←List.append_assoc,←List.append_assoc] at this
     exact this.left
    have hlen:=pnorm_len (ppairs (p.take j) q ++ prow p[j] (q.take k'))
    have hll:(ppairs (p.take j) q ++ prow p[j] (q.take k')).length≤p.length*q.length:=by
     have:=congrArg List.length (ppairs_split (q:=q) hjl)
     rw[ppairs_len] at this
     simp only[List.length_append] at this⊢
     have e:(prow p[j] (q.take k')).length≤(prow p[j] q).length:=by simp[prow];omega
     omega
    refine⟨i1,c1,t1,u1,f1,i2,c2,t2,u2,f2,refQMul_call r1 r2 (b1.sz _ (List.getElem_mem hjl)) (b2.sz _ (List.getElem_mem hkl)) (by omega) (by omega) fun c3 t3 u3 W31 hE31 h31=>⟨c3,t3,u3,rfl,?_⟩⟩
    refine refPut_call (m:=p[j].1.add q[k'].1) (hr'.ext (hE18.trans hE31)) h31 hyes hpre.left.norm.sz (hpre.right.sz (p[j].1.add q[k'].1,p[j].2*q[k'].2) (by simp)) (by omega) (by omega) fun s37 W36 hE36 h36=>⟨s37,rfl,by unfold I64;omega,⟨k'+1,by push_cast;rfl,by omega,hE10.trans ((hE18.trans hE31).trans hE36),?_,?_⟩,?_⟩
    ·intro b hb
     rw[take_snocR hkl] at hb
     rcases List.mem_append.1 hb with hb | hb
     ·exact hok' b hb
     ·simp at hb;subst hb;exact hyes
    ·rw[prow_snoc hkl,←List.append_assoc,pnorm_snoc]
     exact h36
    ·show q.length-Int.toNat ((k':Int)+1)<q.length-Int.toNat (k':Int)
     omega
  ·intro a ha b hb
   rw[take_snocR hjl] at ha
   rcases List.mem_append.1 ha with ha | ha
   ·exact hok a ha b hb
   ·simp at ha;subst ha
    have:k'=q.length:=by omega
    subst this
    rw[List.take_length] at hok'
    exact hok' b hb
  ·have:k'=q.length:=by omega
   subst this
   rw[List.take_length] at hr'
   rw[take_snocR hjl,ppairs_snoc]
   exact hr'
  ·show p.length-Int.toNat ((j:Int)+1)<p.length-Int.toNat (j:Int)
   omega
 ·have:j=p.length:=by omega
  subst this
  rw[List.take_length] at hok
  rw[decide_eq_true hok]
 ·have:j=p.length:=by omega
  subst this
  rw[List.take_length] at hok hr
  unfold mulP
  rw[if_pos hok]
  exact hr.ext hE59
theorem refPolyMul_call {W0 W:PW} {M:Nat→Prop} {sp sq:Sl} {p q:List Tm} {k:Nat} {K:Value→PW→Prop} (h1:IsRPoly 317 195 W sp p) (h2:IsRPoly 317 195 W sq q) (b1:Bd k p) (b2:Bd k q) (hk:k≤50000000) (hp:p.length≤1073741824) (hq:q.length≤1073741824) (hpq:p.length*q.length≤1073741824) (kont: ∀(s':Sl) (W':PW),Ext W W'→(IsRPoly 317 195 W' s' (mulP p q))→K (.tuple ⟨[Sl.v s',.bool (decide (MulOK p q))]⟩) W'):
  callN Go.Proofs.Tryz.prog W0 M 110 [sp.v,sq.v] W K:=
 callN_of (fun W' hE=>refPolyMul_ok (M:=fun _=>False) (h1.ext hE) (h2.ext hE) b1 b2 hk hp hq hpq) (fun W' v W'' hE hE' hP=>by
  obtain⟨s',rfl,h⟩:=hP
  exact kont s' W'' (hE.trans hE') h)
end Go.Proofs.YthpmkcidkcmlgaaGreat

/- poly.Compose, cinctureref1.Compose. -/
set_option maxRecDepth 100000
set_option linter.unusedVariables false
set_option linter.unusedSimpArgs false
namespace Go.Proofs.YthpmkcidkcmlgaaGreat
open Go Go.SX
def cst (r:Rat):List Tm:=pnorm [(⟨0,0,0⟩,r)]
end Go.Proofs.YthpmkcidkcmlgaaGreat
