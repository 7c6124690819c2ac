/- cinctureref1: PolyAdd, PolyScale, PolySub, Var, Const, PolySame. -/
import Derived.Test.YtjgpenfndnhdnaaGreatW14
import Derived.Test.YtjgpenfndnhdnaaGreatW15
import Derived.Test.YtjgpenfndnhdnaaGreatR19
import Derived.Test.YtjgpenfndnhdnaaGreatR20
import Derived.Test.YtjgpenfndnhdnaaGreatLib4
set_option linter.unusedVariables false
set_option linter.unusedSimpArgs false
set_option maxRecDepth 100000
set_option linter.unusedVariables false
set_option linter.unusedSimpArgs false
namespace Go.Proofs.YtjgpenfndnhdnaaGreat
open Go Go.SX
theorem refPolyAdd_ok {W0:PW} {M:Nat→Prop} {sp sq:Sl} {p q:List Tm} {k:Nat} (h1:IsRPoly 260 142 W0 sp p) (h2:IsRPoly 260 142 W0 sq q) (g1:PGood p) (b1:Bd k p) (b2:Bd k q) (hk:k≤40000000) (hp:p.length≤536870912) (hq:q.length≤536870912):
  PCallsM Go.Proofs.Tryz.prog 52 [sp.v,sq.v] W0 M fun v W'=>∃(s':Sl),v=Sl.v s'∧IsRPoly 260 142 W' s' (pnorm (p ++ q)):=by
 apply callref1_PolyAdd
 have n2:=h2.n
 refine⟨fun L W=>match L with
  | [.val (.slice A n c),.val (.int .i64 i)]=>∃j:Nat,i=(j:Int)∧j≤q.length∧Ext W0 W∧IsRPoly 260 142 W ⟨A,n,c⟩ (pnorm (p ++ q.take j))
  | _=>False,cnL q.length,⟨0,rfl,by omega,Ext.refl _,by rw[List.take_zero,List.append_nil,pnorm_of g1];exact h1⟩,?_⟩
 rintro s3 i4 W5 ⟨j,rfl,hj,hE5,hp5⟩
 have hp5:IsRPoly 260 142 W5 s3 (pnorm (p ++ q.take j)):=hp5
 refine⟨fun hlt=>?_,fun hge W15 hE15=>⟨s3,rfl,?_⟩⟩
 ·have hjl:j<q.length:=by omega
  obtain⟨h0,c1,s1,s2,e1,_,_,hr⟩:=(h2.ext hE5).at (List.getElem?_eq_getElem hjl)
  have hlen:=pnorm_len (p ++ q.take j)
  rw[List.length_append,List.length_take] at hlen
  refine⟨(h2.ext hE5).inB (by omega) (by omega),_,_,_,c1,s1,s2,e1,refPut_call (m:=q[j].1) hp5 hr h0 ((b1.append (b2.take j)).norm.sz) ((b2.sz _ (List.getElem_mem hjl)).mono (by omega)) (by omega) (by omega) fun s' W13 hE13 h13=>⟨s',rfl,by unfold I64;omega,⟨j+1,by push_cast;rfl,by omega,hE5.trans hE13,?_⟩,?_⟩⟩
  ·rw[take_snocR hjl,←List.append_assoc,pnorm_snoc]
   exact h13
  ·show q.length-Int.toNat ((j:Int)+1)<q.length-Int.toNat (j:Int)
   omega
 ·have:j=q.length:=by omega
  subst this
  rw[List.take_length] at hp5
  exact hp5.ext hE15
theorem refPolyAdd_call {W0 W:PW} {M:Nat→Prop} {sp sq:Sl} {p q:List Tm} {k:Nat} {K:Value→PW→Prop} (h1:IsRPoly 260 142 W sp p) (h2:IsRPoly 260 142 W sq q) (g1:PGood p) (b1:Bd k p) (b2:Bd k q) (hk:k≤40000000) (hp:p.length≤536870912) (hq:q.length≤536870912) (kont: ∀(s':Sl) (W':PW),Ext W W'→(IsRPoly 260 142 W' s' (pnorm (p ++ q)))→K (Sl.v s') W'):
  callN Go.Proofs.Tryz.prog W0 M 52 [sp.v,sq.v] W K:=
 callN_of (fun W' hE=>refPolyAdd_ok (M:=fun _=>False) (h1.ext hE) (h2.ext hE) g1 b1 b2 hk hp hq) (fun W' v W'' hE hE' hP=>by
  obtain⟨s',rfl,h⟩:=hP
  exact kont s' W'' (hE.trans hE') h)
theorem refVar_ok {W0:PW} {M:Nat→Prop} {i:Int} :
  PCallsM Go.Proofs.Tryz.prog 82 [.int .i64 i] W0 M fun v W'=>∃(s':Sl),v=Sl.v s'∧IsRPoly 260 142 W' s' (varP i):=by
 apply callref1_Var
 refine⟨fun h W1 hE=>⟨⟨none,0,0⟩,rfl,?_⟩,fun h=>⟨fun h' W2 hE=>⟨⟨none,0,0⟩,rfl,?_⟩,fun h'=>⟨⟨by omega,by omega⟩,by omega,⟨⟨trivial,fun e=>?_⟩,fun e=>?_⟩,fun e=>?_⟩⟩⟩
 ·unfold varP;rw[if_neg (by omega)];exact IsRPoly.nil W1
 ·unfold varP;rw[if_neg (by omega)];exact IsRPoly.nil W2
 ·have hv:varP i = [(unitM 0,((1:Int):Rat))]:=by unfold varP;rw[if_pos (by omega),e];rfl
  rw[hv]
  exact refRatOf_call (z:=1) (by unfold I64;omega) fun b5 s6 s7 W4 hE4 h4=>⟨b5,s6,s7,rfl,fun s8 W9 hE9 hO _ W10 hE10=>⟨s8,rfl,_,(hO.ext hE10).row,⟨(by decide:(unitM 0).ok),b5,s6,s7,rfl,h4.ext (hE9.trans hE10)⟩,trivial⟩⟩
 ·have hv:varP i = [(unitM 1,((1:Int):Rat))]:=by unfold varP;rw[if_pos (by omega),e];rfl
  rw[hv]
  exact refRatOf_call (z:=1) (by unfold I64;omega) fun b5 s6 s7 W4 hE4 h4=>⟨b5,s6,s7,rfl,fun s8 W9 hE9 hO _ W10 hE10=>⟨s8,rfl,_,(hO.ext hE10).row,⟨(by decide:(unitM 1).ok),b5,s6,s7,rfl,h4.ext (hE9.trans hE10)⟩,trivial⟩⟩
 ·have hv:varP i = [(unitM 2,((1:Int):Rat))]:=by unfold varP;rw[if_pos (by omega),e];rfl
  rw[hv]
  exact refRatOf_call (z:=1) (by unfold I64;omega) fun b5 s6 s7 W4 hE4 h4=>⟨b5,s6,s7,rfl,fun s8 W9 hE9 hO _ W10 hE10=>⟨s8,rfl,_,(hO.ext hE10).row,⟨(by decide:(unitM 2).ok),b5,s6,s7,rfl,h4.ext (hE9.trans hE10)⟩,trivial⟩⟩
theorem refVar_call {W0 W:PW} {M:Nat→Prop} {i:Int} {K:Value→PW→Prop} (kont: ∀(s':Sl) (W':PW),Ext W W'→(IsRPoly 260 142 W' s' (varP i))→K (Sl.v s') W'):
  callN Go.Proofs.Tryz.prog W0 M 82 [.int .i64 i] W K:=
 callN_of (fun W' hE=>refVar_ok (M:=fun _=>False) ) (fun W' v W'' hE hE' hP=>by
  obtain⟨s',rfl,h⟩:=hP
  exact kont s' W'' (hE.trans hE') h)
theorem refConst_ok {W0:PW} {M:Nat→Prop} {s t:Sl} {b:Bool} {q:Rat} {k:Nat} (h:IsRefQ 260 W0 b s t q) (hq:Sz k q) (hk:k≤100000000):
  PCallsM Go.Proofs.Tryz.prog 84 [.agg ⟨[.bool b,s.v,t.v]⟩] W0 M fun v W'=>∃(s':Sl),v=Sl.v s'∧IsRPoly 260 142 W' s' (pnorm [(⟨0,0,0⟩,q)]):=by
 apply callref1_Const
 exact refPut_call (sp:=⟨none,0,0⟩) (m:=⟨0,0,0⟩) (IsRPoly.nil W0) h (by decide) (fun t ht=>by simp at ht) hq hk (by simp) fun s' W2 hE2 h2=>⟨s',rfl,fun W4 hE4=>⟨s',rfl,h2.ext hE4⟩⟩
theorem refConst_call {W0 W:PW} {M:Nat→Prop} {s t:Sl} {b:Bool} {q:Rat} {k:Nat} {K:Value→PW→Prop} (h:IsRefQ 260 W b s t q) (hq:Sz k q) (hk:k≤100000000) (kont: ∀(s':Sl) (W':PW),Ext W W'→(IsRPoly 260 142 W' s' (pnorm [(⟨0,0,0⟩,q)]))→K (Sl.v s') W'):
  callN Go.Proofs.Tryz.prog W0 M 84 [.agg ⟨[.bool b,s.v,t.v]⟩] W K:=
 callN_of (fun W' hE=>refConst_ok (M:=fun _=>False) (h.ext hE) hq hk) (fun W' v W'' hE hE' hP=>by
  obtain⟨s',rfl,h⟩:=hP
  exact kont s' W'' (hE.trans hE') h)
end Go.Proofs.YtjgpenfndnhdnaaGreat

/- cinctureref1: MonoVars, PolyDegree, PolyVars, Top. -/
set_option maxRecDepth 100000
set_option linter.unusedVariables false
set_option linter.unusedSimpArgs false
namespace Go.Proofs.YtjgpenfndnhdnaaGreat
open Go Go.SX
def mvI (m:Mon) (L:List PL):Prop:=match L with
 | [.val (.int .i64 a),.val (.int .i64 i)]=>∃k:Nat,i=(k:Int)∧k≤3∧a=(if 2<k∧0<m.z then 3 else if 1<k∧0<m.y then 2 else if 0<k∧0<m.x then 1 else 0)
 | _=>False
theorem refMonoVars_ok {W0:PW} {M:Nat→Prop} {m:Mon} (hm:m.ok):
  PCallsM Go.Proofs.Tryz.prog 118 [.agg ⟨[.int .u8 m.x,.int .u8 m.y,.int .u8 m.z]⟩] W0 M fun v W'=>v = .int .i64 (varsM m)∧True:=by
 apply callref1_MonoVars
 refine⟨fun L _=>mvI m L,fun L _=>match L with | [_,.val (.int .i64 i)]=>3-i.toNat | _=>0,⟨0,rfl,by omega,rfl⟩,?_⟩
 rintro i3 i4 W5 ⟨k,rfl,hk,rfl⟩
 refine⟨fun hlt=>?_,fun hge W7 _=>⟨?_,trivial⟩⟩
 ·have hk3:k<3:=by omega
  have hmu:3-Int.toNat ((k:Int)+1)<3-Int.toNat (k:Int):=by omega
  refine⟨⟨by omega,by omega⟩,_,boxAt_mon m hk3 _ _ _ rfl rfl rfl,fun hp=>⟨by unfold I64;omega,by unfold I64;omega,⟨k+1,by push_cast;rfl,by omega,?_⟩,hmu⟩,fun hp=>⟨by unfold I64;omega,⟨k+1,by push_cast;rfl,by omega,?_⟩,hmu⟩⟩
  all_goals
   rcases(by omega:k=0∨k=1∨k=2) with rfl | rfl | rfl<;>simp[eget] at hp⊢<;>(try simp[hp])<;>(repeat' split)<;>first | rfl | omega
 ·have:k=3:=by omega
  subst this
  congr 1
  unfold varsM
  (repeat' split)<;>first | rfl | omega
theorem refMonoVars_call {W0 W:PW} {M:Nat→Prop} {m:Mon} {K:Value→PW→Prop} (hm:m.ok) (kont: ∀(W':PW),Ext W W'→(True)→K (.int .i64 (varsM m)) W'):
  callN Go.Proofs.Tryz.prog W0 M 118 [.agg ⟨[.int .u8 m.x,.int .u8 m.y,.int .u8 m.z]⟩] W K:=
 callN_of (fun W' hE=>refMonoVars_ok (M:=fun _=>False) hm) (fun W' v W'' hE hE' hP=>by
  obtain⟨rfl,h⟩:=hP
  exact kont W'' (hE.trans hE') h)
def rdI (w:Mon→Int) (n:Int) (W0:PW) (p:List Tm) (L:List PL) (W:PW):Prop:=match L with
 | [.val (.int .i64 a),.val (.int .i64 k)]=>∃j:Nat,k=(j:Int)∧j≤p.length∧Ext W0 W∧a=maxf w n (p.take j)
 | _=>False
theorem refPolyDegree_ok {W0:PW} {M:Nat→Prop} {s:Sl} {p:List Tm} (h:IsRPoly 260 142 W0 s p) (hl:p.length≤1099511627776):
  PCallsM Go.Proofs.Tryz.prog 30 [s.v] W0 M fun v W'=>v = .int .i64 (maxf Mon.deg (-1) p)∧True:=by
 apply callref1_PolyDegree
 have hn:=h.n
 refine⟨rdI Mon.deg (-1) W0 p,topM p,⟨0,rfl,by omega,Ext.refl _,rfl⟩,?_⟩
 rintro i3 i4 W5 ⟨j,rfl,hj,hE,rfl⟩
 refine⟨fun hlt=>?_,fun hge W13 _=>⟨?_,trivial⟩⟩
 ·have hjl:j<p.length:=by omega
  have hP:=h.ext hE
  obtain⟨k0,c1,d1,c2,_,e1,_,hr⟩:=hP.at (List.getElem?_eq_getElem hjl)
  have hmu:p.length-Int.toNat ((j:Int)+1)<p.length-Int.toNat (j:Int):=by omega
  exact⟨hP.inB (by omega) (by omega),_,_,_,e1,refDegree_call k0 fun W13 hE13 _=>⟨_,rfl,by unfold I64;omega,⟨j+1,by push_cast;rfl,by omega,hE.trans hE13,by rw[take_snocR hjl,maxf_snoc]⟩,hmu⟩⟩
 ·have:j=p.length:=by omega
  subst this
  rw[List.take_length]
theorem refPolyDegree_call {W0 W:PW} {M:Nat→Prop} {s:Sl} {p:List Tm} {K:Value→PW→Prop} (h:IsRPoly 260 142 W s p) (hl:p.length≤1099511627776) (kont: ∀(W':PW),Ext W W'→(True)→K (.int .i64 (maxf Mon.deg (-1) p)) W'):
  callN Go.Proofs.Tryz.prog W0 M 30 [s.v] W K:=
 callN_of (fun W' hE=>refPolyDegree_ok (M:=fun _=>False) (h.ext hE) hl) (fun W' v W'' hE hE' hP=>by
  obtain⟨rfl,h⟩:=hP
  exact kont W'' (hE.trans hE') h)
theorem refPolyVars_ok {W0:PW} {M:Nat→Prop} {s:Sl} {p:List Tm} (h:IsRPoly 260 142 W0 s p) (hl:p.length≤1099511627776):
  PCallsM Go.Proofs.Tryz.prog 63 [s.v] W0 M fun v W'=>v = .int .i64 (maxf varsM 0 p)∧True:=by
 apply callref1_PolyVars
 have hn:=h.n
 refine⟨rdI varsM 0 W0 p,topM p,⟨0,rfl,by omega,Ext.refl _,rfl⟩,?_⟩
 rintro i3 i4 W5 ⟨j,rfl,hj,hE,rfl⟩
 refine⟨fun hlt=>?_,fun hge W13 _=>⟨?_,trivial⟩⟩
 ·have hjl:j<p.length:=by omega
  have hP:=h.ext hE
  obtain⟨k0,c1,d1,c2,_,e1,_,hr⟩:=hP.at (List.getElem?_eq_getElem hjl)
  have hmu:p.length-Int.toNat ((j:Int)+1)<p.length-Int.toNat (j:Int):=by omega
  exact⟨hP.inB (by omega) (by omega),_,_,_,e1,refMonoVars_call k0 fun W13 hE13 _=>⟨_,rfl,by unfold I64;omega,⟨j+1,by push_cast;rfl,by omega,hE.trans hE13,by rw[take_snocR hjl,maxf_snoc]⟩,hmu⟩⟩
 ·have:j=p.length:=by omega
  subst this
  rw[List.take_length]
theorem refPolyVars_call {W0 W:PW} {M:Nat→Prop} {s:Sl} {p:List Tm} {K:Value→PW→Prop} (h:IsRPoly 260 142 W s p) (hl:p.length≤1099511627776) (kont: ∀(W':PW),Ext W W'→(True)→K (.int .i64 (maxf varsM 0 p)) W'):
  callN Go.Proofs.Tryz.prog W0 M 63 [s.v] W K:=
 callN_of (fun W' hE=>refPolyVars_ok (M:=fun _=>False) (h.ext hE) hl) (fun W' v W'' hE hE' hP=>by
  obtain⟨rfl,h⟩:=hP
  exact kont W'' (hE.trans hE') h)
end Go.Proofs.YtjgpenfndnhdnaaGreat

/- cincturelaw12.System: polynomials of texts. -/
set_option maxRecDepth 100000
set_option linter.unusedVariables false
set_option linter.unusedSimpArgs false
namespace Go.Proofs.YtjgpenfndnhdnaaGreat
open Go Go.SX
abbrev Ps (W:PW) (s:Sl) (ps:List (List Tm)):Prop:=IsPolys 260 136 W s ps
abbrev RPs (W:PW) (s:Sl) (ps:List (List Tm)):Prop:=IsRPolys 260 142 W s ps
def OfAll (T:List (List (Mon×ByteArray))) (exp:Int) (ps:List (List Tm)):Prop:=All2 (fun l p=>OfOK l exp p) T ps
theorem OfAll.at {T:List (List (Mon×ByteArray))} {exp:Int} {ps:List (List Tm)} (h:OfAll T exp ps) {i:Nat} (hi:i<ps.length): ∃l,OfOK l exp ps[i]∧T[i]?=some l:=by
 obtain⟨l,hl,ho⟩:=All2.get h (List.getElem?_eq_getElem hi)
 exact⟨l,ho,hl⟩
theorem OfAll.mem {T:List (List (Mon×ByteArray))} {exp:Int} {ps:List (List Tm)} (h:OfAll T exp ps) {p:List Tm} (hp:p∈ps): ∃l,OfOK l exp p:=by
 obtain⟨i,hi,rfl⟩:=List.mem_iff_getElem.1 hp
 obtain⟨l,ho,_⟩:=h.at hi
 exact⟨l,ho⟩
def cnL1 (n:Nat) (l:List PL) (_:PW):Nat:=match l with
 | [.val (.int .i64 i)]=>n-i.toNat
 | _=>0
def sysI (W0:PW) (T:List (List (Mon×ByteArray))) (exp:Int) (L:List PL) (W:PW):Prop:=match L with
 | [.row xs,.row ys,.val (.int .i64 i)]=>∃(j:Nat) (ps:List (List Tm)),i=(j:Int)∧j≤T.length∧Ext W0 W∧OfAll (T.take j) exp ps∧All2 (PolyX 260 136 W) xs ps∧All2 (RPolyX 260 142 W) ys ps
 | _=>False
theorem lawSystem_ok {W0:PW} {M:Nat→Prop} {s:Sl} {T:List (List (Mon×ByteArray))} {exp:Int} (h:IsAPolys W0 s T) (hz: ∀l∈T,l.length≤1099511627776∧∀t∈l,t.2.size≤1099511627776):
  PCallsM Go.Proofs.Tryz.prog 9 [s.v,.int .i64 exp] W0 M fun v W'=>∃(s1:Sl),∃(s2:Sl),∃(b:Bool),v = .tuple ⟨[Sl.v s1,Sl.v s2,.bool b]⟩∧(b=true→∃ps,OfAll T exp ps∧T.length≤4∧Ps W' s1 ps∧RPs W' s2 ps):=by
 apply calllaw12_System
 have hn:=h.n
 refine⟨fun _ W1 _=>⟨⟨none,0,0⟩,⟨none,0,0⟩,false,rfl,fun e=>by cases e⟩,fun h4=>⟨sysI W0 T exp,fun L _=>match L with | [_,_,.val (.int .i64 i)]=>T.length-i.toNat | _=>0,⟨0,[],rfl,Nat.zero_le _,Ext.refl _,trivial,trivial,trivial⟩,?_⟩⟩
 rintro l4 l5 i6 W7 ⟨j,ps,rfl,hj,hE,hof,ha,hb⟩
 have hal:=ha.len
 have hbl:=hb.len
 have hol:=All2.len hof
 rw[List.length_take] at hol
 refine⟨fun hlt=>?_,fun hge s15 W16 hE16 hO _ s17 W18 hE18 hO2 _ W19 hE19=>⟨s15,s17,true,rfl,fun _=>?_⟩⟩
 ·have hjl:j<T.length:=by omega
  have hT:=h.ext hE
  obtain⟨x,hx,hp⟩:=hT.at hjl
  obtain⟨z1,z2⟩:=hz _ (List.getElem_mem hjl)
  refine⟨hT.inB (by omega) (by omega),x,hx,law8Of_call hp z1 z2 fun s11 s12 b13 W10 hE10 g=>⟨s11,s12,b13,rfl,fun _ W14 _=>⟨⟨none,0,0⟩,⟨none,0,0⟩,false,rfl,fun e=>(by cases e)⟩,fun hb13=>?_⟩⟩
  obtain⟨p,op,p1,p2⟩:=g (by simpa using hb13)
  refine⟨by simp only[List.length_cons,List.length_nil];omega,by simp only[List.length_cons,List.length_nil];omega,by unfold I64;omega,⟨j+1,ps ++ [p],by push_cast;rfl,by omega,hE.trans hE10,?_,(ha.mono fun _ _ h=>h.ext hE10).snoc ⟨s11,rfl,p1⟩,(hb.mono fun _ _ h=>h.ext hE10).snoc ⟨s12,rfl,p2⟩⟩,?_⟩
  ·have e:T.take (j+1)=T.take j ++ [T[j]]:=by rw[List.take_add_one,List.getElem?_eq_getElem hjl];rfl
   rw[e]
   exact All2.snoc hof op
  ·show T.length-Int.toNat ((j:Int)+1)<T.length-Int.toNat (j:Int)
   omega
 ·have:j=T.length:=by omega
  subst this
  rw[List.take_length] at hof
  exact⟨ps,hof,by omega,⟨l4,⟨_,((hO.ext hE18).ext hE19).row⟩,ha.mono fun _ _ h=>h.ext (hE16.trans (hE18.trans hE19))⟩,⟨l5,⟨_,(hO2.ext hE19).row⟩,hb.mono fun _ _ h=>h.ext (hE16.trans (hE18.trans hE19))⟩⟩
theorem lawSystem_call {W0 W:PW} {M:Nat→Prop} {s:Sl} {T:List (List (Mon×ByteArray))} {exp:Int} {K:Value→PW→Prop} (h:IsAPolys W s T) (hz: ∀l∈T,l.length≤1099511627776∧∀t∈l,t.2.size≤1099511627776) (kont: ∀(s1:Sl) (s2:Sl) (b:Bool) (W':PW),Ext W W'→((b=true→∃ps,OfAll T exp ps∧T.length≤4∧Ps W' s1 ps∧RPs W' s2 ps))→K (.tuple ⟨[Sl.v s1,Sl.v s2,.bool b]⟩) W'):
  callN Go.Proofs.Tryz.prog W0 M 9 [s.v,.int .i64 exp] W K:=
 callN_of (fun W' hE=>lawSystem_ok (M:=fun _=>False) (h.ext hE) hz) (fun W' v W'' hE hE' hP=>by
  obtain⟨s1,s2,b,rfl,h⟩:=hP
  exact kont s1 s2 b W'' (hE.trans hE') h)
end Go.Proofs.YtjgpenfndnhdnaaGreat
