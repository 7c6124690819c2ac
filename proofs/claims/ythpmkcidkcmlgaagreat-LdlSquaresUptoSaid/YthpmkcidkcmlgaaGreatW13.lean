/- cinctureref1: Degree, MonoCmp, MonoMul; put, PolyOf. -/
import Derived.Test.YthpmkcidkcmlgaaGreatW11
import Derived.Test.YthpmkcidkcmlgaaGreatW10
import Derived.Test.YthpmkcidkcmlgaaGreatR12
import Derived.Test.YthpmkcidkcmlgaaGreatW12
set_option linter.unusedVariables false
set_option linter.unusedSimpArgs false
set_option maxRecDepth 100000
set_option linter.unusedVariables false
set_option linter.unusedSimpArgs false
namespace Go.Proofs.YthpmkcidkcmlgaaGreat
open Go Go.SX
theorem refDegree_ok {W0:PW} {M:Nat→Prop} {m:Mon} (hm:m.ok):
  PCallsM Go.Proofs.Tryz.prog 143 [.agg ⟨[.int .u8 m.x,.int .u8 m.y,.int .u8 m.z]⟩] W0 M fun v W'=>v = .int .i64 m.deg∧True:=by
 apply callref1_Degree
 unfold Mon.ok at hm
 exact⟨⟨by omega,by omega⟩,by unfold I64;omega,⟨by omega,by omega⟩,by unfold I64;omega,by unfold I64;omega,⟨by omega,by omega⟩,by unfold I64;omega,by unfold I64;omega,fun W1 _=>⟨rfl,trivial⟩⟩
theorem refDegree_call {W0 W:PW} {M:Nat→Prop} {m:Mon} {K:Value→PW→Prop} (hm:m.ok) (kont: ∀(W':PW),Ext W W'→(True)→K (.int .i64 m.deg) W'):
  callN Go.Proofs.Tryz.prog W0 M 143 [.agg ⟨[.int .u8 m.x,.int .u8 m.y,.int .u8 m.z]⟩] W K:=
 callN_of (fun W' hE=>refDegree_ok (M:=fun _=>False) hm) (fun W' v W'' hE hE' hP=>by
  obtain⟨rfl,h⟩:=hP
  exact kont W'' (hE.trans hE') h)
theorem refMonoCmp_ok {W0:PW} {M:Nat→Prop} {a b:Mon} (ha:a.ok) (hb:b.ok):
  PCallsM Go.Proofs.Tryz.prog 160 [.agg ⟨[.int .u8 a.x,.int .u8 a.y,.int .u8 a.z]⟩,.agg ⟨[.int .u8 b.x,.int .u8 b.y,.int .u8 b.z]⟩] W0 M fun v W'=>v = .int .i64 (a.cmp b)∧True:=by
 apply callref1_MonoCmp
 refine refDegree_call ha fun W2 _ _=>⟨_,rfl,refDegree_call hb fun W5 hE5 _=>⟨_,rfl,fun hne=>?_,fun heq=>?_⟩⟩
 ·refine refDegree_call ha fun W8 _ _=>⟨_,rfl,refDegree_call hb fun W11 _ _=>⟨_,rfl,fun h W13 _=>⟨?_,trivial⟩,fun h W14 _=>⟨?_,trivial⟩⟩⟩
  ·rw[cmpM_eq];unfold cmpI;rw[if_pos h];simp
  ·rw[cmpM_eq];unfold cmpI;rw[if_neg h,if_neg hne];simp
 ·have hdeg:a.deg=b.deg:=by omega
  have hcm:a.cmp b=lexM a b:=by rw[cmpM_eq];unfold cmpI;simp[hdeg]
  rw[hcm]
  refine⟨fun l W=>match l with | [.val (.int .i64 i)]=>∃k:Nat,i=(k:Int)∧k≤3∧∀j,j<k→eget a j=eget b j | _=>False,fun l _=>match l with | [.val (.int .i64 i)]=>3-i.toNat | _=>0,⟨0,rfl,by omega,fun j hj=>by omega⟩,?_⟩
  rintro i17 W18 ⟨k,rfl,hk,hj⟩
  refine⟨fun hlt=>?_,fun hge W25 _=>⟨?_,trivial⟩⟩
  ·have hk3:k<3:=by omega
   have hr:(0:Int)≤(k:Int)∧(k:Int)<3:=⟨by omega,by omega⟩
   have ba:=boxAt_mon a hk3 _ _ _ rfl rfl rfl
   have bb:=boxAt_mon b hk3 _ _ _ rfl rfl rfl
   refine⟨hr,_,ba,hr,_,bb,fun h W21 _=>⟨?_,trivial⟩,fun h=>⟨hr,_,ba,hr,_,bb,fun h' W24 _=>⟨?_,trivial⟩,fun h'=>⟨by unfold I64;omega,⟨k+1,by push_cast;rfl,by omega,fun j hjk=>?_⟩,?_⟩⟩⟩
   ·rw[lexM_at hk3 hj (by omega)];unfold cmpI;rw[if_pos h]
   ·rw[lexM_at hk3 hj (by omega)];unfold cmpI;rw[if_neg h,if_neg (by omega)]
   ·by_cases e:j=k
    ·subst e;omega
    ·exact hj j (by omega)
   ·show 3-Int.toNat ((k:Int)+1)<3-Int.toNat (k:Int)
    omega
  ·have:k=3:=by omega
   subst this
   rw[lexM_eq hj]
theorem refMonoCmp_call {W0 W:PW} {M:Nat→Prop} {a b:Mon} {K:Value→PW→Prop} (ha:a.ok) (hb:b.ok) (kont: ∀(W':PW),Ext W W'→(True)→K (.int .i64 (a.cmp b)) W'):
  callN Go.Proofs.Tryz.prog W0 M 160 [.agg ⟨[.int .u8 a.x,.int .u8 a.y,.int .u8 a.z]⟩,.agg ⟨[.int .u8 b.x,.int .u8 b.y,.int .u8 b.z]⟩] W K:=
 callN_of (fun W' hE=>refMonoCmp_ok (M:=fun _=>False) ha hb) (fun W' v W'' hE hE' hP=>by
  obtain⟨rfl,h⟩:=hP
  exact kont W'' (hE.trans hE') h)
end Go.Proofs.YthpmkcidkcmlgaaGreat

/- cinctureref1: put, PolyOf. -/
set_option maxRecDepth 100000
set_option linter.unusedVariables false
set_option linter.unusedSimpArgs false
namespace Go.Proofs.YthpmkcidkcmlgaaGreat
open Go Go.SX
theorem take_snocR {α:Type} {l:List α} {j:Nat} (h:j<l.length):l.take (j+1)=l.take j ++ [l[j]]:=by
 rw[List.take_add_one,List.getElem?_eq_getElem h];rfl
theorem mon_cells {a b:Mon} :([Value.int .u8 a.x,.int .u8 a.y,.int .u8 a.z] = [.int .u8 b.x,.int .u8 b.y,.int .u8 b.z])↔a=b:=by
 constructor
 ·intro h
  simp only[List.cons.injEq,Value.int.injEq,true_and,and_true] at h
  exact Mon.ext3 h.1 h.2.1 h.2.2
 ·rintro rfl;rfl
theorem sgn_zero {z:Int} :sgnI z=0↔z=0:=by
 unfold sgnI
 split
 ·constructor<;>intro h<;>omega
 ·split
  ·simp_all
  ·constructor<;>intro h<;>omega
theorem num_zero {q:Rat} :q.num=0↔q=0:=Rat.num_eq_zero
theorem row_le {W:PW} {t:TypeId} {sz:Nat} {s:Sl} {xs:List (List Value)} (h:Row W t sz s xs):(s.n:Int)≤(s.c:Int):=by
 have:=h.2.1
 omega
def putIO (W0:PW) (p:List Tm) (m:Mon) (l:List PL) (W:PW):Prop:=match l with
 | [.val (.int .i64 i)]=>∃j:Nat,i=(j:Int)∧j≤p.length∧Ext W0 W∧∀t∈p.take j,t.1.lt m
 | _=>False
def putIE (W0:PW) (p:List Tm) (m:Mon) (l:List PL) (W:PW):Prop:=match l with
 | [.val (.int .i64 i)]=>∃j:Nat,i=(j:Int)∧j≤p.length∧Ext W0 W∧(∀t∈p.take j,t.1.lt m)∧∀t∈(p.drop j).head?,¬t.1.lt m
 | _=>False
theorem pput_drop {p:List Tm} {t:Tm} {j:Nat} (hj:j≤p.length) (h: ∀x∈p.take j,x.1.lt t.1) (h2: ∀x∈(p.drop j).head?,¬x.1.lt t.1) (hne: ∀x∈(p.drop j).head?,x.1≠t.1):pput p t=if t.2=0 then p else p.take j ++ t :: p.drop j:=by
 rw[pput_at hj h]
 cases hd:p.drop j with
 | nil=>
  rw[pput]
  split
  ·have:=List.take_append_drop j p
   rw[hd] at this
   exact this
  ·rfl
 | cons e r=>
  rw[hd] at h2 hne
  rw[pput,if_neg (h2 e (by simp)),if_neg (hne e (by simp))]
  split
  ·rw[←hd,List.take_append_drop]
  ·rfl
theorem refPut_ok {W0:PW} {M:Nat→Prop} {sp s s':Sl} {p:List Tm} {m:Mon} {b:Bool} {q:Rat} {k:Nat} (hp:IsRPoly 317 195 W0 sp p) (hq:IsRefQ 317 W0 b s s' q) (hm:m.ok) (hs: ∀t∈p,Sz k t.2) (hz:Sz k q) (hk:k≤100000000) (hl:p.length≤1073741824):
  PCallsM Go.Proofs.Tryz.prog 136 [sp.v,.agg ⟨[.int .u8 m.x,.int .u8 m.y,.int .u8 m.z,.bool b,s.v,s'.v]⟩] W0 M fun v W'=>∃(s2:Sl),v=Sl.v s2∧IsRPoly 317 195 W' s2 (pput p (m,q)):=by
 apply callref1_put
 have hn:=hp.n
 have hc:(sp.n:Int)≤(sp.c:Int):=let⟨_,h,_⟩:=hp;row_le h
 refine⟨putIE W0 p m,⟨putIO W0 p m,fun l _=>match l with | [.val (.int .i64 i)]=>p.length-i.toNat | _=>0,⟨0,rfl,by omega,Ext.refl _,fun t ht=>by simp at ht⟩,?_⟩,?_⟩
 ·rintro i4 W5 ⟨j,rfl,hj,hE5,hlt⟩
  refine⟨fun hjn=>?_,fun hge=>⟨j,rfl,hj,hE5,hlt,fun t ht=>?_⟩⟩
  ·have hjl:j<p.length:=by omega
   obtain⟨h0,b1,s1,s2,_,e2,_,_⟩:=(hp.ext hE5).at (List.getElem?_eq_getElem hjl)
   refine⟨(hp.ext hE5).inB (by omega) (by omega),_,_,_,e2,refMonoCmp_call h0 hm fun W10 hE10 _=>⟨_,rfl,fun hneg=>⟨by unfold I64;omega,⟨j+1,by push_cast;rfl,by omega,hE5.trans hE10,fun t ht=>?_⟩,?_⟩,fun hnn=>⟨j,rfl,hj,hE5.trans hE10,hlt,fun t ht=>?_⟩⟩⟩
   ·rw[take_snocR hjl] at ht
    rcases List.mem_append.1 ht with ht | ht
    ·exact hlt t ht
    ·simp at ht;subst ht;exact Mon.cmp_neg.1 hneg
   ·show p.length-Int.toNat ((j:Int)+1)<p.length-Int.toNat (j:Int)
    omega
   ·rw[List.drop_eq_getElem_cons hjl] at ht
    have ht:some p[j]=some t:=ht
    have ht:=Option.some.inj ht
    subst ht
    exact fun h=>hnn (Mon.cmp_neg.2 h)
  ·rw[List.drop_eq_nil_of_le (by omega)] at ht
   simp at ht
 rintro i12 W13 ⟨j,rfl,hj,hE13,hlt,hge⟩
 refine⟨fun hjn=>?_,fun hjn=>?_⟩
 ·have hjl:j<p.length:=by omega
  have hib:=(hp.ext hE13).inB (i:=(j:Int)) (by omega) (by omega)
  obtain⟨h0,b1,s1,s2,_,e2,e3,hr⟩:=(hp.ext hE13).at (List.getElem?_eq_getElem hjl)
  refine⟨hib,_,_,_,e2,fun heq=>⟨hib,b1,s1,s2,e3,?_⟩,fun hneq=>?_⟩
  ·have hmm:p[j].1=m:=mon_cells.1 heq
   have hpp:pput p (m,q)=p.take j ++ (if p[j].2+q=0 then p.drop (j+1) else(p[j].1,p[j].2+q) :: p.drop (j+1)):=by
    rw[pput_at hj hlt,List.drop_eq_getElem_cons hjl,pput,if_neg (hge _ (by rw[List.drop_eq_getElem_cons hjl];rfl)),if_pos hmm]
   refine refQAdd_call hr (hq.ext hE13) (hs _ (List.getElem_mem hjl)) hz (by omega) (by omega) fun b22 s23 s24 W21 hE21 h21=>⟨b22,s23,s24,rfl,?_⟩
   obtain⟨ys,r1,a1⟩:=hp.ext (hE13.trans hE21)
   have hyl:=a1.len
   refine⟨ys,⟨_,r1⟩,by omega,refSign_call h21.1 fun W27 hE27 _=>⟨_,rfl,fun hz0=>?_,fun hnz=>?_⟩⟩
   ·have hq0:p[j].2+q=0:=num_zero.1 (sgn_zero.1 hz0)
    have r3:=(r1.ext hE27).cut (lo:=j+1) (hi:=sp.n) (by omega) (by omega)
    refine⟨by unfold I64;omega,⟨by omega,by omega,by omega⟩,⟨by omega,by omega⟩,_,⟨_,r3⟩,by simp;omega,fun s30 W31 hE31 hO _ W32 hE32=>⟨s30,rfl,?_⟩⟩
    rw[hpp,if_pos hq0]
    refine⟨_,(hO.ext hE32).row,?_⟩
    have a2:=a1.mono fun _ _ h=>h.ext (hE27.trans (hE31.trans hE32))
    have hd:ys.take sp.n=ys:=List.take_of_length_le (by omega)
    rw[hd]
    exact(a2.take j).append (a2.drop (j+1))
   ·have hq0:¬p[j].2+q=0:=fun e=>hnz (sgn_zero.2 (num_zero.2 e))
    refine⟨⟨by omega,by omega⟩,by show j<_;omega,fun s33 W34 hE34 hO _ W35 hE35=>⟨s33,rfl,?_⟩⟩
    rw[hpp,if_neg hq0]
    have hset:p.take j ++ (p[j].1,p[j].2+q) :: p.drop (j+1)=p.set j (p[j].1,p[j].2+q):=by
     rw[List.set_eq_take_append_cons_drop,if_pos hjl]
    rw[hset]
    refine⟨_,(hO.ext hE35).row,?_⟩
    have a2:=a1.mono fun _ _ h=>h.ext (hE27.trans (hE34.trans hE35))
    obtain⟨x,hx,h0',b',sx,sy,rfl,hr'⟩:=a2.get (List.getElem?_eq_getElem hjl)
    have hgx:ys.getD j [] = [.int .u8 p[j].1.x,.int .u8 p[j].1.y,.int .u8 p[j].1.z,.bool b',sx.v,sy.v]:=by
     rw[List.getD_eq_getElem?_getD,hx];rfl
    show All2 _ (ys.set j (patch (ys.getD j []) 3 _)) _
    rw[hgx]
    exact a2.set j ⟨h0,b22,s23,s24,rfl,h21.ext (hE27.trans (hE34.trans hE35))⟩
  ·have hmm:¬p[j].1=m:=fun e=>hneq (mon_cells.2 e)
   have hne: ∀x∈(p.drop j).head?,x.1≠m:=by
    rw[List.drop_eq_getElem_cons hjl]
    intro x hx
    have hx:some p[j]=some x:=hx
    have hx:=Option.some.inj hx
    subst hx
    exact hmm
   refine refSign_call (hq.ext hE13).1 fun W53 hE53 _=>⟨_,rfl,fun h0 W55 hE55=>⟨sp,rfl,?_⟩,fun h0=>⟨⟨by omega,by omega,by omega⟩,⟨by omega,by omega,by omega⟩,?_⟩⟩
   ·have hq0:q=0:=num_zero.1 (sgn_zero.1 h0)
    rw[pput_drop hj hlt hge hne,if_pos hq0]
    exact hp.ext (hE13.trans (hE53.trans hE55))
   ·have hq0:¬q=0:=fun e=>h0 (sgn_zero.2 (num_zero.2 e))
    obtain⟨ys,r1,a1⟩:=hp.ext (hE13.trans hE53)
    have hyl:=a1.len
    have r2:=r1.cut (lo:=0) (hi:=j) (Nat.zero_le _) (by omega)
    have r3:=r1.cut (lo:=j) (hi:=sp.n) (by omega) (by omega)
    refine dup_of ?_ 1
    refine⟨_,⟨_,r2⟩,by simp;omega,by simp;omega,_,⟨_,r3⟩,by simp;omega,fun s58 W59 hE59 hO _ W60 hE60=>⟨s58,rfl,?_⟩⟩
    rw[pput_drop hj hlt hge hne,if_neg hq0]
    refine⟨_,(hO.ext hE60).row,?_⟩
    have a2:=a1.mono fun _ _ h=>h.ext (hE59.trans hE60)
    have hd:ys.take sp.n=ys:=List.take_of_length_le (by omega)
    rw[List.drop_zero,hd,List.append_assoc]
    exact(a2.take j).append ⟨⟨hm,b,s,s',rfl,hq.ext (hE13.trans (hE53.trans (hE59.trans hE60)))⟩,a2.drop j⟩
 ·have hne: ∀x∈(p.drop j).head?,x.1≠m:=by
   rw[List.drop_eq_nil_of_le (by omega)]
   intro x hx
   simp at hx
  refine refSign_call (hq.ext hE13).1 fun W53 hE53 _=>⟨_,rfl,fun h0 W55 hE55=>⟨sp,rfl,?_⟩,fun h0=>⟨⟨by omega,by omega,by omega⟩,⟨by omega,by omega,by omega⟩,?_⟩⟩
  ·have hq0:q=0:=num_zero.1 (sgn_zero.1 h0)
   rw[pput_drop hj hlt hge hne,if_pos hq0]
   exact hp.ext (hE13.trans (hE53.trans hE55))
  ·have hq0:¬q=0:=fun e=>h0 (sgn_zero.2 (num_zero.2 e))
   obtain⟨ys,r1,a1⟩:=hp.ext (hE13.trans hE53)
   have hyl:=a1.len
   have r2:=r1.cut (lo:=0) (hi:=j) (Nat.zero_le _) (by omega)
   have r3:=r1.cut (lo:=j) (hi:=sp.n) (by omega) (by omega)
   refine dup_of ?_ 1
   refine⟨_,⟨_,r2⟩,by simp;omega,by simp;omega,_,⟨_,r3⟩,by simp;omega,fun s58 W59 hE59 hO _ W60 hE60=>⟨s58,rfl,?_⟩⟩
   rw[pput_drop hj hlt hge hne,if_neg hq0]
   refine⟨_,(hO.ext hE60).row,?_⟩
   have a2:=a1.mono fun _ _ h=>h.ext (hE59.trans hE60)
   have hd:ys.take sp.n=ys:=List.take_of_length_le (by omega)
   rw[List.drop_zero,hd,List.append_assoc]
   exact(a2.take j).append ⟨⟨hm,b,s,s',rfl,hq.ext (hE13.trans (hE53.trans (hE59.trans hE60)))⟩,a2.drop j⟩
theorem refPut_call {W0 W:PW} {M:Nat→Prop} {sp s s':Sl} {p:List Tm} {m:Mon} {b:Bool} {q:Rat} {k:Nat} {K:Value→PW→Prop} (hp:IsRPoly 317 195 W sp p) (hq:IsRefQ 317 W b s s' q) (hm:m.ok) (hs: ∀t∈p,Sz k t.2) (hz:Sz k q) (hk:k≤100000000) (hl:p.length≤1073741824) (kont: ∀(s2:Sl) (W':PW),Ext W W'→(IsRPoly 317 195 W' s2 (pput p (m,q)))→K (Sl.v s2) W'):
  callN Go.Proofs.Tryz.prog W0 M 136 [sp.v,.agg ⟨[.int .u8 m.x,.int .u8 m.y,.int .u8 m.z,.bool b,s.v,s'.v]⟩] W K:=
 callN_of (fun W' hE=>refPut_ok (M:=fun _=>False) (hp.ext hE) (hq.ext hE) hm hs hz hk hl) (fun W' v W'' hE hE' hP=>by
  obtain⟨s2,rfl,h⟩:=hP
  exact kont s2 W'' (hE.trans hE') h)
end Go.Proofs.YthpmkcidkcmlgaaGreat

/- cinctureref1: PolyOf, PolyPlain; poly.Plain; book.SameTerms, law8.Is. -/
set_option maxRecDepth 100000
set_option linter.unusedVariables false
set_option linter.unusedSimpArgs false
namespace Go.Proofs.YthpmkcidkcmlgaaGreat
open Go Go.SX
def cnL (n:Nat) (l:List PL) (W:PW):Nat:=match l with
 | [_,.val (.int .i64 i)]=>n-i.toNat
 | _=>0
def ptxt (p:List Tm):List (Mon×ByteArray):=p.map fun t=>(t.1,decQ t.2)
theorem ptxt_len (p:List Tm):(ptxt p).length=p.length:=by simp[ptxt]
theorem ptxt_take {p:List Tm} {j:Nat} (h:j<p.length):ptxt (p.take (j+1))=ptxt (p.take j) ++ [(p[j].1,decQ p[j].2)]:=by
 rw[take_snocR h]
 exact List.map_append
def plI (W0:PW) (p:List Tm) (L:List PL) (W:PW):Prop:=match L with
 | [.row xs,.val (.int .i64 i)]=>∃j:Nat,i=(j:Int)∧j≤p.length∧Ext W0 W∧All2 AT xs (ptxt (p.take j))
 | _=>False
theorem refPolyPlain_ok {W0:PW} {M:Nat→Prop} {s:Sl} {p:List Tm} {k:Nat} (h:IsRPoly 317 195 W0 s p) (hs: ∀t∈p,Sz k t.2) (hk:k≤100000000) (hl:p.length≤1073741824):
  PCallsM Go.Proofs.Tryz.prog 115 [s.v] W0 M fun v W'=>∃(s':Sl),v=Sl.v s'∧IsAPoly W' s' (ptxt p):=by
 apply callref1_PolyPlain
 have hn:=h.n
 refine⟨plI W0 p,cnL p.length,⟨0,rfl,by omega,Ext.refl _,trivial⟩,?_⟩
 rintro l3 i4 W5 ⟨j,rfl,hj,hE5,ha⟩
 have hal:=ha.len
 rw[ptxt_len,List.length_take] at hal
 refine⟨fun hlt=>?_,fun hge s15 W16 hE16 hO _ W17 hE17=>⟨s15,rfl,?_⟩⟩
 ·have hjl:j<p.length:=by omega
  have hp:=h.ext hE5
  have hib:=hp.inB (i:=(j:Int)) (by omega) (by omega)
  obtain⟨h0,b1,s1,s2,_,e2,e3,hr⟩:=hp.at (List.getElem?_eq_getElem hjl)
  refine⟨hib,_,_,_,e2,hib,b1,s1,s2,e3,refQText_call hr (hs _ (List.getElem_mem hjl)) hk fun W13 hE13 _=>⟨_,rfl,hE13,Ext.refl _,by simp;omega,Ext.refl _,by unfold I64;omega,⟨j+1,by push_cast;rfl,by omega,hE5.trans hE13,?_⟩,?_⟩⟩
  ·rw[ptxt_take hjl]
   exact ha.snoc ⟨h0,rfl⟩
  ·show p.length-Int.toNat ((j:Int)+1)<p.length-Int.toNat (j:Int)
   omega
 ·have:j=p.length:=by omega
  subst this
  rw[List.take_length] at ha
  exact⟨_,⟨_,(hO.ext hE17).row⟩,ha⟩
theorem refPolyPlain_call {W0 W:PW} {M:Nat→Prop} {s:Sl} {p:List Tm} {k:Nat} {K:Value→PW→Prop} (h:IsRPoly 317 195 W s p) (hs: ∀t∈p,Sz k t.2) (hk:k≤100000000) (hl:p.length≤1073741824) (kont: ∀(s':Sl) (W':PW),Ext W W'→(IsAPoly W' s' (ptxt p))→K (Sl.v s') W'):
  callN Go.Proofs.Tryz.prog W0 M 115 [s.v] W K:=
 callN_of (fun W' hE=>refPolyPlain_ok (M:=fun _=>False) (h.ext hE) hs hk hl) (fun W' v W'' hE hE' hP=>by
  obtain⟨s',rfl,h⟩:=hP
  exact kont s' W'' (hE.trans hE') h)
theorem polyPlainO_ok {W0:PW} {M:Nat→Prop} {s:Sl} {p:List Tm} {k:Nat} (h:IsPoly 317 188 W0 s p) (hs: ∀t∈p,Sz k t.2) (hk:k≤100000000) (hl:p.length≤1073741824):
  PCallsM Go.Proofs.Tryz.prog 83 [.agg ⟨[s.v]⟩] W0 M fun v W'=>∃(s':Sl),v=Sl.v s'∧Fresh W0 s'∧OAPoly 185 W' s' (ptxt p):=by
 apply callpoly_Plain
 have hn:=h.n
 refine⟨plI W0 p,cnL p.length,⟨0,rfl,by omega,Ext.refl _,trivial⟩,?_⟩
 rintro l3 i4 W5 ⟨j,rfl,hj,hE5,ha⟩
 have hal:=ha.len
 rw[ptxt_len,List.length_take] at hal
 refine⟨fun hlt=>?_,fun hge s15 W16 hE16 hO hf W17 hE17=>⟨s15,rfl,fun g hg=>(hf g hg).1,?_⟩⟩
 ·have hjl:j<p.length:=by omega
  have hp:=h.ext hE5
  have hib:=hp.inB (i:=(j:Int)) (by omega) (by omega)
  obtain⟨h0,s1,b1,s2,e1,_,_,hr⟩:=hp.at (List.getElem?_eq_getElem hjl)
  refine⟨hib,_,_,_,s1,b1,s2,e1,ratText_call hr (hs _ (List.getElem_mem hjl)) hk fun W13 hE13 _=>⟨_,rfl,by simp;omega,by unfold I64;omega,⟨j+1,by push_cast;rfl,by omega,hE5.trans hE13,?_⟩,?_⟩⟩
  ·rw[ptxt_take hjl]
   exact ha.snoc ⟨h0,rfl⟩
  ·show p.length-Int.toNat ((j:Int)+1)<p.length-Int.toNat (j:Int)
   omega
 ·have:j=p.length:=by omega
  subst this
  rw[List.take_length] at ha
  exact⟨_,hO.ext hE17,ha⟩
theorem polyPlain_ok {W0:PW} {M:Nat→Prop} {s:Sl} {p:List Tm} {k:Nat} (h:IsPoly 317 188 W0 s p) (hs: ∀t∈p,Sz k t.2) (hk:k≤100000000) (hl:p.length≤1073741824):
  PCallsM Go.Proofs.Tryz.prog 83 [.agg ⟨[s.v]⟩] W0 M fun v W'=>∃(s':Sl),v=Sl.v s'∧IsAPoly W' s' (ptxt p):=by
 exact(polyPlainO_ok h hs hk hl).mono (fun _ h=>h) fun v W' _ ⟨s',hv,_,hp⟩=>⟨s',hv,hp.poly⟩
theorem polyPlain_call {W0 W:PW} {M:Nat→Prop} {s:Sl} {p:List Tm} {k:Nat} {K:Value→PW→Prop} (h:IsPoly 317 188 W s p) (hs: ∀t∈p,Sz k t.2) (hk:k≤100000000) (hl:p.length≤1073741824) (kont: ∀(s':Sl) (W':PW),Ext W W'→(IsAPoly W' s' (ptxt p))→K (Sl.v s') W'):
  callN Go.Proofs.Tryz.prog W0 M 83 [.agg ⟨[s.v]⟩] W K:=
 callN_of (fun W' hE=>polyPlain_ok (M:=fun _=>False) (h.ext hE) hs hk hl) (fun W' v W'' hE hE' hP=>by
  obtain⟨s',rfl,h⟩:=hP
  exact kont s' W'' (hE.trans hE') h)
theorem sameTerms_ok {W0:PW} {M:Nat→Prop} {s t:Sl} {p:List (Mon×ByteArray)} (h1:IsAPoly W0 s p) (h2:IsAPoly W0 t p) (hl:p.length≤1099511627776):
  PCallsM Go.Proofs.Tryz.prog 82 [s.v,t.v] W0 M fun v W'=>v = .bool true∧True:=by
 apply callbook_SameTerms
 have n1:=h1.n
 have n2:=h2.n
 refine⟨fun h=>absurd (by omega) h,fun _=>⟨fun L W=>match L with | [.val (.int .i64 i)]=>Ext W0 W∧∃j:Nat,i=(j:Int)∧j≤p.length | _=>False,fun L _=>match L with | [.val (.int .i64 i)]=>p.length-i.toNat | _=>0,⟨Ext.refl _,0,rfl,by omega⟩,?_⟩⟩
 rintro i4 W5 ⟨hE,j,rfl,hj⟩
 refine⟨fun hlt=>?_,fun hge W15 _=>⟨rfl,trivial⟩⟩
 have hjl:j<p.length:=by omega
 obtain⟨_,e1,_,_⟩:=(h1.ext hE).at (List.getElem?_eq_getElem hjl)
 obtain⟨_,e2,_,_⟩:=(h2.ext hE).at (List.getElem?_eq_getElem hjl)
 refine⟨(h1.ext hE).inB (by omega) (by omega),_,_,_,_,e1,(h2.ext hE).inB (by omega) (by omega),_,_,_,_,e2,fun h=>absurd rfl h,fun _=>⟨by unfold I64;omega,⟨hE,j+1,by push_cast;rfl,by omega⟩,?_⟩⟩
 show p.length-Int.toNat ((j:Int)+1)<p.length-Int.toNat (j:Int)
 omega
theorem sameTerms_call {W0 W:PW} {M:Nat→Prop} {s t:Sl} {p:List (Mon×ByteArray)} {K:Value→PW→Prop} (h1:IsAPoly W s p) (h2:IsAPoly W t p) (hl:p.length≤1099511627776) (kont: ∀(W':PW),Ext W W'→(True)→K (.bool true) W'):
  callN Go.Proofs.Tryz.prog W0 M 82 [s.v,t.v] W K:=
 callN_of (fun W' hE=>sameTerms_ok (M:=fun _=>False) (h1.ext hE) (h2.ext hE) hl) (fun W' v W'' hE hE' hP=>by
  obtain⟨rfl,h⟩:=hP
  exact kont W'' (hE.trans hE') h)
theorem law8Is_ok {W0:PW} {M:Nat→Prop} {s t:Sl} {p:List Tm} {k:Nat} (h1:IsPoly 317 188 W0 s p) (h2:IsRPoly 317 195 W0 t p) (hs: ∀t∈p,Sz k t.2) (hk:k≤100000000) (hl:p.length≤1073741824):
  PCallsM Go.Proofs.Tryz.prog 28 [.agg ⟨[s.v]⟩,t.v] W0 M fun v W'=>v = .bool true∧True:=by
 apply calllaw8_Is
 exact polyPlain_call h1 hs hk hl fun s3 W2 hE2 h3=>⟨s3,rfl,refPolyPlain_call (h2.ext hE2) hs hk hl fun s6 W5 hE5 h6=>⟨s6,rfl,sameTerms_call (h3.ext hE5) h6 (by rw[ptxt_len];omega) fun W8 _ _=>⟨true,rfl,fun W10 _=>⟨rfl,trivial⟩⟩⟩⟩
theorem law8Is_call {W0 W:PW} {M:Nat→Prop} {s t:Sl} {p:List Tm} {k:Nat} {K:Value→PW→Prop} (h1:IsPoly 317 188 W s p) (h2:IsRPoly 317 195 W t p) (hs: ∀t∈p,Sz k t.2) (hk:k≤100000000) (hl:p.length≤1073741824) (kont: ∀(W':PW),Ext W W'→(True)→K (.bool true) W'):
  callN Go.Proofs.Tryz.prog W0 M 28 [.agg ⟨[s.v]⟩,t.v] W K:=
 callN_of (fun W' hE=>law8Is_ok (M:=fun _=>False) (h1.ext hE) (h2.ext hE) hs hk hl) (fun W' v W'' hE hE' hP=>by
  obtain⟨rfl,h⟩:=hP
  exact kont W'' (hE.trans hE') h)
end Go.Proofs.YthpmkcidkcmlgaaGreat

/- cincturelaw8.alive. -/
set_option maxRecDepth 100000
set_option linter.unusedVariables false
set_option linter.unusedSimpArgs false
namespace Go.Proofs.YthpmkcidkcmlgaaGreat
open Go Go.SX
theorem sz_m1:Sz 1 (-1:Rat):=(Sz.one (Nat.le_refl 1)).neg
end Go.Proofs.YthpmkcidkcmlgaaGreat
