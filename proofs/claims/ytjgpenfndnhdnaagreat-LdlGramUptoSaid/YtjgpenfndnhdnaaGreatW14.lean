/- cinctureref1.PolyParse, poly.Parse, book.Terms, law8.Of. -/
import Derived.Test.YtjgpenfndnhdnaaGreatW13
import Derived.Test.YtjgpenfndnhdnaaGreatLib4
import Derived.Test.YtjgpenfndnhdnaaGreatR7
import Derived.Test.YtjgpenfndnhdnaaGreatW6
import Derived.Test.YtjgpenfndnhdnaaGreatLib2
import Derived.Test.YtjgpenfndnhdnaaGreatLib1
set_option linter.unusedVariables false
set_option linter.unusedSimpArgs false
set_option maxRecDepth 100000
set_option linter.unusedVariables false
set_option linter.unusedSimpArgs false
namespace Go.Proofs.YtjgpenfndnhdnaaGreat
open Go Go.SX
def ppI (C:PW→List Value→Tm→Prop) (W0:PW) (L:List (Mon×ByteArray)) (l:List PL) (W:PW):Prop:=match l with
 | [.row xs,.val (.int .i64 i)]=>∃(j:Nat) (p:List Tm),i=(j:Int)∧j≤L.length∧Ext W0 W∧All2 (C W) xs p∧PParse (L.take j) p
 | _=>False
theorem cmp_ge {a b:Mon} (h:0≤a.cmp b):¬a.lt b:=fun hl=>by
 have:=Mon.cmp_neg.2 hl
 omega
theorem cmp_lt' {a b:Mon} (h:¬0≤a.cmp b):a.lt b:=Mon.cmp_neg.1 (by omega)
theorem refPolyParse_ok {W0:PW} {M:Nat→Prop} {s:Sl} {L:List (Mon×ByteArray)} (h:IsAPoly W0 s L) (hl:L.length≤1099511627776) (hz: ∀t∈L,t.2.size≤1099511627776):
  PCallsM Go.Proofs.Tryz.prog 55 [s.v] W0 M fun v W'=>∃(s':Sl),v = .tuple ⟨[Sl.v s',.bool (parseP L).isSome]⟩∧IsRPoly 260 142 W' s' ((parseP L).getD []):=by
 apply callref1_PolyParse
 have hn:=h.n
 have bad:parseP L=none→∀W':PW,∃s':Sl,(Value.tuple ⟨[.slice none 0 0,.bool false]⟩) = .tuple ⟨[Sl.v s',.bool (parseP L).isSome]⟩∧IsRPoly 260 142 W' s' ((parseP L).getD []):=fun h W'=>by
  rw[h]
  exact⟨⟨none,0,0⟩,rfl,IsRPoly.nil W'⟩
 refine⟨ppI (RT 260) W0 L,cnL L.length,⟨0,[],rfl,by omega,Ext.refl _,trivial,PParse.nil⟩,?_⟩
 rintro l3 i4 W5 ⟨j,p,rfl,hj,hE5,ha,hp⟩
 have hal:=ha.len
 have hpl:=hp.len
 rw[List.length_take] at hpl
 refine⟨fun hlt=>?_,fun hge s34 W35 hE35 hO _ W36 hE36=>⟨s34,?_,?_⟩⟩
 ·have hjl:j<L.length:=by omega
  have hL:=h.ext hE5
  have hib:=hL.inB (i:=(j:Int)) (by omega) (by omega)
  obtain⟨h0,_,_,e3⟩:=hL.at (List.getElem?_eq_getElem hjl)
  refine⟨hib,_,e3,refRatParse_call (hz _ (List.getElem_mem hjl)) fun b9 s10 s11 W8 hE8 h8=>⟨b9,s10,s11,_,rfl,fun hno W13 _=>bad (PParse.bad hjl fun q hq _=>by rw[hq] at hno;cases hno) _,fun hyes=>?_⟩⟩
  obtain⟨q,hq⟩: ∃q,parseQ L[j].2=some q:=Option.isSome_iff_exists.1 (by simpa using hyes)
  rw[hq] at h8
  have h8:IsRefQ 260 W8 b9 s10 s11 q:=h8
  refine refSign_call h8.1 fun W15 hE15 _=>⟨_,rfl,fun h0' W17 _=>bad (PParse.bad hjl fun q' hq' hne=>by rw[hq] at hq';cases hq';exact absurd (num_zero.1 (sgn_zero.1 h0')) hne) _,fun hne=>?_⟩
  have hq0:q≠0:=fun e=>hne (sgn_zero.2 (num_zero.2 e))
  have hE:=hE8.trans hE15
  have hmu:L.length-Int.toNat ((j:Int)+1)<L.length-Int.toNat (j:Int):=by omega
  have hL15:=hL.ext hE
  obtain⟨_,_,e2,_⟩:=hL15.at (List.getElem?_eq_getElem hjl)
  refine⟨fun hj0=>?_,fun hj0=>⟨hib,_,_,_,e2,Ext.refl _,by simp;omega,Ext.refl _,by unfold I64;omega,⟨j+1,_,by push_cast;rfl,by omega,hE5.trans hE,(ha.mono fun _ _ h=>h.ext hE).snoc ⟨h0,b9,s10,s11,rfl,h8.ext hE15⟩,hp.snoc hjl hq hq0 fun k hk=>absurd hk (by omega)⟩,hmu⟩⟩
  have hj1:(((j:Int)-1).toNat)=j-1:=by omega
  have hjm:j-1<L.length:=by omega
  obtain⟨hm0,_,em,_⟩:=hL15.at (List.getElem?_eq_getElem hjm)
  refine⟨by unfold I64;omega,hL.inB (by omega) (by omega),_,_,_,by rw[hj1];exact em,hib,_,_,_,e2,refMonoCmp_call hm0 h0 fun W25 hE25 _=>⟨_,rfl,fun hge W27 _=>bad (PParse.bad hjl fun _ _ _=>⟨j-1,by omega,cmp_ge hge⟩) _,fun hlt=>?_⟩⟩
  obtain⟨_,_,e2',_⟩:=(hL15.ext hE25).at (List.getElem?_eq_getElem hjl)
  refine⟨hib,_,_,_,e2',Ext.refl _,by simp;omega,Ext.refl _,by unfold I64;omega,⟨j+1,_,by push_cast;rfl,by omega,hE5.trans (hE.trans hE25),(ha.mono fun _ _ h=>h.ext (hE.trans hE25)).snoc ⟨h0,b9,s10,s11,rfl,h8.ext (hE15.trans hE25)⟩,hp.snoc hjl hq hq0 fun k hk=>?_⟩,hmu⟩
  have:k=j-1:=by omega
  subst this
  exact cmp_lt' hlt
 ·have:j=L.length:=by omega
  subst this
  rw[hp.all];rfl
 ·have:j=L.length:=by omega
  subst this
  rw[hp.all]
  exact⟨_,(hO.ext hE36).row,ha.mono fun _ _ h=>h.ext (hE35.trans hE36)⟩
theorem refPolyParse_call {W0 W:PW} {M:Nat→Prop} {s:Sl} {L:List (Mon×ByteArray)} {K:Value→PW→Prop} (h:IsAPoly W s L) (hl:L.length≤1099511627776) (hz: ∀t∈L,t.2.size≤1099511627776) (kont: ∀(s':Sl) (W':PW),Ext W W'→(IsRPoly 260 142 W' s' ((parseP L).getD []))→K (.tuple ⟨[Sl.v s',.bool (parseP L).isSome]⟩) W'):
  callN Go.Proofs.Tryz.prog W0 M 55 [s.v] W K:=
 callN_of (fun W' hE=>refPolyParse_ok (M:=fun _=>False) (h.ext hE) hl hz) (fun W' v W'' hE hE' hP=>by
  obtain⟨s',rfl,h⟩:=hP
  exact kont s' W'' (hE.trans hE') h)
noncomputable def erP (L:List (Mon×ByteArray)):Int:=if(parseP L).isSome then 0 else 2
def paI (n0:Nat) (W0:PW) (L:List (Mon×ByteArray)) (l:List PL) (W:PW):Prop:=match l with
 | [.val (.int .i64 i),_,.cells [.slice A n c]]=>∃(j:Nat) (xs:List (List Value)) (p:List Tm),i=(j:Int)∧j≤L.length∧ExtN n0 W0 W∧Go.SX.Own W 136 6 ⟨A,n,c⟩ xs∧(∀g,(Value.slice A n c).ownBlock=some g→n0≤g)∧All2 (PT 260 W) xs p∧PParse (L.take j) p
 | _=>False
theorem own_nil {W:PW} {t:TypeId} {sz:Nat} :Go.SX.Own W t sz ⟨none,0,0⟩ []:=⟨⟨by simp,by simp,.inl ⟨rfl,rfl⟩⟩,fun g hg=>by simp[Sl.v,Value.ownBlock] at hg⟩
theorem polyParse_ok {W0:PW} {M:Nat→Prop} {s:Sl} {L:List (Mon×ByteArray)} (h:IsAPoly W0 s L) (hl:L.length≤1099511627776) (hz: ∀t∈L,t.2.size≤1099511627776):
  PCallsM Go.Proofs.Tryz.prog 57 [s.v] W0 M fun v W'=>∃(s':Sl),v = .tuple ⟨[.agg ⟨[Sl.v s']⟩,.int .i64 (erP L)]⟩∧IsPoly 260 136 W' s' ((parseP L).getD []):=by
 apply callpoly_Parse
 have hn:=h.n
 have bad:parseP L=none→∀W':PW,∃s':Sl,(Value.tuple ⟨[.agg ⟨[.slice none 0 0]⟩,.int .i64 2]⟩) = .tuple ⟨[.agg ⟨[Sl.v s']⟩,.int .i64 (erP L)]⟩∧IsPoly 260 136 W' s' ((parseP L).getD []):=fun h W'=>by
  unfold erP
  rw[h]
  exact⟨⟨none,0,0⟩,rfl,IsPoly.nil W'⟩
 refine⟨paI W0.w.heap.size W0 L,fun l _=>match l with | [.val (.int .i64 i),_,_]=>L.length-i.toNat | _=>0,⟨0,[],[],rfl,by omega,ExtM.refl _ _,own_nil,fun g hg=>by simp[Value.ownBlock] at hg,trivial,PParse.nil⟩,?_⟩
 rintro s3 s4 i5 W6 ⟨j,xs,p,rfl,hj,hEN,hO,hfr,ha,hp⟩
 have hO:Go.SX.Own W6 136 6 s4 xs:=hO
 have hfr: ∀g,s4.v.ownBlock=some g→W0.w.heap.size≤g:=hfr
 have hal:=ha.len
 have hpl:=hp.len
 rw[List.length_take] at hpl
 refine⟨fun hlt=>?_,fun hge W33 hE33=>⟨s4,?_,?_⟩⟩
 ·have hjl:j<L.length:=by omega
  have hL:=h.new hEN (Nat.le_refl _)
  have hib:=hL.inB (i:=(j:Int)) (by omega) (by omega)
  obtain⟨h0,e1,_,_⟩:=hL.at (List.getElem?_eq_getElem hjl)
  refine⟨hib,_,_,_,_,e1,ratParse_call (hz _ (List.getElem_mem hjl)) fun s13 b14 s15 W12 hE12 h12=>⟨s13,b14,s15,_,rfl,fun hno W17 _=>bad (PParse.bad hjl fun q hq _=>by rw[hq] at hno;exact absurd rfl hno) _,fun hyes=>?_⟩⟩
  obtain⟨q,hq⟩: ∃q,parseQ L[j].2=some q:=by
   cases hq:parseQ L[j].2 with
   | none=>rw[hq] at hyes;exact absurd (by decide) hyes
   | some q=>exact⟨q,rfl⟩
  rw[hq] at h12
  have h12:IsRat 260 W12 s13 b14 s15 q:=h12
  refine ratSign_call h12 (parseQ_sz hq).1 (by omega) fun W19 hE19 _=>⟨_,rfl,fun h0' W21 _=>bad (PParse.bad hjl fun q' hq' hne=>by rw[hq] at hq';cases hq';exact absurd ((cmpQ_zero _ _).1 h0') hne) _,fun hne=>?_⟩
  have hq0:q≠0:=fun e=>hne ((cmpQ_zero _ _).2 e)
  have hE:=hE12.trans hE19
  have hmu:L.length-Int.toNat ((j:Int)+1)<L.length-Int.toNat (j:Int):=by omega
  have hL19:=hL.ext hE
  have fin: ∀W,Ext W19 W→(∀k (hk:k+1=j),(L[k]'(by omega)).1.lt L[j].1)→appN W0 M 136 6 64 s4 [[.int .u8 L[j].1.x,.int .u8 L[j].1.y,.int .u8 L[j].1.z,s13.v,.bool b14,s15.v]] W fun s29 W30=>I64 ((j:Int)+1)∧paI W0.w.heap.size W0 L [.val (.int .i64 ((j:Int)+1)),.cells [s3.v],.cells [s29.v]] W30∧L.length-Int.toNat ((j:Int)+1)<L.length-Int.toNat (j:Int):=by
   intro W hEW hlt W' hE'
   have hE2:=(hE.trans hEW).trans hE'
   have hO':=hO.ext hE2
   refine⟨xs,hO',fun g hg=>.inr (hfr g hg),by simp;omega,fun s' W'' hX hO'' hob=>⟨by unfold I64;omega,⟨j+1,_,p ++ [(L[j].1,q)],by push_cast;rfl,by omega,(hEN.trans (hE2.toM _)).trans (hX.mono fun g hg=>hfr g hg),hO'',fun g hg=>?_,?_,hp.snoc hjl hq hq0 hlt⟩,hmu⟩⟩
   ·rcases hob g hg with h | h
    ·exact hfr g h
    ·exact Nat.le_trans (Nat.le_trans hEN.size hE2.size) h
   ·exact((ha.mono fun _ _ h=>PT.own hO' hX (by decide:260≠136) (h.ext hE2))).snoc ⟨h0,s13,b14,s15,rfl,IsRat.own hO' hX (by decide:260≠136) (h12.ext ((hE19.trans hEW).trans hE'))⟩
  refine⟨fun hj0=>?_,fun hj0=>fin W19 (Ext.refl _) fun k hk=>absurd hk (by omega)⟩
  have hj1:(((j:Int)-1).toNat)=j-1:=by omega
  have hjm:j-1<L.length:=by omega
  obtain⟨hm0,_,em,_⟩:=hL19.at (List.getElem?_eq_getElem hjm)
  refine⟨by unfold I64;omega,hL.inB (by omega) (by omega),_,_,_,by rw[hj1];exact em,monoCmp_call hm0 h0 fun W26 hE26 _=>⟨_,rfl,fun hge W28 _=>bad (PParse.bad hjl fun _ _ _=>⟨j-1,by omega,cmp_ge hge⟩) _,fun hlt=>fin W26 hE26 fun k hk=>?_⟩⟩
  have:k=j-1:=by omega
  subst this
  exact cmp_lt' hlt
 ·have:j=L.length:=by omega
  subst this
  unfold erP
  rw[hp.all];rfl
 ·have:j=L.length:=by omega
  subst this
  rw[hp.all]
  exact⟨_,(hO.ext hE33).row,ha.mono fun _ _ h=>h.ext hE33⟩
theorem polyParse_call {W0 W:PW} {M:Nat→Prop} {s:Sl} {L:List (Mon×ByteArray)} {K:Value→PW→Prop} (h:IsAPoly W s L) (hl:L.length≤1099511627776) (hz: ∀t∈L,t.2.size≤1099511627776) (kont: ∀(s':Sl) (W':PW),Ext W W'→(IsPoly 260 136 W' s' ((parseP L).getD []))→K (.tuple ⟨[.agg ⟨[Sl.v s']⟩,.int .i64 (erP L)]⟩) W'):
  callN Go.Proofs.Tryz.prog W0 M 57 [s.v] W K:=
 callN_of (fun W' hE=>polyParse_ok (M:=fun _=>False) (h.ext hE) hl hz) (fun W' v W'' hE hE' hP=>by
  obtain⟨s',rfl,h⟩:=hP
  exact kont s' W'' (hE.trans hE') h)
def TermsOK (L:List (Mon×ByteArray)) (most exp:Int):Prop:=(L.length:Int)≤most∧∀t∈L,t.2.size≤30∧t.1.x≤exp∧t.1.y≤exp∧t.1.z≤exp
theorem bookTerms_ok {W0:PW} {M:Nat→Prop} {s:Sl} {L:List (Mon×ByteArray)} {most exp:Int} (h:IsAPoly W0 s L) (hl:L.length≤1099511627776):
  PCallsM Go.Proofs.Tryz.prog 56 [s.v,.int .i64 most,.int .i64 exp] W0 M fun v W'=>∃(b:Bool),v = .bool b∧(b=true↔TermsOK L most exp):=by
 apply callbook_Terms
 have hn:=h.n
 have bad:¬TermsOK L most exp→∃b:Bool,(Value.bool false) = .bool b∧(b=true↔TermsOK L most exp):=fun h=>⟨false,rfl,fun e=>(by cases e),fun hp=>absurd hp h⟩
 refine⟨fun hgt W1 _=>bad fun hp=>by have:=hp.1;omega,fun hle=>⟨fun l W=>match l with | [.val (.int .i64 i)]=>Ext W0 W∧∃j:Nat,i=(j:Int)∧j≤L.length∧∀t∈L.take j,t.2.size≤30∧t.1.x≤exp∧t.1.y≤exp∧t.1.z≤exp | _=>False,fun l _=>match l with | [.val (.int .i64 i)]=>L.length-i.toNat | _=>0,⟨Ext.refl _,0,rfl,by omega,fun t ht=>by simp at ht⟩,?_⟩⟩
 rintro i4 W5 ⟨hE,j,rfl,hj,hpre⟩
 refine⟨fun hlt=>?_,fun hge W14 _=>⟨true,rfl,fun _=>⟨by omega,fun t ht=>?_⟩,fun _=>rfl⟩⟩
 ·have hjl:j<L.length:=by omega
  have hL:=h.ext hE
  have hib:=hL.inB (i:=(j:Int)) (by omega) (by omega)
  have hm:=List.getElem_mem hjl
  obtain⟨xs,⟨_,hr⟩,ha⟩:=hL
  obtain⟨x,hx,h0,rfl⟩:=ha.get (List.getElem?_eq_getElem hjl)
  unfold Mon.ok at h0
  refine⟨hib,_,hr.part hx 3 rfl,fun hb W7 _=>bad fun hp=>by have:=hp.2 _ hm;omega,fun hb=>⟨hib,⟨by omega,by omega⟩,_,hr.part hx 0 rfl,by unfold I64;omega,fun hc W9 _=>bad fun hp=>by have:=hp.2 _ hm;omega,fun hc=>⟨hib,⟨by omega,by omega⟩,_,hr.part hx 1 rfl,by unfold I64;omega,fun hd W11 _=>bad fun hp=>by have:=hp.2 _ hm;omega,fun hd=>⟨hib,⟨by omega,by omega⟩,_,hr.part hx 2 rfl,by unfold I64;omega,fun he W13 _=>bad fun hp=>by have:=hp.2 _ hm;omega,fun he=>⟨by unfold I64;omega,⟨hE,j+1,by push_cast;rfl,by omega,fun t ht=>?_⟩,?_⟩⟩⟩⟩⟩
  ·rw[take_snocR hjl] at ht
   rcases List.mem_append.1 ht with ht | ht
   ·exact hpre t ht
   ·simp at ht
    subst ht
    exact⟨by omega,by omega,by omega,by omega⟩
  ·show L.length-Int.toNat ((j:Int)+1)<L.length-Int.toNat (j:Int)
   omega
 ·have:j=L.length:=by omega
  subst this
  rw[List.take_length] at hpre
  exact hpre t ht
theorem bookTerms_call {W0 W:PW} {M:Nat→Prop} {s:Sl} {L:List (Mon×ByteArray)} {most exp:Int} {K:Value→PW→Prop} (h:IsAPoly W s L) (hl:L.length≤1099511627776) (kont: ∀(b:Bool) (W':PW),Ext W W'→((b=true↔TermsOK L most exp))→K (.bool b) W'):
  callN Go.Proofs.Tryz.prog W0 M 56 [s.v,.int .i64 most,.int .i64 exp] W K:=
 callN_of (fun W' hE=>bookTerms_ok (M:=fun _=>False) (h.ext hE) hl) (fun W' v W'' hE hE' hP=>by
  obtain⟨b,rfl,h⟩:=hP
  exact kont b W'' (hE.trans hE') h)
def OfOK (L:List (Mon×ByteArray)) (exp:Int) (p:List Tm):Prop:=PParse L p∧TermsOK L 14 exp
theorem law8Of_ok {W0:PW} {M:Nat→Prop} {s:Sl} {L:List (Mon×ByteArray)} {exp:Int} (h:IsAPoly W0 s L) (hl:L.length≤1099511627776) (hz: ∀t∈L,t.2.size≤1099511627776):
  PCallsM Go.Proofs.Tryz.prog 15 [s.v,.int .i64 exp] W0 M fun v W'=>∃(s1:Sl),∃(s2:Sl),∃(b:Bool),v = .tuple ⟨[.agg ⟨[Sl.v s1]⟩,Sl.v s2,.bool b]⟩∧(b=true→∃p,OfOK L exp p∧IsPoly 260 136 W' s1 p∧IsRPoly 260 142 W' s2 p):=by
 apply calllaw8_Of
 have bad: ∀W':PW,∃(s1 s2:Sl) (b:Bool),(Value.tuple ⟨[.agg ⟨[.slice none 0 0]⟩,.slice none 0 0,.bool false]⟩) = .tuple ⟨[.agg ⟨[Sl.v s1]⟩,Sl.v s2,.bool b]⟩∧(b=true→∃p,OfOK L exp p∧IsPoly 260 136 W' s1 p∧IsRPoly 260 142 W' s2 p):=fun W'=>⟨⟨none,0,0⟩,⟨none,0,0⟩,false,rfl,fun e=>by cases e⟩
 refine refPolyParse_call h hl hz fun s3 W2 hE2 h2=>⟨s3,_,rfl,fun _ W5 _=>bad W5,fun hyes=>bookTerms_call (h.ext hE2) hl fun b8 W7 hE7 hb=>⟨b8,rfl,fun _ W9 _=>bad W9,fun hb8=>polyParse_call (h.ext (hE2.trans hE7)) hl hz fun s12 W11 hE11 h11=>⟨s12,_,rfl,fun W14 hE14=>⟨s12,s3,true,rfl,fun _=>?_⟩⟩⟩⟩
 obtain⟨p,hp⟩: ∃p,parseP L=some p:=Option.isSome_iff_exists.1 (by simpa using hyes)
 rw[hp] at h2 h11
 exact⟨p,⟨parseP_is hp,hb.1 (by simpa using hb8)⟩,h11.ext hE14,h2.ext ((hE7.trans hE11).trans hE14)⟩
theorem law8Of_call {W0 W:PW} {M:Nat→Prop} {s:Sl} {L:List (Mon×ByteArray)} {exp:Int} {K:Value→PW→Prop} (h:IsAPoly W s L) (hl:L.length≤1099511627776) (hz: ∀t∈L,t.2.size≤1099511627776) (kont: ∀(s1:Sl) (s2:Sl) (b:Bool) (W':PW),Ext W W'→((b=true→∃p,OfOK L exp p∧IsPoly 260 136 W' s1 p∧IsRPoly 260 142 W' s2 p))→K (.tuple ⟨[.agg ⟨[Sl.v s1]⟩,Sl.v s2,.bool b]⟩) W'):
  callN Go.Proofs.Tryz.prog W0 M 15 [s.v,.int .i64 exp] W K:=
 callN_of (fun W' hE=>law8Of_ok (M:=fun _=>False) (h.ext hE) hl hz) (fun W' v W'' hE hE' hP=>by
  obtain⟨s1,s2,b,rfl,h⟩:=hP
  exact kont s1 s2 b W'' (hE.trans hE') h)
theorem OfOK.len {L:List (Mon×ByteArray)} {exp:Int} {p:List Tm} (h:OfOK L exp p):p.length≤14:=by
 have h1:=h.1.len
 have h2:=h.2.1
 omega
end Go.Proofs.YtjgpenfndnhdnaaGreat

/- mat: none, even, Right, One, Turn, Same; cincturelaw11.Shaped. -/
set_option maxRecDepth 100000
set_option linter.unusedVariables false
set_option linter.unusedSimpArgs false
namespace Go.Proofs.YtjgpenfndnhdnaaGreat
open Go Go.SX
theorem qs_zero {t:TypeId} (W:PW) (c:Nat):Qs t W (List.replicate c [.slice none 0 0,.bool false,.slice none 0 0]) c (fun _=>0):=
 ⟨by simp,fun i hi=>⟨⟨none,0,0⟩,false,⟨none,0,0⟩,by simp[hi],isRat_zero W⟩⟩
def noneI (n0:Nat) (W0:PW) (r c:Nat) (l:List PL) (W:PW):Prop:=
 match l with
 | [.val (.int .i64 i),.row l3]=>Ext W0 W∧∃(k:Nat) (ss:List Sl),i=(k:Int)∧k≤r∧ss.length=k∧l3=(ss.map fun x=>[x.v]) ++ List.replicate (r-k) [.slice none 0 0]∧
   (∀i (h:i<ss.length),∃xs,Go.SX.Own W 62 3 ss[i] xs∧Qs 260 W xs c (fun _=>0)∧∀g,ss[i].v.ownBlock=some g→n0≤g)∧
   ∀i j (hi:i<ss.length) (hj:j<ss.length),i≠j→∀g,ss[i].v.ownBlock=some g→ss[j].v.ownBlock≠some g
 | _=>False
def noneM (r:Nat) (l:List PL) (W:PW):Nat:=
 match l with
 | [.val (.int .i64 i),_]=>r-i.toNat
 | _=>0
theorem matNone_ok {W0:PW} {M:Nat→Prop} {n0 r c:Nat} (hn:NewFrom n0 W0) (hr:r≤1048576) (hc:c≤1048576):
  PCallsM Go.Proofs.Tryz.prog 70 [.int .i64 (r:Int),.int .i64 (c:Int)] W0 M fun v W'=>∃(s':Sl),v=Sl.v s'∧OMat 260 62 119 (n0≤·) W' s' r c (fun _ _=>0):=by
 apply callmat_none
 refine⟨⟨rfl,by omega,by omega⟩,noneI n0 W0 r c,noneM r,⟨Ext.refl _,0,[],rfl,Nat.zero_le _,rfl,by simp,fun i h=>by simp at h,fun i j h=>by simp at h⟩,?_⟩
 rintro l3 i4 W5 ⟨hE5,k,ss,rfl,hk,hl,rfl,h3,h4⟩
 rw[List.length_replicate,show Int.toNat (r:Int)=r from rfl,show Int.toNat (c:Int)=c from rfl,show Int.toNat (k:Int)=k from rfl]
 have hlen:((ss.map fun x=>[x.v]) ++ List.replicate (r-k) [Value.slice none 0 0]).length=r:=by simp;omega
 refine⟨fun hlt=>⟨⟨rfl,by omega,by omega⟩,⟨by omega,by rw[hlen];omega⟩,fun s6 W7 hE7 hO hf=>⟨by rw[hlen];omega,by unfold I64;omega,⟨hE5.trans hE7,k+1,ss ++ [s6],by push_cast;rfl,by omega,by simp[hl],?_,?_,?_⟩,?_⟩⟩,fun hge s9 W10 hE10 hO hf W12 hE12=>⟨s9,rfl,?_⟩⟩
 ·rw[List.set_append_right _ _ (by simp[hl])]
  simp only[List.length_map,hl,Nat.sub_self,List.map_append,List.map_cons,List.map_nil]
  rw[show r-k=(r-(k+1))+1 by omega,List.replicate_succ,List.set_cons_zero]
  simp
 ·intro i h
  by_cases e:i<ss.length
  ·obtain⟨xs,k1,k2,k3⟩:=h3 i e
   rw[List.getElem_append_left e]
   exact⟨xs,k1.ext hE7,k2.ext hE7,k3⟩
  ·have:i=ss.length:=by simp at h;omega
   subst this
   rw[List.getElem_concat_length rfl]
   refine⟨_,hO,qs_zero W7 c,fun g hg=>?_⟩
   exact Nat.le_trans hn (hf g hg).1
 ·have key: ∀i (hi:i<ss.length) g,s6.v.ownBlock=some g→ss[i].v.ownBlock≠some g:=by
   intro i hi g hg hg'
   obtain⟨xs,k1,k2,k3⟩:=h3 i hi
   by_cases hx:xs = []
   ·have hn:=k1.n
    subst hx
    have h6:=hO.n
    rcases k1.1.2.2 with⟨hv,_⟩ | ⟨g1,cap,cur,hv,_,hh,_⟩
    ·rw[hv] at hg'
     simp[Value.ownBlock] at hg'
    ·have hgg:ss[i].v.ownBlock=some g1:=by rw[hv];rfl
     rw[hg'] at hgg
     cases hgg
     exact k1.2 g hg' ((hf g hg).2 (Array.getElem?_eq_some_iff.1 hh).1)
   ·obtain⟨g1,cs,_,hg1,hS,hh,_⟩:=k1.at hx
    rw[hg'] at hg1
    cases hg1
    exact hS ((hf g hg).2 (Array.getElem?_eq_some_iff.1 hh).1)
  intro i j hi hj hne g hg hg'
  simp only[List.length_append,List.length_cons,List.length_nil] at hi hj
  by_cases ei:i<ss.length
  ·rw[List.getElem_append_left ei] at hg
   by_cases ej:j<ss.length
   ·rw[List.getElem_append_left ej] at hg'
    exact h4 i j ei ej hne g hg hg'
   ·have:j=ss.length:=by omega
    subst this
    rw[List.getElem_concat_length rfl] at hg'
    exact key i ei g hg' hg
  ·have:i=ss.length:=by omega
   subst this
   rw[List.getElem_concat_length rfl] at hg
   rw[List.getElem_append_left (by omega)] at hg'
   exact key j (by omega) g hg hg'
 ·show r-Int.toNat ((k:Int)+1)<r-Int.toNat (k:Int)
  omega
 ·have hkr:k=r:=by omega
  subst hkr
  rw[Nat.sub_self,List.replicate_zero,List.append_nil] at hO
  exact⟨ss,hl,(hO.ext hE12).row,fun i hi=>let⟨xs,k1,k2,k3⟩:=h3 i hi;⟨xs,(k1.ext hE10).ext hE12,(k2.ext hE10).ext hE12,k3⟩,h4⟩
theorem matNone_call {W0 W:PW} {M:Nat→Prop} {n0 r c:Nat} {K:Value→PW→Prop} (hn:NewFrom n0 W) (hr:r≤1048576) (hc:c≤1048576) (kont: ∀(s':Sl) (W':PW),Ext W W'→(OMat 260 62 119 (n0≤·) W' s' r c (fun _ _=>0))→K (Sl.v s') W'):
  callN Go.Proofs.Tryz.prog W0 M 70 [.int .i64 (r:Int),.int .i64 (c:Int)] W K:=
 callN_of (fun W' hE=>matNone_ok (M:=fun _=>False) (hn.ext hE) hr hc) (fun W' v W'' hE hE' hP=>by
  obtain⟨s',rfl,h⟩:=hP
  exact kont s' W'' (hE.trans hE') h)
def RightP (r:Nat) (c:Nat→Nat):Prop:=(∀i,i<r→c i=c 0)∧1≤r∧r≤12∧1≤c 0∧c 0≤12
theorem matEven_ok {W0:PW} {M:Nat→Prop} {s:Sl} {r:Nat} {c:Nat→Nat} {m:Nat→Nat→Rat} (h:IsMat 260 62 119 W0 s r c m) (hr:r≤1099511627776):
  PCallsM Go.Proofs.Tryz.prog 95 [s.v] W0 M fun v W'=>∃(b:Bool),v = .bool b∧(b=true↔RightP r c):=by
 apply callmat_even_rat_Rat
 have hn:=h.n
 refine⟨fun l W=>match l with | [.val (.int .i64 i)]=>Ext W0 W∧∃k:Nat,i=(k:Int)∧k≤r∧∀i,i<k→c i=c 0 | _=>False,fun l _=>match l with | [.val (.int .i64 i)]=>r-i.toNat | _=>0,⟨Ext.refl _,0,rfl,Nat.zero_le _,fun i h=>(by omega)⟩,?_⟩
 rintro i3 W4 ⟨hE4,k,rfl,hk,hck⟩
 have h4:=h.ext hE4
 refine⟨fun hlt=>?_,fun hge=>⟨fun h1=>⟨fun h12=>?_,fun h12=>fun W14 _=>⟨false,rfl,?_⟩⟩,fun h1=>fun W21 _=>⟨false,rfl,?_⟩⟩⟩
 ·obtain⟨x,e1,e2⟩:=h4.at (i:=k) (by omega)
  obtain⟨y,f1,f2⟩:=h4.at (i:=0) (by omega)
  have n1:=e2.n
  have n2:=f2.n
  refine⟨h4.inB (by omega) (by omega),x,e1,h4.inB (by omega) (by omega),y,f1,fun hne W7 _=>⟨false,rfl,?_⟩,fun heq=>⟨by unfold I64;omega,⟨hE4,k+1,by push_cast;rfl,by omega,fun i hi=>?_⟩,?_⟩⟩
  ·refine⟨fun h=>(by cases h),fun h=>?_⟩
   have:=h.1 k (by omega)
   omega
  ·by_cases e:i=k
   ·subst e;omega
   ·exact hck i (by omega)
  ·show r-Int.toNat ((k:Int)+1)<r-Int.toNat (k:Int)
   omega
 ·have hkr:k=r:=by omega
  obtain⟨y,f1,f2⟩:=h4.at (i:=0) (by omega)
  have n2:=f2.n
  have ib:=h4.inB (i:=0) (by omega) (by omega)
  refine⟨ib,y,f1,fun hy=>⟨ib,y,f1,fun W10 _=>⟨_,rfl,?_⟩⟩,fun hy W11 _=>⟨false,rfl,?_⟩⟩
  ·rw[decide_eq_true_iff]
   exact⟨fun h=>⟨fun i hi=>hck i (by omega),by omega,by omega,by omega,by omega⟩,fun h=>by have:=h.2.2.2.2;omega⟩
  ·refine⟨fun h=>(by cases h),fun h=>?_⟩
   have:=h.2.2.2.1
   omega
 ·refine⟨fun h=>(by cases h),fun h=>?_⟩
  have:=h.2.2.1
  omega
 ·refine⟨fun h=>(by cases h),fun h=>?_⟩
  have:=h.2.1
  omega
theorem matEven_call {W0 W:PW} {M:Nat→Prop} {s:Sl} {r:Nat} {c:Nat→Nat} {m:Nat→Nat→Rat} {K:Value→PW→Prop} (h:IsMat 260 62 119 W s r c m) (hr:r≤1099511627776) (kont: ∀(b:Bool) (W':PW),Ext W W'→((b=true↔RightP r c))→K (.bool b) W'):
  callN Go.Proofs.Tryz.prog W0 M 95 [s.v] W K:=
 callN_of (fun W' hE=>matEven_ok (M:=fun _=>False) (h.ext hE) hr) (fun W' v W'' hE hE' hP=>by
  obtain⟨b,rfl,h⟩:=hP
  exact kont b W'' (hE.trans hE') h)
theorem matRight_ok {W0:PW} {M:Nat→Prop} {s:Sl} {r:Nat} {c:Nat→Nat} {m:Nat→Nat→Rat} (h:IsMat 260 62 119 W0 s r c m) (hr:r≤1099511627776):
  PCallsM Go.Proofs.Tryz.prog 42 [s.v] W0 M fun v W'=>∃(b:Bool),v = .bool b∧(b=true↔RightP r c):=by
 apply callmat_Right
 exact matEven_call h hr fun b W2 hE2 hb=>⟨b,rfl,fun W4 hE4=>⟨b,rfl,hb⟩⟩
theorem matRight_call {W0 W:PW} {M:Nat→Prop} {s:Sl} {r:Nat} {c:Nat→Nat} {m:Nat→Nat→Rat} {K:Value→PW→Prop} (h:IsMat 260 62 119 W s r c m) (hr:r≤1099511627776) (kont: ∀(b:Bool) (W':PW),Ext W W'→((b=true↔RightP r c))→K (.bool b) W'):
  callN Go.Proofs.Tryz.prog W0 M 42 [s.v] W K:=
 callN_of (fun W' hE=>matRight_ok (M:=fun _=>False) (h.ext hE) hr) (fun W' v W'' hE hE' hP=>by
  obtain⟨b,rfl,h⟩:=hP
  exact kont b W'' (hE.trans hE') h)
def oneF:Nat→Nat→Rat:=fun i j=>if i=j then 1 else 0
theorem matOne_ok {W0:PW} {M:Nat→Prop} {n0 n:Nat} (hn:NewFrom n0 W0) (h1:1≤n) (h12:n≤12):
  PCallsM Go.Proofs.Tryz.prog 131 [.int .i64 (n:Int)] W0 M fun v W'=>∃(s':Sl),v=Sl.v s'∧OMat 260 62 119 (n0≤·) W' s' n n oneF:=by
 apply callmat_One
 have en:mn (mx (n:Int) 1) 12=(n:Int):=by unfold mn mx;split<;>(try split)<;>omega
 unfold Rmat_One
 rw[en]
 have hnn:NewFrom W0.w.heap.size W0:=Nat.le_refl _
 refine matNone_call hnn (by omega) (by omega) fun s3 W2 hE2 h2=>⟨s3,rfl,?_⟩
 refine⟨fun l W=>match l with | [.val (.int .i64 i)]=>∃k:Nat,i=(k:Int)∧k≤n∧OMat 260 62 119 (W0.w.heap.size≤·) W s3 n n (fun a b=>if a=b∧a<k then 1 else 0) | _=>False,fun l _=>match l with | [.val (.int .i64 i)]=>n-i.toNat | _=>0,⟨0,rfl,Nat.zero_le _,h2.congr fun i j _ _=>by simp⟩,?_⟩
 rintro i6 W7 ⟨k,rfl,hk,h7⟩
 have hs3:=h7.mat.n
 refine⟨fun hlt=>?_,fun hge W15 hE15=>⟨s3,rfl,?_⟩⟩
 ·obtain⟨x,e1,e2⟩:=h7.mat.at (i:=k) (by omega)
  refine⟨h7.mat.inB (by omega) (by omega),x,e1,ratOf_call (z:=1) (by unfold I64;omega) fun s11 b12 s13 W10 hE10 h10=>⟨s11,b12,s13,rfl,hE10,(e2.ext hE10).inB (by omega) (by omega),?_⟩⟩
  have h10':=h7.ext hE10
  have e1':=e1.ext hE10
  refine h10'.store (j:=k) e1' (by omega) (by omega) h10 (by decide) (by decide) (fun g hg=>.inr hg) fun W14 _ h14=>⟨by unfold I64;omega,⟨k+1,by push_cast;rfl,by omega,h14.congr fun a b ha hb=>?_⟩,?_⟩
  ·unfold setM
   by_cases e:a=k∧b=k
   ·rw[if_pos e,if_pos (by omega)];rfl
   ·rw[if_neg e]
    dsimp only
    by_cases e2:a=b∧a<k
    ·rw[if_pos e2,if_pos (by omega)]
    ·rw[if_neg e2,if_neg (by omega)]
  ·show n-Int.toNat ((k:Int)+1)<n-Int.toNat (k:Int)
   omega
 ·refine((h7.ext hE15).mono fun g hg=>Nat.le_trans hn hg).congr fun i j hi hj=>?_
  unfold oneF
  by_cases e:i=j
  ·rw[if_pos e,if_pos ⟨e,by omega⟩]
  ·rw[if_neg e,if_neg (by omega)]
theorem matOne_call {W0 W:PW} {M:Nat→Prop} {n0 n:Nat} {K:Value→PW→Prop} (hn:NewFrom n0 W) (h1:1≤n) (h12:n≤12) (kont: ∀(s':Sl) (W':PW),Ext W W'→(OMat 260 62 119 (n0≤·) W' s' n n oneF)→K (Sl.v s') W'):
  callN Go.Proofs.Tryz.prog W0 M 131 [.int .i64 (n:Int)] W K:=
 callN_of (fun W' hE=>matOne_ok (M:=fun _=>False) (hn.ext hE) h1 h12) (fun W' v W'' hE hE' hP=>by
  obtain⟨s',rfl,h⟩:=hP
  exact kont s' W'' (hE.trans hE') h)
end Go.Proofs.YtjgpenfndnhdnaaGreat

/- mat: Turn, Mul, Same; ldl: symmetric, left. -/
set_option maxRecDepth 100000
set_option linter.unusedVariables false
set_option linter.unusedSimpArgs false
namespace Go.Proofs.YtjgpenfndnhdnaaGreat
open Go Go.SX
theorem matTurn_ok {W0:PW} {M:Nat→Prop} {n0 r:Nat} {s:Sl} {c:Nat→Nat} {m:Nat→Nat→Rat} (hn:NewFrom n0 W0) (h:IsMat 260 62 119 W0 s r c m) (hr:r≤1099511627776):
  PCallsM Go.Proofs.Tryz.prog 22 [s.v] W0 M fun v W'=>∃(s':Sl),∃(b:Bool),v = .tuple #[Sl.v s',.bool b]∧((b=true↔RightP r c)∧(RightP r c→OMat 260 62 119 (n0≤·) W' s' (c 0) r (fun i j=>m j i))):=by
 apply callmat_Turn
 have hsn:=h.n
 refine matRight_call h hr fun b W2 hE2 hb=>⟨b,rfl,fun hf W4 hE4=>⟨⟨none,0,0⟩,false,rfl,?_,?_⟩,fun ht=>?_⟩
 ·have:b=false:=by simpa using hf
  rw[this] at hb
  exact hb
 ·intro hR
  have:=hb.2 hR
  rw[this] at hf
  cases hf
 have hbt:b=true:=by simpa using ht
 have hR:=hb.1 hbt
 obtain⟨hc,hr1,hr12,hc1,hc12⟩:=hR
 have h2:=h.ext hE2
 obtain⟨y,f1,f2⟩:=h2.at (i:=0) (by omega)
 have ny:=f2.n
 refine⟨h2.inB (by omega) (by omega),y,f1,?_⟩
 rw[ny,hsn]
 obtain⟨n1,hn1⟩: ∃n1,W2.w.heap.size=n1:=⟨_,rfl⟩
 have hle:W2.w.heap.size≤n1:=by omega
 have hn1':NewFrom n1 W2:=by unfold NewFrom;omega
 have h01:W0.w.heap.size≤n1:=Nat.le_trans hE2.size hle
 refine matNone_call hn1' (by omega) (by omega) fun s8 W7 hE7 h8=>⟨s8,rfl,?_⟩
 refine⟨fun l W=>match l with | [.val (.int .i64 i)]=>∃k:Nat,i=(k:Int)∧k≤r∧ExtN n1 W2 W∧OMat 260 62 119 (n1≤·) W s8 (c 0) r (fun a b=>if b<k then m b a else 0) | _=>False,fun l _=>match l with | [.val (.int .i64 i)]=>r-i.toNat | _=>0,⟨0,rfl,Nat.zero_le _,hE7.toM _,h8.congr fun i j _ _=>by simp⟩,?_⟩
 rintro i11 W12 ⟨k,rfl,hk,hE12,h12⟩
 refine⟨fun hlt=>?_,fun hge W23 hE23=>⟨s8,true,rfl,⟨fun _=>hb.1 hbt,fun _=>rfl⟩,fun _=>?_⟩⟩
 ·have hkr:k<r:=by omega
  obtain⟨x,e1,e2⟩:=h2.at (i:=k) hkr
  have nx:=e2.n
  have hck:=hc k hkr
  refine⟨(h2.new hE12 hle).inB (by omega) (by omega),x,e1.new hE12 hle,?_⟩
  refine⟨fun l W=>match l with | [.val (.int .i64 i)]=>∃l:Nat,i=(l:Int)∧l≤c 0∧ExtN n1 W2 W∧OMat 260 62 119 (n1≤·) W s8 (c 0) r (fun a b=>if b<k∨(b=k∧a<l) then m b a else 0) | _=>False,fun l _=>match l with | [.val (.int .i64 i)]=>c 0-i.toNat | _=>0,⟨0,rfl,Nat.zero_le _,hE12,h12.congr fun i j _ _=>by simp⟩,?_⟩
  rintro i16 W17 ⟨l,rfl,hl,hE17,h17⟩
  refine⟨fun hlt2=>?_,fun hge2=>⟨by unfold I64;omega,⟨k+1,by push_cast;rfl,by omega,hE17,h17.congr fun a b ha hb=>?_⟩,?_⟩⟩
  ·have hlc:l<c 0:=by omega
   have e17:=e2.new hE17 hle
   obtain⟨s18,b19,s20,g1,g2⟩:=e17.at (i:=l) (by omega)
   obtain⟨z,z1,z2⟩:=h17.mat.at (i:=l) hlc
   refine⟨e17.inB (by omega) (by omega),s18,b19,s20,g1,h17.mat.inB (by omega) (by omega),z,z1,z2.inB (by omega) (by omega),?_⟩
   refine h17.store (j:=k) z1 hlc hkr g2 (by decide) (by decide) (fun g hg=>.inr (Nat.le_trans h01 hg)) fun W22 hp h22=>⟨by unfold I64;omega,⟨l+1,by push_cast;rfl,by omega,hE17.trans (hp.extN fun g hg=>hg),h22.congr fun a b ha hb=>?_⟩,?_⟩
   ·unfold setM
    by_cases e:a=l∧b=k
    ·rw[if_pos e,if_pos (by omega),e.1,e.2]
    ·rw[if_neg e]
     dsimp only
     by_cases e':b<k∨(b=k∧a<l)
     ·rw[if_pos e',if_pos (by omega)]
     ·rw[if_neg e',if_neg (by omega)]
   ·show c 0-Int.toNat ((l:Int)+1)<c 0-Int.toNat (l:Int)
    omega
  ·by_cases e':b<k∨(b=k∧a<l)
   ·rw[if_pos e',if_pos (by omega)]
   ·rw[if_neg e',if_neg (by omega)]
  ·show r-Int.toNat ((k:Int)+1)<r-Int.toNat (k:Int)
   omega
 ·refine((h12.ext hE23).mono fun g hg=>Nat.le_trans (hn.ext hE2) (Nat.le_trans hle hg)).congr fun a b ha hb=>?_
  rw[if_pos (by omega)]
theorem matTurn_call {W0 W:PW} {M:Nat→Prop} {n0 r:Nat} {s:Sl} {c:Nat→Nat} {m:Nat→Nat→Rat} {K:Value→PW→Prop} (hn:NewFrom n0 W) (h:IsMat 260 62 119 W s r c m) (hr:r≤1099511627776) (kont: ∀(s':Sl) (b:Bool) (W':PW),Ext W W'→(((b=true↔RightP r c)∧(RightP r c→OMat 260 62 119 (n0≤·) W' s' (c 0) r (fun i j=>m j i))))→K (.tuple #[Sl.v s',.bool b]) W'):
  callN Go.Proofs.Tryz.prog W0 M 22 [s.v] W K:=
 callN_of (fun W' hE=>matTurn_ok (M:=fun _=>False) (hn.ext hE) (h.ext hE) hr) (fun W' v W'' hE hE' hP=>by
  obtain⟨s',b,rfl,h⟩:=hP
  exact kont s' b W'' (hE.trans hE') h)
end Go.Proofs.YtjgpenfndnhdnaaGreat
