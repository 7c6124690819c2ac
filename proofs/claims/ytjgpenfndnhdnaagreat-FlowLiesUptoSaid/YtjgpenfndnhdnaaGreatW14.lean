/- cinctureref1.PolyParse, poly.Parse, book.Terms, law8.Of. -/
import Derived.Test.YtjgpenfndnhdnaaGreatW13
import Derived.Test.YtjgpenfndnhdnaaGreatLib3
import Derived.Test.YtjgpenfndnhdnaaGreatW12
import Derived.Test.YtjgpenfndnhdnaaGreatR16
set_option linter.unusedVariables false
set_option linter.unusedSimpArgs false
set_option maxRecDepth 100000
set_option linter.unusedVariables false
set_option linter.unusedSimpArgs false
namespace Go.Proofs.YtjgpenfndnhdnaaGreat
open Go Go.SX
def ppI (C:PW→List Value→Tm→Prop) (W0:PW) (L:List (Mon×ByteArray)) (l:List PL) (W:PW):Prop:=match l with
 | [.row xs,.val (.int .i64 i)]=>∃(j:Nat) (p:List Tm),i=(j:Int)∧j≤L.length∧Ext W0 W∧All2 (C W) xs p∧PParse (L.take j) p
 | _=>False
theorem cmp_ge {a b:Mon} (h:0≤a.cmp b):¬a.lt b:=fun hl=>by
 have:=Mon.cmp_neg.2 hl
 omega
theorem cmp_lt' {a b:Mon} (h:¬0≤a.cmp b):a.lt b:=Mon.cmp_neg.1 (by omega)
theorem refPolyParse_ok {W0:PW} {M:Nat→Prop} {s:Sl} {L:List (Mon×ByteArray)} (h:IsAPoly W0 s L) (hl:L.length≤1099511627776) (hz: ∀t∈L,t.2.size≤1099511627776):
  PCallsM Go.Proofs.Tryz.prog 55 [s.v] W0 M fun v W'=>∃(s':Sl),v = .tuple ⟨[Sl.v s',.bool (parseP L).isSome]⟩∧IsRPoly 260 142 W' s' ((parseP L).getD []):=by
 apply callref1_PolyParse
 have hn:=h.n
 have bad:parseP L=none→∀W':PW,∃s':Sl,(Value.tuple ⟨[.slice none 0 0,.bool false]⟩) = .tuple ⟨[Sl.v s',.bool (parseP L).isSome]⟩∧IsRPoly 260 142 W' s' ((parseP L).getD []):=fun h W'=>by
  rw[h]
  exact⟨⟨none,0,0⟩,rfl,IsRPoly.nil W'⟩
 refine⟨ppI (RT 260) W0 L,cnL L.length,⟨0,[],rfl,by omega,Ext.refl _,trivial,PParse.nil⟩,?_⟩
 rintro l3 i4 W5 ⟨j,p,rfl,hj,hE5,ha,hp⟩
 have hal:=ha.len
 have hpl:=hp.len
 rw[List.length_take] at hpl
 refine⟨fun hlt=>?_,fun hge s34 W35 hE35 hO _ W36 hE36=>⟨s34,?_,?_⟩⟩
 ·have hjl:j<L.length:=by omega
  have hL:=h.ext hE5
  have hib:=hL.inB (i:=(j:Int)) (by omega) (by omega)
  obtain⟨h0,_,_,e3⟩:=hL.at (List.getElem?_eq_getElem hjl)
  refine⟨hib,_,e3,refRatParse_call (hz _ (List.getElem_mem hjl)) fun b9 s10 s11 W8 hE8 h8=>⟨b9,s10,s11,_,rfl,fun hno W13 _=>bad (PParse.bad hjl fun q hq _=>by rw[hq] at hno;cases hno) _,fun hyes=>?_⟩⟩
  obtain⟨q,hq⟩: ∃q,parseQ L[j].2=some q:=Option.isSome_iff_exists.1 (by simpa using hyes)
  rw[hq] at h8
  have h8:IsRefQ 260 W8 b9 s10 s11 q:=h8
  refine refSign_call h8.1 fun W15 hE15 _=>⟨_,rfl,fun h0' W17 _=>bad (PParse.bad hjl fun q' hq' hne=>by rw[hq] at hq';cases hq';exact absurd (num_zero.1 (sgn_zero.1 h0')) hne) _,fun hne=>?_⟩
  have hq0:q≠0:=fun e=>hne (sgn_zero.2 (num_zero.2 e))
  have hE:=hE8.trans hE15
  have hmu:L.length-Int.toNat ((j:Int)+1)<L.length-Int.toNat (j:Int):=by omega
  have hL15:=hL.ext hE
  obtain⟨_,_,e2,_⟩:=hL15.at (List.getElem?_eq_getElem hjl)
  refine⟨fun hj0=>?_,fun hj0=>⟨hib,_,_,_,e2,Ext.refl _,by simp;omega,Ext.refl _,by unfold I64;omega,⟨j+1,_,by push_cast;rfl,by omega,hE5.trans hE,(ha.mono fun _ _ h=>h.ext hE).snoc ⟨h0,b9,s10,s11,rfl,h8.ext hE15⟩,hp.snoc hjl hq hq0 fun k hk=>absurd hk (by omega)⟩,hmu⟩⟩
  have hj1:(((j:Int)-1).toNat)=j-1:=by omega
  have hjm:j-1<L.length:=by omega
  obtain⟨hm0,_,em,_⟩:=hL15.at (List.getElem?_eq_getElem hjm)
  refine⟨by unfold I64;omega,hL.inB (by omega) (by omega),_,_,_,by rw[hj1];exact em,hib,_,_,_,e2,refMonoCmp_call hm0 h0 fun W25 hE25 _=>⟨_,rfl,fun hge W27 _=>bad (PParse.bad hjl fun _ _ _=>⟨j-1,by omega,cmp_ge hge⟩) _,fun hlt=>?_⟩⟩
  obtain⟨_,_,e2',_⟩:=(hL15.ext hE25).at (List.getElem?_eq_getElem hjl)
  refine⟨hib,_,_,_,e2',Ext.refl _,by simp;omega,Ext.refl _,by unfold I64;omega,⟨j+1,_,by push_cast;rfl,by omega,hE5.trans (hE.trans hE25),(ha.mono fun _ _ h=>h.ext (hE.trans hE25)).snoc ⟨h0,b9,s10,s11,rfl,h8.ext (hE15.trans hE25)⟩,hp.snoc hjl hq hq0 fun k hk=>?_⟩,hmu⟩
  have:k=j-1:=by omega
  subst this
  exact cmp_lt' hlt
 ·have:j=L.length:=by omega
  subst this
  rw[hp.all];rfl
 ·have:j=L.length:=by omega
  subst this
  rw[hp.all]
  exact⟨_,(hO.ext hE36).row,ha.mono fun _ _ h=>h.ext (hE35.trans hE36)⟩
theorem refPolyParse_call {W0 W:PW} {M:Nat→Prop} {s:Sl} {L:List (Mon×ByteArray)} {K:Value→PW→Prop} (h:IsAPoly W s L) (hl:L.length≤1099511627776) (hz: ∀t∈L,t.2.size≤1099511627776) (kont: ∀(s':Sl) (W':PW),Ext W W'→(IsRPoly 260 142 W' s' ((parseP L).getD []))→K (.tuple ⟨[Sl.v s',.bool (parseP L).isSome]⟩) W'):
  callN Go.Proofs.Tryz.prog W0 M 55 [s.v] W K:=
 callN_of (fun W' hE=>refPolyParse_ok (M:=fun _=>False) (h.ext hE) hl hz) (fun W' v W'' hE hE' hP=>by
  obtain⟨s',rfl,h⟩:=hP
  exact kont s' W'' (hE.trans hE') h)
noncomputable def erP (L:List (Mon×ByteArray)):Int:=if(parseP L).isSome then 0 else 2
def paI (n0:Nat) (W0:PW) (L:List (Mon×ByteArray)) (l:List PL) (W:PW):Prop:=match l with
 | [.val (.int .i64 i),_,.cells [.slice A n c]]=>∃(j:Nat) (xs:List (List Value)) (p:List Tm),i=(j:Int)∧j≤L.length∧ExtN n0 W0 W∧Go.SX.Own W 136 6 ⟨A,n,c⟩ xs∧(∀g,(Value.slice A n c).ownBlock=some g→n0≤g)∧All2 (PT 260 W) xs p∧PParse (L.take j) p
 | _=>False
theorem own_nil {W:PW} {t:TypeId} {sz:Nat} :Go.SX.Own W t sz ⟨none,0,0⟩ []:=⟨⟨by simp,by simp,.inl ⟨rfl,rfl⟩⟩,fun g hg=>by simp[Sl.v,Value.ownBlock] at hg⟩
theorem polyParse_ok {W0:PW} {M:Nat→Prop} {s:Sl} {L:List (Mon×ByteArray)} (h:IsAPoly W0 s L) (hl:L.length≤1099511627776) (hz: ∀t∈L,t.2.size≤1099511627776):
  PCallsM Go.Proofs.Tryz.prog 57 [s.v] W0 M fun v W'=>∃(s':Sl),v = .tuple ⟨[.agg ⟨[Sl.v s']⟩,.int .i64 (erP L)]⟩∧IsPoly 260 136 W' s' ((parseP L).getD []):=by
 apply callpoly_Parse
 have hn:=h.n
 have bad:parseP L=none→∀W':PW,∃s':Sl,(Value.tuple ⟨[.agg ⟨[.slice none 0 0]⟩,.int .i64 2]⟩) = .tuple ⟨[.agg ⟨[Sl.v s']⟩,.int .i64 (erP L)]⟩∧IsPoly 260 136 W' s' ((parseP L).getD []):=fun h W'=>by
  unfold erP
  rw[h]
  exact⟨⟨none,0,0⟩,rfl,IsPoly.nil W'⟩
 refine⟨paI W0.w.heap.size W0 L,fun l _=>match l with | [.val (.int .i64 i),_,_]=>L.length-i.toNat | _=>0,⟨0,[],[],rfl,by omega,ExtM.refl _ _,own_nil,fun g hg=>by simp[Value.ownBlock] at hg,trivial,PParse.nil⟩,?_⟩
 rintro s3 s4 i5 W6 ⟨j,xs,p,rfl,hj,hEN,hO,hfr,ha,hp⟩
 have hO:Go.SX.Own W6 136 6 s4 xs:=hO
 have hfr: ∀g,s4.v.ownBlock=some g→W0.w.heap.size≤g:=hfr
 have hal:=ha.len
 have hpl:=hp.len
 rw[List.length_take] at hpl
 refine⟨fun hlt=>?_,fun hge W33 hE33=>⟨s4,?_,?_⟩⟩
 ·have hjl:j<L.length:=by omega
  have hL:=h.new hEN (Nat.le_refl _)
  have hib:=hL.inB (i:=(j:Int)) (by omega) (by omega)
  obtain⟨h0,e1,_,_⟩:=hL.at (List.getElem?_eq_getElem hjl)
  refine⟨hib,_,_,_,_,e1,ratParse_call (hz _ (List.getElem_mem hjl)) fun s13 b14 s15 W12 hE12 h12=>⟨s13,b14,s15,_,rfl,fun hno W17 _=>bad (PParse.bad hjl fun q hq _=>by rw[hq] at hno;exact absurd rfl hno) _,fun hyes=>?_⟩⟩
  obtain⟨q,hq⟩: ∃q,parseQ L[j].2=some q:=by
   cases hq:parseQ L[j].2 with
   | none=>rw[hq] at hyes;exact absurd (by decide) hyes
   | some q=>exact⟨q,rfl⟩
  rw[hq] at h12
  have h12:IsRat 260 W12 s13 b14 s15 q:=h12
  refine ratSign_call h12 (parseQ_sz hq).1 (by omega) fun W19 hE19 _=>⟨_,rfl,fun h0' W21 _=>bad (PParse.bad hjl fun q' hq' hne=>by rw[hq] at hq';cases hq';exact absurd ((cmpQ_zero _ _).1 h0') hne) _,fun hne=>?_⟩
  have hq0:q≠0:=fun e=>hne ((cmpQ_zero _ _).2 e)
  have hE:=hE12.trans hE19
  have hmu:L.length-Int.toNat ((j:Int)+1)<L.length-Int.toNat (j:Int):=by omega
  have hL19:=hL.ext hE
  have fin: ∀W,Ext W19 W→(∀k (hk:k+1=j),(L[k]'(by omega)).1.lt L[j].1)→appN W0 M 136 6 64 s4 [[.int .u8 L[j].1.x,.int .u8 L[j].1.y,.int .u8 L[j].1.z,s13.v,.bool b14,s15.v]] W fun s29 W30=>I64 ((j:Int)+1)∧paI W0.w.heap.size W0 L [.val (.int .i64 ((j:Int)+1)),.cells [s3.v],.cells [s29.v]] W30∧L.length-Int.toNat ((j:Int)+1)<L.length-Int.toNat (j:Int):=by
   intro W hEW hlt W' hE'
   have hE2:=(hE.trans hEW).trans hE'
   have hO':=hO.ext hE2
   refine⟨xs,hO',fun g hg=>.inr (hfr g hg),by simp;omega,fun s' W'' hX hO'' hob=>⟨by unfold I64;omega,⟨j+1,_,p ++ [(L[j].1,q)],by push_cast;rfl,by omega,(hEN.trans (hE2.toM _)).trans (hX.mono fun g hg=>hfr g hg),hO'',fun g hg=>?_,?_,hp.snoc hjl hq hq0 hlt⟩,hmu⟩⟩
   ·rcases hob g hg with h | h
    ·exact hfr g h
    ·exact Nat.le_trans (Nat.le_trans hEN.size hE2.size) h
   ·exact((ha.mono fun _ _ h=>PT.own hO' hX (by decide:260≠136) (h.ext hE2))).snoc ⟨h0,s13,b14,s15,rfl,IsRat.own hO' hX (by decide:260≠136) (h12.ext ((hE19.trans hEW).trans hE'))⟩
  refine⟨fun hj0=>?_,fun hj0=>fin W19 (Ext.refl _) fun k hk=>absurd hk (by omega)⟩
  have hj1:(((j:Int)-1).toNat)=j-1:=by omega
  have hjm:j-1<L.length:=by omega
  obtain⟨hm0,_,em,_⟩:=hL19.at (List.getElem?_eq_getElem hjm)
  refine⟨by unfold I64;omega,hL.inB (by omega) (by omega),_,_,_,by rw[hj1];exact em,monoCmp_call hm0 h0 fun W26 hE26 _=>⟨_,rfl,fun hge W28 _=>bad (PParse.bad hjl fun _ _ _=>⟨j-1,by omega,cmp_ge hge⟩) _,fun hlt=>fin W26 hE26 fun k hk=>?_⟩⟩
  have:k=j-1:=by omega
  subst this
  exact cmp_lt' hlt
 ·have:j=L.length:=by omega
  subst this
  unfold erP
  rw[hp.all];rfl
 ·have:j=L.length:=by omega
  subst this
  rw[hp.all]
  exact⟨_,(hO.ext hE33).row,ha.mono fun _ _ h=>h.ext hE33⟩
theorem polyParse_call {W0 W:PW} {M:Nat→Prop} {s:Sl} {L:List (Mon×ByteArray)} {K:Value→PW→Prop} (h:IsAPoly W s L) (hl:L.length≤1099511627776) (hz: ∀t∈L,t.2.size≤1099511627776) (kont: ∀(s':Sl) (W':PW),Ext W W'→(IsPoly 260 136 W' s' ((parseP L).getD []))→K (.tuple ⟨[.agg ⟨[Sl.v s']⟩,.int .i64 (erP L)]⟩) W'):
  callN Go.Proofs.Tryz.prog W0 M 57 [s.v] W K:=
 callN_of (fun W' hE=>polyParse_ok (M:=fun _=>False) (h.ext hE) hl hz) (fun W' v W'' hE hE' hP=>by
  obtain⟨s',rfl,h⟩:=hP
  exact kont s' W'' (hE.trans hE') h)
def TermsOK (L:List (Mon×ByteArray)) (most exp:Int):Prop:=(L.length:Int)≤most∧∀t∈L,t.2.size≤30∧t.1.x≤exp∧t.1.y≤exp∧t.1.z≤exp
theorem bookTerms_ok {W0:PW} {M:Nat→Prop} {s:Sl} {L:List (Mon×ByteArray)} {most exp:Int} (h:IsAPoly W0 s L) (hl:L.length≤1099511627776):
  PCallsM Go.Proofs.Tryz.prog 56 [s.v,.int .i64 most,.int .i64 exp] W0 M fun v W'=>∃(b:Bool),v = .bool b∧(b=true↔TermsOK L most exp):=by
 apply callbook_Terms
 have hn:=h.n
 have bad:¬TermsOK L most exp→∃b:Bool,(Value.bool false) = .bool b∧(b=true↔TermsOK L most exp):=fun h=>⟨false,rfl,fun e=>(by cases e),fun hp=>absurd hp h⟩
 refine⟨fun hgt W1 _=>bad fun hp=>by have:=hp.1;omega,fun hle=>⟨fun l W=>match l with | [.val (.int .i64 i)]=>Ext W0 W∧∃j:Nat,i=(j:Int)∧j≤L.length∧∀t∈L.take j,t.2.size≤30∧t.1.x≤exp∧t.1.y≤exp∧t.1.z≤exp | _=>False,fun l _=>match l with | [.val (.int .i64 i)]=>L.length-i.toNat | _=>0,⟨Ext.refl _,0,rfl,by omega,fun t ht=>by simp at ht⟩,?_⟩⟩
 rintro i4 W5 ⟨hE,j,rfl,hj,hpre⟩
 refine⟨fun hlt=>?_,fun hge W14 _=>⟨true,rfl,fun _=>⟨by omega,fun t ht=>?_⟩,fun _=>rfl⟩⟩
 ·have hjl:j<L.length:=by omega
  have hL:=h.ext hE
  have hib:=hL.inB (i:=(j:Int)) (by omega) (by omega)
  have hm:=List.getElem_mem hjl
  obtain⟨xs,⟨_,hr⟩,ha⟩:=hL
  obtain⟨x,hx,h0,rfl⟩:=ha.get (List.getElem?_eq_getElem hjl)
  unfold Mon.ok at h0
  refine⟨hib,_,hr.part hx 3 rfl,fun hb W7 _=>bad fun hp=>by have:=hp.2 _ hm;omega,fun hb=>⟨hib,⟨by omega,by omega⟩,_,hr.part hx 0 rfl,by unfold I64;omega,fun hc W9 _=>bad fun hp=>by have:=hp.2 _ hm;omega,fun hc=>⟨hib,⟨by omega,by omega⟩,_,hr.part hx 1 rfl,by unfold I64;omega,fun hd W11 _=>bad fun hp=>by have:=hp.2 _ hm;omega,fun hd=>⟨hib,⟨by omega,by omega⟩,_,hr.part hx 2 rfl,by unfold I64;omega,fun he W13 _=>bad fun hp=>by have:=hp.2 _ hm;omega,fun he=>⟨by unfold I64;omega,⟨hE,j+1,by push_cast;rfl,by omega,fun t ht=>?_⟩,?_⟩⟩⟩⟩⟩
  ·rw[take_snocR hjl] at ht
   rcases List.mem_append.1 ht with ht | ht
   ·exact hpre t ht
   ·simp at ht
    subst ht
    exact⟨by omega,by omega,by omega,by omega⟩
  ·show L.length-Int.toNat ((j:Int)+1)<L.length-Int.toNat (j:Int)
   omega
 ·have:j=L.length:=by omega
  subst this
  rw[List.take_length] at hpre
  exact hpre t ht
theorem bookTerms_call {W0 W:PW} {M:Nat→Prop} {s:Sl} {L:List (Mon×ByteArray)} {most exp:Int} {K:Value→PW→Prop} (h:IsAPoly W s L) (hl:L.length≤1099511627776) (kont: ∀(b:Bool) (W':PW),Ext W W'→((b=true↔TermsOK L most exp))→K (.bool b) W'):
  callN Go.Proofs.Tryz.prog W0 M 56 [s.v,.int .i64 most,.int .i64 exp] W K:=
 callN_of (fun W' hE=>bookTerms_ok (M:=fun _=>False) (h.ext hE) hl) (fun W' v W'' hE hE' hP=>by
  obtain⟨b,rfl,h⟩:=hP
  exact kont b W'' (hE.trans hE') h)
def OfOK (L:List (Mon×ByteArray)) (exp:Int) (p:List Tm):Prop:=PParse L p∧TermsOK L 14 exp
theorem law8Of_ok {W0:PW} {M:Nat→Prop} {s:Sl} {L:List (Mon×ByteArray)} {exp:Int} (h:IsAPoly W0 s L) (hl:L.length≤1099511627776) (hz: ∀t∈L,t.2.size≤1099511627776):
  PCallsM Go.Proofs.Tryz.prog 15 [s.v,.int .i64 exp] W0 M fun v W'=>∃(s1:Sl),∃(s2:Sl),∃(b:Bool),v = .tuple ⟨[.agg ⟨[Sl.v s1]⟩,Sl.v s2,.bool b]⟩∧(b=true→∃p,OfOK L exp p∧IsPoly 260 136 W' s1 p∧IsRPoly 260 142 W' s2 p):=by
 apply calllaw8_Of
 have bad: ∀W':PW,∃(s1 s2:Sl) (b:Bool),(Value.tuple ⟨[.agg ⟨[.slice none 0 0]⟩,.slice none 0 0,.bool false]⟩) = .tuple ⟨[.agg ⟨[Sl.v s1]⟩,Sl.v s2,.bool b]⟩∧(b=true→∃p,OfOK L exp p∧IsPoly 260 136 W' s1 p∧IsRPoly 260 142 W' s2 p):=fun W'=>⟨⟨none,0,0⟩,⟨none,0,0⟩,false,rfl,fun e=>by cases e⟩
 refine refPolyParse_call h hl hz fun s3 W2 hE2 h2=>⟨s3,_,rfl,fun _ W5 _=>bad W5,fun hyes=>bookTerms_call (h.ext hE2) hl fun b8 W7 hE7 hb=>⟨b8,rfl,fun _ W9 _=>bad W9,fun hb8=>polyParse_call (h.ext (hE2.trans hE7)) hl hz fun s12 W11 hE11 h11=>⟨s12,_,rfl,fun W14 hE14=>⟨s12,s3,true,rfl,fun _=>?_⟩⟩⟩⟩
 obtain⟨p,hp⟩: ∃p,parseP L=some p:=Option.isSome_iff_exists.1 (by simpa using hyes)
 rw[hp] at h2 h11
 exact⟨p,⟨parseP_is hp,hb.1 (by simpa using hb8)⟩,h11.ext hE14,h2.ext ((hE7.trans hE11).trans hE14)⟩
theorem law8Of_call {W0 W:PW} {M:Nat→Prop} {s:Sl} {L:List (Mon×ByteArray)} {exp:Int} {K:Value→PW→Prop} (h:IsAPoly W s L) (hl:L.length≤1099511627776) (hz: ∀t∈L,t.2.size≤1099511627776) (kont: ∀(s1:Sl) (s2:Sl) (b:Bool) (W':PW),Ext W W'→((b=true→∃p,OfOK L exp p∧IsPoly 260 136 W' s1 p∧IsRPoly 260 142 W' s2 p))→K (.tuple ⟨[.agg ⟨[Sl.v s1]⟩,Sl.v s2,.bool b]⟩) W'):
  callN Go.Proofs.Tryz.prog W0 M 15 [s.v,.int .i64 exp] W K:=
 callN_of (fun W' hE=>law8Of_ok (M:=fun _=>False) (h.ext hE) hl hz) (fun W' v W'' hE hE' hP=>by
  obtain⟨s1,s2,b,rfl,h⟩:=hP
  exact kont s1 s2 b W'' (hE.trans hE') h)
theorem OfOK.len {L:List (Mon×ByteArray)} {exp:Int} {p:List Tm} (h:OfOK L exp p):p.length≤14:=by
 have h1:=h.1.len
 have h2:=h.2.1
 omega
theorem OfOK.bd {L:List (Mon×ByteArray)} {exp:Int} {p:List Tm} (h:OfOK L exp p):Bd 56029 p:=by
 have:=h.len
 exact(Bd.of_sz h.1.sz).mono (by omega)
end Go.Proofs.YtjgpenfndnhdnaaGreat

/- Exponents up to a bound; products that fit. -/
set_option linter.unusedVariables false
set_option linter.unusedSimpArgs false
namespace Go.Proofs.YtjgpenfndnhdnaaGreat
open Go Go.SX
theorem mulP_of {p q:List Tm} (h:MulOK p q):mulP p q=pnorm (ppairs p q):=by unfold mulP;rw[if_pos h]
end Go.Proofs.YtjgpenfndnhdnaaGreat

/- poly.Diff, cinctureref1.Diff; cincturelaw8.PolyDiffs. -/
set_option maxRecDepth 100000
set_option linter.unusedVariables false
set_option linter.unusedSimpArgs false
namespace Go.Proofs.YtjgpenfndnhdnaaGreat
open Go Go.SX
def decM (m:Mon) (k:Nat):Mon:=if k=0 then⟨m.x-1,m.y,m.z⟩ else if k=1 then⟨m.x,m.y-1,m.z⟩ else⟨m.x,m.y,m.z-1⟩
def dterm (k:Nat) (t:Tm):List Tm:=if 0<eget t.1 k then[(decM t.1 k,t.2*((eget t.1 k:Int):Rat))] else[]
def dlist (p:List Tm) (k:Nat):List Tm:=p.flatMap (dterm k)
def diffP (p:List Tm) (i:Int):List Tm:=if 0≤i∧i<3 then pnorm (dlist p i.toNat) else[]
theorem dlist_snoc {p:List Tm} {j:Nat} (hj:j<p.length) (k:Nat):dlist (p.take (j+1)) k=dlist (p.take j) k ++ dterm k p[j]:=by
 rw[take_snocR hj]
 unfold dlist
 rw[List.flatMap_append]
 rw[show List.flatMap (dterm k) [p[j]]=dterm k p[j] from by simp[List.flatMap]]
theorem dterm_len (k:Nat) (t:Tm):(dterm k t).length≤1:=by
 unfold dterm
 split<;>simp
theorem dlist_len (p:List Tm) (k:Nat):(dlist p k).length≤p.length:=by
 induction p with
 | nil=>simp[dlist]
 | cons t r ih=>
  have e:dlist (t :: r) k=dterm k t ++ dlist r k:=rfl
  have:=dterm_len k t
  rw[e]
  simp only[List.length_append,List.length_cons]
  omega
theorem decM_ok {m:Mon} {k:Nat} (h:m.ok) (hk:k<3) (hp:0<eget m k):(decM m k).ok:=by
 unfold Mon.ok at h
 unfold eget at hp
 unfold decM
 rcases(by omega:k=0∨k=1∨k=2) with rfl | rfl | rfl
 ·simp at hp;exact⟨⟨by show 0≤m.x-1;omega,by show m.x-1≤255;omega⟩,h.2.1,h.2.2⟩
 ·simp at hp;exact⟨h.1,⟨by show 0≤m.y-1;omega,by show m.y-1≤255;omega⟩,h.2.2⟩
 ·simp at hp;exact⟨h.1,h.2.1,by show 0≤m.z-1;omega,by show m.z-1≤255;omega⟩
theorem dlist_bd {l:Nat} {p:List Tm} (h:Bd l p) (ho:POk p) (k:Nat):Bd (l+1) (dlist p k):=by
 obtain⟨D,N,h1,h2,h3,h4⟩:=h
 have key: ∀{p:List Tm} {N:Nat},Fit D N p→POk p→Fit D (N*255) (dlist p k):=by
  intro p
  induction p with
  | nil=>intro N _ _;trivial
  | cons t r ih=>
   rintro N ⟨a,b,g1,g2,g3⟩ ho
   have e:dlist (t :: r) k=dterm k t ++ dlist r k:=rfl
   rw[e]
   have hr:=ih g3 fun x hx=>ho x (by simp[hx])
   have ht:Fit D (a*255) (dterm k t):=by
    unfold dterm
    split
    ·have hk:=eget_ok (ho t (by simp)) k
     have h5:FitQ 1 255 ((eget t.1 k:Int):Rat):=(FitQ.int (eget t.1 k)).mono (by omega)
     have h6:=g2.mul h5
     rw[Nat.mul_one] at h6
     exact⟨a*255,0,by omega,h6,trivial⟩
    ·trivial
   have:=ht.append hr
   rw[←Nat.add_mul] at this
   exact this.mono (Nat.mul_le_mul_right _ g1)
 have h5:=nl_mul N 255
 have h6:nl 255≤1:=nl_le (by decide)
 exact⟨D,N*255,key h1 ho,h2,by omega,by omega⟩
theorem boxAt6 (m:Mon) {k:Nat} (hk:k<3) (r:List Value):BoxAt (.int .u8 m.x :: .int .u8 m.y :: .int .u8 m.z :: r) (0+Int.toNat (k:Int)*1+0) [.int .u8 (eget m k)]:=by
 rcases(by omega:k=0∨k=1∨k=2) with rfl | rfl | rfl<;>exact⟨by simp,rfl⟩
theorem polyDiff_ok {W0:PW} {M:Nat→Prop} {s:Sl} {p:List Tm} {i:Int} {l:Nat} (h:IsPoly 260 136 W0 s p) (hB:Bd l p) (hl:l≤268435456) (hp:p.length≤1073741824):
  PCallsM Go.Proofs.Tryz.prog 129 [.agg ⟨[s.v]⟩,.int .i64 i] W0 M fun v W'=>∃(s':Sl),v = .agg ⟨[Sl.v s']⟩∧IsPoly 260 136 W' s' (diffP p i):=by
 apply callpoly_Diff
 have hn:=h.n
 refine⟨fun h0 W1 _=>⟨⟨none,0,0⟩,rfl,?_⟩,fun h0=>⟨fun h3 W2 _=>⟨⟨none,0,0⟩,rfl,?_⟩,fun h3=>?_⟩⟩
 ·unfold diffP;rw[if_neg (by omega)];exact IsPoly.nil W1
 ·unfold diffP;rw[if_neg (by omega)];exact IsPoly.nil W2
 obtain⟨k,rfl⟩:=Int.eq_ofNat_of_zero_le (by omega:0≤i)
 have hk3:k<3:=by omega
 have hkr:(0:Int)≤(k:Int)∧(k:Int)<3:=⟨by omega,by omega⟩
 refine⟨fun L W=>match L with
  | [.row xs,.val (.int .i64 i)]=>∃j:Nat,i=(j:Int)∧j≤p.length∧Ext W0 W∧All2 (PT 260 W) xs (dlist (p.take j) k)
  | _=>False,cnL p.length,⟨0,rfl,by omega,Ext.refl _,trivial⟩,?_⟩
 rintro l5 i6 W7 ⟨j,rfl,hj,hE7,ha⟩
 have hal:=ha.len
 have hdl:=dlist_len (p.take j) k
 rw[List.length_take] at hdl
 refine⟨fun hlt=>?_,fun hge s46 W47 hE47 hO _=>?_⟩
 ·have hjl:j<p.length:=by omega
  have hP:=h.ext hE7
  obtain⟨h0',s1,b1,s2,e1,_,_,hr⟩:=hP.at (List.getElem?_eq_getElem hjl)
  have hek:=eget_ok h0' k
  have hmu:p.length-Int.toNat ((j:Int)+1)<p.length-Int.toNat (j:Int):=by omega
  have hbx:=boxAt6 p[j].1 hk3 [s1.v,.bool b1,s2.v]
  have hw:IntKind.wrap .u8 (eget p[j].1 k-1)=eget p[j].1 k-1∨¬0<eget p[j].1 k:=by
   by_cases h:0<eget p[j].1 k
   ·exact .inl (wrap8 (by omega) (by omega))
   ·exact .inr h
  refine⟨hP.inB (by omega) (by omega),_,_,_,s1,b1,s2,e1,hkr,_,hbx,fun hpos=>⟨hkr,_,hbx,hkr,by omega,⟨⟨trivial,fun e=>?_⟩,fun e=>?_⟩,fun e=>?_⟩,fun hz=>⟨by unfold I64;omega,⟨j+1,by push_cast;rfl,by omega,hE7,?_⟩,hmu⟩⟩
  case refine_4=>
   rw[dlist_snoc hjl]
   unfold dterm
   rw[if_neg hz,List.append_nil]
   exact ha
  all_goals
   have hw':IntKind.wrap .u8 (eget p[j].1 k-1)=eget p[j].1 k-1:=hw.resolve_right (fun h=>h hpos)
   have hok:=decM_ok h0' hk3 hpos
   have hdt:dterm k p[j] = [(decM p[j].1 k,p[j].2*((eget p[j].1 k:Int):Rat))]:=by unfold dterm;rw[if_pos hpos]
   have e':k=_:=e
   subst e'
   refine⟨by unfold I64;omega,ratOf_call (z:=eget p[j].1 _) (by unfold I64;omega) fun s18 b19 s20 W17 hE17 h17=>⟨s18,b19,s20,rfl,ratMul_call (hr.ext hE17) h17 (hB.sz _ (List.getElem_mem hjl)) ((FitQ.int _).sz (by decide) (k:=l+1) (by rw[nl_one];omega) (Nat.le_trans (nl_mono (by omega:_≤255)) (Nat.le_trans (nl_le (by decide:255<B^1)) (by omega)))) (by omega) (by omega) fun s23 b24 s25 W22 hE22 h22=>⟨s23,b24,s25,rfl,by simp;omega,by unfold I64;omega,⟨j+1,by push_cast;rfl,by omega,hE7.trans (hE17.trans hE22),?_⟩,hmu⟩⟩⟩
   rw[dlist_snoc hjl,hdt]
   refine(ha.mono fun _ _ h=>h.ext (hE17.trans hE22)).snoc ⟨hok,s23,b24,s25,?_,h22⟩
   rw[hw']
   rfl
 ·have:j=p.length:=by omega
  subst this
  rw[List.take_length] at ha
  have hdl:=dlist_len p k
  refine polyNew_call (isPoly_of hO.row (ha.mono fun _ _ h=>h.ext hE47)) (dlist_bd hB h.ok k) (by omega) (by omega) fun s' W49 hE49 hp'=>⟨s',rfl,fun W51 hE51=>⟨s',rfl,?_⟩⟩
  unfold diffP
  rw[if_pos hkr]
  exact hp'.ext hE51
theorem polyDiff_call {W0 W:PW} {M:Nat→Prop} {s:Sl} {p:List Tm} {i:Int} {l:Nat} {K:Value→PW→Prop} (h:IsPoly 260 136 W s p) (hB:Bd l p) (hl:l≤268435456) (hp:p.length≤1073741824) (kont: ∀(s':Sl) (W':PW),Ext W W'→(IsPoly 260 136 W' s' (diffP p i))→K (.agg ⟨[Sl.v s']⟩) W'):
  callN Go.Proofs.Tryz.prog W0 M 129 [.agg ⟨[s.v]⟩,.int .i64 i] W K:=
 callN_of (fun W' hE=>polyDiff_ok (M:=fun _=>False) (h.ext hE) hB hl hp) (fun W' v W'' hE hE' hP=>by
  obtain⟨s',rfl,h⟩:=hP
  exact kont s' W'' (hE.trans hE') h)
theorem refDiff_ok {W0:PW} {M:Nat→Prop} {s:Sl} {p:List Tm} {i:Int} {l:Nat} (h:IsRPoly 260 142 W0 s p) (hB:Bd l p) (hl:l≤50000000) (hp:p.length≤1073741824):
  PCallsM Go.Proofs.Tryz.prog 88 [s.v,.int .i64 i] W0 M fun v W'=>∃(s':Sl),v=Sl.v s'∧IsRPoly 260 142 W' s' (diffP p i):=by
 apply callref1_Diff
 have hn:=h.n
 refine⟨fun h0 W1 _=>⟨⟨none,0,0⟩,rfl,?_⟩,fun h0=>⟨fun h3 W2 _=>⟨⟨none,0,0⟩,rfl,?_⟩,fun h3=>?_⟩⟩
 ·unfold diffP;rw[if_neg (by omega)];exact IsRPoly.nil W1
 ·unfold diffP;rw[if_neg (by omega)];exact IsRPoly.nil W2
 obtain⟨k,rfl⟩:=Int.eq_ofNat_of_zero_le (by omega:0≤i)
 have hk3:k<3:=by omega
 have hkr:(0:Int)≤(k:Int)∧(k:Int)<3:=⟨by omega,by omega⟩
 refine⟨fun L W=>match L with
  | [.val (.slice A n c),.val (.int .i64 i)]=>∃j:Nat,i=(j:Int)∧j≤p.length∧Ext W0 W∧IsRPoly 260 142 W ⟨A,n,c⟩ (pnorm (dlist (p.take j) k))
  | _=>False,cnL p.length,⟨0,rfl,by omega,Ext.refl _,IsRPoly.nil W0⟩,?_⟩
 rintro s5 i6 W7 ⟨j,rfl,hj,hE7,hr⟩
 have hr:IsRPoly 260 142 W7 s5 (pnorm (dlist (p.take j) k)):=hr
 have hdl:=dlist_len (p.take j) k
 rw[List.length_take] at hdl
 have hpl:=pnorm_len (dlist (p.take j) k)
 refine⟨fun hlt=>?_,fun hge W62 hE62=>⟨s5,rfl,?_⟩⟩
 ·have hjl:j<p.length:=by omega
  have hP:=h.ext hE7
  have hib:=hP.inB (i:=(j:Int)) (by omega) (by omega)
  obtain⟨h0',b1,s1,s2,_,e2,e3,hq⟩:=hP.at (List.getElem?_eq_getElem hjl)
  have hek:=eget_ok h0' k
  have hmu:p.length-Int.toNat ((j:Int)+1)<p.length-Int.toNat (j:Int):=by omega
  have hbx:=boxAt6 p[j].1 hk3 []
  refine⟨hib,_,_,_,e2,hkr,_,hbx,fun hpos=>⟨hkr,_,hbx,by unfold I64;omega,hkr,_,hbx,hkr,by omega,⟨⟨trivial,fun e=>?_⟩,fun e=>?_⟩,fun e=>?_⟩,fun hz=>⟨by unfold I64;omega,⟨j+1,by push_cast;rfl,by omega,hE7,?_⟩,hmu⟩⟩
  case refine_4=>
   rw[dlist_snoc hjl]
   unfold dterm
   rw[if_neg hz,List.append_nil]
   exact hr
  all_goals
   have hw':IntKind.wrap .u8 (eget p[j].1 k-1)=eget p[j].1 k-1:=wrap8 (by omega) (by omega)
   have hok:=decM_ok h0' hk3 hpos
   have hdt:dterm k p[j] = [(decM p[j].1 k,p[j].2*((eget p[j].1 k:Int):Rat))]:=by unfold dterm;rw[if_pos hpos]
   have hbd:=dlist_bd (hB.take (j+1)) (fun t ht=>h.ok t (List.mem_of_mem_take ht)) k
   rw[dlist_snoc hjl,hdt] at hbd
   have hsz:Sz (l+1) ((eget p[j].1 k:Int):Rat):=(FitQ.int _).sz (by decide) (by rw[nl_one];omega) (Nat.le_trans (nl_mono (by omega:_≤255)) (Nat.le_trans (nl_le (by decide:255<B^1)) (by omega)))
   refine⟨hib,b1,s1,s2,e3,?_⟩
   refine refRatOf_call (z:=eget p[j].1 k) (by unfold I64;omega) fun b19 s20 s21 W18 hE18 h18=>⟨b19,s20,s21,rfl,hE18,?_⟩
   refine refQMul_call (hq.ext hE18) h18 (hB.sz _ (List.getElem_mem hjl)) hsz (by omega) (by omega) fun b24 s25 s26 W23 hE23 h23=>⟨b24,s25,s26,rfl,?_⟩
   rw[hw']
   have hs2:=hbd.right.sz (decM p[j].1 k,p[j].2*((eget p[j].1 k:Int):Rat)) (by simp)
   have fin: ∀s29 W28,Ext W23 W28→IsRPoly 260 142 W28 s29 (pput (pnorm (dlist (p.take j) k)) (decM p[j].1 k,p[j].2*((eget p[j].1 k:Int):Rat)))→∃j':Nat,(j:Int)+1=(j':Int)∧j'≤p.length∧Ext W0 W28∧IsRPoly 260 142 W28 s29 (pnorm (dlist (p.take j') k)):=fun s29 W28 hE28 h28=>⟨j+1,by push_cast;rfl,by omega,hE7.trans ((hE18.trans hE23).trans hE28),by rw[dlist_snoc hjl,hdt,pnorm_snoc];exact h28⟩
  ·have e':k=0:=e
   subst e'
   have hd:decM p[j].1 0=⟨p[j].1.x-1,p[j].1.y,p[j].1.z⟩:=rfl
   have he:eget p[j].1 0=p[j].1.x:=rfl
   rw[hd] at hok hs2 fin
   rw[he] at hs2 fin h23⊢
   rw[he] at hbd
   exact refPut_call (m:=⟨p[j].1.x-1,p[j].1.y,p[j].1.z⟩) (hr.ext (hE18.trans hE23)) h23 hok hbd.left.norm.sz hs2 (by omega) (by omega) fun s29 W28 hE28 h28=>⟨s29,rfl,by unfold I64;omega,fin s29 W28 hE28 h28,hmu⟩
  ·have e':k=1:=e
   subst e'
   have hd:decM p[j].1 1=⟨p[j].1.x,p[j].1.y-1,p[j].1.z⟩:=rfl
   have he:eget p[j].1 1=p[j].1.y:=rfl
   rw[hd] at hok hs2 fin
   rw[he] at hs2 fin h23⊢
   rw[he] at hbd
   exact refPut_call (m:=⟨p[j].1.x,p[j].1.y-1,p[j].1.z⟩) (hr.ext (hE18.trans hE23)) h23 hok hbd.left.norm.sz hs2 (by omega) (by omega) fun s29 W28 hE28 h28=>⟨s29,rfl,by unfold I64;omega,fin s29 W28 hE28 h28,hmu⟩
  ·have e':k=2:=e
   subst e'
   have hd:decM p[j].1 2=⟨p[j].1.x,p[j].1.y,p[j].1.z-1⟩:=rfl
   have he:eget p[j].1 2=p[j].1.z:=rfl
   rw[hd] at hok hs2 fin
   rw[he] at hs2 fin h23⊢
   rw[he] at hbd
   exact refPut_call (m:=⟨p[j].1.x,p[j].1.y,p[j].1.z-1⟩) (hr.ext (hE18.trans hE23)) h23 hok hbd.left.norm.sz hs2 (by omega) (by omega) fun s29 W28 hE28 h28=>⟨s29,rfl,by unfold I64;omega,fin s29 W28 hE28 h28,hmu⟩
 ·have:j=p.length:=by omega
  subst this
  rw[List.take_length] at hr
  unfold diffP
  rw[if_pos hkr]
  exact hr.ext hE62
theorem refDiff_call {W0 W:PW} {M:Nat→Prop} {s:Sl} {p:List Tm} {i:Int} {l:Nat} {K:Value→PW→Prop} (h:IsRPoly 260 142 W s p) (hB:Bd l p) (hl:l≤50000000) (hp:p.length≤1073741824) (kont: ∀(s':Sl) (W':PW),Ext W W'→(IsRPoly 260 142 W' s' (diffP p i))→K (Sl.v s') W'):
  callN Go.Proofs.Tryz.prog W0 M 88 [s.v,.int .i64 i] W K:=
 callN_of (fun W' hE=>refDiff_ok (M:=fun _=>False) (h.ext hE) hB hl hp) (fun W' v W'' hE hE' hP=>by
  obtain⟨s',rfl,h⟩:=hP
  exact kont s' W'' (hE.trans hE') h)
theorem diffP_bd {l:Nat} {p:List Tm} (h:Bd l p) (ho:POk p) (i:Int):Bd (l+1) (diffP p i):=by
 unfold diffP
 split
 ·exact(dlist_bd h ho _).norm
 ·obtain⟨D,N,h1,h2,h3,h4⟩:=h
  exact⟨1,0,trivial,by decide,by rw[nl_one];omega,by rw[nl_zero];omega⟩
theorem diffP_len (p:List Tm) (i:Int):(diffP p i).length≤p.length:=by
 unfold diffP
 split
 ·exact Nat.le_trans (pnorm_len _) (dlist_len p _)
 ·simp
end Go.Proofs.YtjgpenfndnhdnaaGreat
