/- cinctureref1.PolyParse, poly.Parse, book.Terms, law8.Of. -/
import Derived.Test.YthpmkcidkcmlgaaGreatW13
import Derived.Test.YthpmkcidkcmlgaaGreatLib4
import Derived.Test.YthpmkcidkcmlgaaGreatW12
import Derived.Test.YthpmkcidkcmlgaaGreatR13
import Derived.Test.YthpmkcidkcmlgaaGreatR14
set_option linter.unusedVariables false
set_option linter.unusedSimpArgs false
set_option maxRecDepth 100000
set_option linter.unusedVariables false
set_option linter.unusedSimpArgs false
namespace Go.Proofs.YthpmkcidkcmlgaaGreat
open Go Go.SX
def ppI (C:PW→List Value→Tm→Prop) (W0:PW) (L:List (Mon×ByteArray)) (l:List PL) (W:PW):Prop:=match l with
 | [.row xs,.val (.int .i64 i)]=>∃(j:Nat) (p:List Tm),i=(j:Int)∧j≤L.length∧Ext W0 W∧All2 (C W) xs p∧PParse (L.take j) p
 | _=>False
theorem cmp_ge {a b:Mon} (h:0≤a.cmp b):¬a.lt b:=fun hl=>by
 have:=Mon.cmp_neg.2 hl
 omega
theorem cmp_lt' {a b:Mon} (h:¬0≤a.cmp b):a.lt b:=Mon.cmp_neg.1 (by omega)
theorem refPolyParse_ok {W0:PW} {M:Nat→Prop} {s:Sl} {L:List (Mon×ByteArray)} (h:IsAPoly W0 s L) (hl:L.length≤1099511627776) (hz: ∀t∈L,t.2.size≤1099511627776):
  PCallsM Go.Proofs.Tryz.prog 78 [s.v] W0 M fun v W'=>∃(s':Sl),v = .tuple ⟨[Sl.v s',.bool (parseP L).isSome]⟩∧IsRPoly 317 195 W' s' ((parseP L).getD []):=by
 apply callref1_PolyParse
 have hn:=h.n
 have bad:parseP L=none→∀W':PW,∃s':Sl,(Value.tuple ⟨[.slice none 0 0,.bool false]⟩) = .tuple ⟨[Sl.v s',.bool (parseP L).isSome]⟩∧IsRPoly 317 195 W' s' ((parseP L).getD []):=fun h W'=>by
  rw[h]
  exact⟨⟨none,0,0⟩,rfl,IsRPoly.nil W'⟩
 refine⟨ppI (RT 317) W0 L,cnL L.length,⟨0,[],rfl,by omega,Ext.refl _,trivial,PParse.nil⟩,?_⟩
 rintro l3 i4 W5 ⟨j,p,rfl,hj,hE5,ha,hp⟩
 have hal:=ha.len
 have hpl:=hp.len
 rw[List.length_take] at hpl
 refine⟨fun hlt=>?_,fun hge s34 W35 hE35 hO _ W36 hE36=>⟨s34,?_,?_⟩⟩
 ·have hjl:j<L.length:=by omega
  have hL:=h.ext hE5
  have hib:=hL.inB (i:=(j:Int)) (by omega) (by omega)
  obtain⟨h0,_,_,e3⟩:=hL.at (List.getElem?_eq_getElem hjl)
  refine⟨hib,_,e3,refRatParse_call (hz _ (List.getElem_mem hjl)) fun b9 s10 s11 W8 hE8 h8=>⟨b9,s10,s11,_,rfl,fun hno W13 _=>bad (PParse.bad hjl fun q hq _=>by rw[hq] at hno;cases hno) _,fun hyes=>?_⟩⟩
  obtain⟨q,hq⟩: ∃q,parseQ L[j].2=some q:=Option.isSome_iff_exists.1 (by simpa using hyes)
  rw[hq] at h8
  have h8:IsRefQ 317 W8 b9 s10 s11 q:=h8
  refine refSign_call h8.1 fun W15 hE15 _=>⟨_,rfl,fun h0' W17 _=>bad (PParse.bad hjl fun q' hq' hne=>by rw[hq] at hq';cases hq';exact absurd (num_zero.1 (sgn_zero.1 h0')) hne) _,fun hne=>?_⟩
  have hq0:q≠0:=fun e=>hne (sgn_zero.2 (num_zero.2 e))
  have hE:=hE8.trans hE15
  have hmu:L.length-Int.toNat ((j:Int)+1)<L.length-Int.toNat (j:Int):=by omega
  have hL15:=hL.ext hE
  obtain⟨_,_,e2,_⟩:=hL15.at (List.getElem?_eq_getElem hjl)
  refine⟨fun hj0=>?_,fun hj0=>⟨hib,_,_,_,e2,Ext.refl _,by simp;omega,Ext.refl _,by unfold I64;omega,⟨j+1,_,by push_cast;rfl,by omega,hE5.trans hE,(ha.mono fun _ _ h=>h.ext hE).snoc ⟨h0,b9,s10,s11,rfl,h8.ext hE15⟩,hp.snoc hjl hq hq0 fun k hk=>absurd hk (by omega)⟩,hmu⟩⟩
  have hj1:(((j:Int)-1).toNat)=j-1:=by omega
  have hjm:j-1<L.length:=by omega
  obtain⟨hm0,_,em,_⟩:=hL15.at (List.getElem?_eq_getElem hjm)
  refine⟨by unfold I64;omega,hL.inB (by omega) (by omega),_,_,_,by rw[hj1];exact em,hib,_,_,_,e2,refMonoCmp_call hm0 h0 fun W25 hE25 _=>⟨_,rfl,fun hge W27 _=>bad (PParse.bad hjl fun _ _ _=>⟨j-1,by omega,cmp_ge hge⟩) _,fun hlt=>?_⟩⟩
  obtain⟨_,_,e2',_⟩:=(hL15.ext hE25).at (List.getElem?_eq_getElem hjl)
  refine⟨hib,_,_,_,e2',Ext.refl _,by simp;omega,Ext.refl _,by unfold I64;omega,⟨j+1,_,by push_cast;rfl,by omega,hE5.trans (hE.trans hE25),(ha.mono fun _ _ h=>h.ext (hE.trans hE25)).snoc ⟨h0,b9,s10,s11,rfl,h8.ext (hE15.trans hE25)⟩,hp.snoc hjl hq hq0 fun k hk=>?_⟩,hmu⟩
  have:k=j-1:=by omega
  subst this
  exact cmp_lt' hlt
 ·have:j=L.length:=by omega
  subst this
  rw[hp.all];rfl
 ·have:j=L.length:=by omega
  subst this
  rw[hp.all]
  exact⟨_,(hO.ext hE36).row,ha.mono fun _ _ h=>h.ext (hE35.trans hE36)⟩
theorem refPolyParse_call {W0 W:PW} {M:Nat→Prop} {s:Sl} {L:List (Mon×ByteArray)} {K:Value→PW→Prop} (h:IsAPoly W s L) (hl:L.length≤1099511627776) (hz: ∀t∈L,t.2.size≤1099511627776) (kont: ∀(s':Sl) (W':PW),Ext W W'→(IsRPoly 317 195 W' s' ((parseP L).getD []))→K (.tuple ⟨[Sl.v s',.bool (parseP L).isSome]⟩) W'):
  callN Go.Proofs.Tryz.prog W0 M 78 [s.v] W K:=
 callN_of (fun W' hE=>refPolyParse_ok (M:=fun _=>False) (h.ext hE) hl hz) (fun W' v W'' hE hE' hP=>by
  obtain⟨s',rfl,h⟩:=hP
  exact kont s' W'' (hE.trans hE') h)
noncomputable def erP (L:List (Mon×ByteArray)):Int:=if(parseP L).isSome then 0 else 2
def paI (n0:Nat) (W0:PW) (L:List (Mon×ByteArray)) (l:List PL) (W:PW):Prop:=match l with
 | [.val (.int .i64 i),_,.cells [.slice A n c]]=>∃(j:Nat) (xs:List (List Value)) (p:List Tm),i=(j:Int)∧j≤L.length∧ExtN n0 W0 W∧Go.SX.Own W 188 6 ⟨A,n,c⟩ xs∧(∀g,(Value.slice A n c).ownBlock=some g→n0≤g)∧All2 (PT 317 W) xs p∧PParse (L.take j) p
 | _=>False
theorem own_nil {W:PW} {t:TypeId} {sz:Nat} :Go.SX.Own W t sz ⟨none,0,0⟩ []:=⟨⟨by simp,by simp,.inl ⟨rfl,rfl⟩⟩,fun g hg=>by simp[Sl.v,Value.ownBlock] at hg⟩
theorem polyParse_ok {W0:PW} {M:Nat→Prop} {s:Sl} {L:List (Mon×ByteArray)} (h:IsAPoly W0 s L) (hl:L.length≤1099511627776) (hz: ∀t∈L,t.2.size≤1099511627776):
  PCallsM Go.Proofs.Tryz.prog 80 [s.v] W0 M fun v W'=>∃(s':Sl),v = .tuple ⟨[.agg ⟨[Sl.v s']⟩,.int .i64 (erP L)]⟩∧IsPoly 317 188 W' s' ((parseP L).getD []):=by
 apply callpoly_Parse
 have hn:=h.n
 have bad:parseP L=none→∀W':PW,∃s':Sl,(Value.tuple ⟨[.agg ⟨[.slice none 0 0]⟩,.int .i64 2]⟩) = .tuple ⟨[.agg ⟨[Sl.v s']⟩,.int .i64 (erP L)]⟩∧IsPoly 317 188 W' s' ((parseP L).getD []):=fun h W'=>by
  unfold erP
  rw[h]
  exact⟨⟨none,0,0⟩,rfl,IsPoly.nil W'⟩
 refine⟨paI W0.w.heap.size W0 L,fun l _=>match l with | [.val (.int .i64 i),_,_]=>L.length-i.toNat | _=>0,⟨0,[],[],rfl,by omega,ExtM.refl _ _,own_nil,fun g hg=>by simp[Value.ownBlock] at hg,trivial,PParse.nil⟩,?_⟩
 rintro s3 s4 i5 W6 ⟨j,xs,p,rfl,hj,hEN,hO,hfr,ha,hp⟩
 have hO:Go.SX.Own W6 188 6 s4 xs:=hO
 have hfr: ∀g,s4.v.ownBlock=some g→W0.w.heap.size≤g:=hfr
 have hal:=ha.len
 have hpl:=hp.len
 rw[List.length_take] at hpl
 refine⟨fun hlt=>?_,fun hge W33 hE33=>⟨s4,?_,?_⟩⟩
 ·have hjl:j<L.length:=by omega
  have hL:=h.new hEN (Nat.le_refl _)
  have hib:=hL.inB (i:=(j:Int)) (by omega) (by omega)
  obtain⟨h0,e1,_,_⟩:=hL.at (List.getElem?_eq_getElem hjl)
  refine⟨hib,_,_,_,_,e1,ratParse_call (hz _ (List.getElem_mem hjl)) fun s13 b14 s15 W12 hE12 h12=>⟨s13,b14,s15,_,rfl,fun hno W17 _=>bad (PParse.bad hjl fun q hq _=>by rw[hq] at hno;exact absurd rfl hno) _,fun hyes=>?_⟩⟩
  obtain⟨q,hq⟩: ∃q,parseQ L[j].2=some q:=by
   cases hq:parseQ L[j].2 with
   | none=>rw[hq] at hyes;exact absurd (by decide) hyes
   | some q=>exact⟨q,rfl⟩
  rw[hq] at h12
  have h12:IsRat 317 W12 s13 b14 s15 q:=h12
  refine ratSign_call h12 (parseQ_sz hq).1 (by omega) fun W19 hE19 _=>⟨_,rfl,fun h0' W21 _=>bad (PParse.bad hjl fun q' hq' hne=>by rw[hq] at hq';cases hq';exact absurd ((cmpQ_zero _ _).1 h0') hne) _,fun hne=>?_⟩
  have hq0:q≠0:=fun e=>hne ((cmpQ_zero _ _).2 e)
  have hE:=hE12.trans hE19
  have hmu:L.length-Int.toNat ((j:Int)+1)<L.length-Int.toNat (j:Int):=by omega
  have hL19:=hL.ext hE
  have fin: ∀W,Ext W19 W→(∀k (hk:k+1=j),(L[k]'(by omega)).1.lt L[j].1)→appN W0 M 188 6 64 s4 [[.int .u8 L[j].1.x,.int .u8 L[j].1.y,.int .u8 L[j].1.z,s13.v,.bool b14,s15.v]] W fun s29 W30=>I64 ((j:Int)+1)∧paI W0.w.heap.size W0 L [.val (.int .i64 ((j:Int)+1)),.cells [s3.v],.cells [s29.v]] W30∧L.length-Int.toNat ((j:Int)+1)<L.length-Int.toNat (j:Int):=by
   intro W hEW hlt W' hE'
   have hE2:=(hE.trans hEW).trans hE'
   have hO':=hO.ext hE2
   refine⟨xs,hO',fun g hg=>.inr (hfr g hg),by simp;omega,fun s' W'' hX hO'' hob=>⟨by unfold I64;omega,⟨j+1,_,p ++ [(L[j].1,q)],by push_cast;rfl,by omega,(hEN.trans (hE2.toM _)).trans (hX.mono fun g hg=>hfr g hg),hO'',fun g hg=>?_,?_,hp.snoc hjl hq hq0 hlt⟩,hmu⟩⟩
   ·rcases hob g hg with h | h
    ·exact hfr g h
    ·exact Nat.le_trans (Nat.le_trans hEN.size hE2.size) h
   ·exact((ha.mono fun _ _ h=>PT.own hO' hX (by decide:317≠188) (h.ext hE2))).snoc ⟨h0,s13,b14,s15,rfl,IsRat.own hO' hX (by decide:317≠188) (h12.ext ((hE19.trans hEW).trans hE'))⟩
  refine⟨fun hj0=>?_,fun hj0=>fin W19 (Ext.refl _) fun k hk=>absurd hk (by omega)⟩
  have hj1:(((j:Int)-1).toNat)=j-1:=by omega
  have hjm:j-1<L.length:=by omega
  obtain⟨hm0,_,em,_⟩:=hL19.at (List.getElem?_eq_getElem hjm)
  refine⟨by unfold I64;omega,hL.inB (by omega) (by omega),_,_,_,by rw[hj1];exact em,monoCmp_call hm0 h0 fun W26 hE26 _=>⟨_,rfl,fun hge W28 _=>bad (PParse.bad hjl fun _ _ _=>⟨j-1,by omega,cmp_ge hge⟩) _,fun hlt=>fin W26 hE26 fun k hk=>?_⟩⟩
  have:k=j-1:=by omega
  subst this
  exact cmp_lt' hlt
 ·have:j=L.length:=by omega
  subst this
  unfold erP
  rw[hp.all];rfl
 ·have:j=L.length:=by omega
  subst this
  rw[hp.all]
  exact⟨_,(hO.ext hE33).row,ha.mono fun _ _ h=>h.ext hE33⟩
theorem polyParse_call {W0 W:PW} {M:Nat→Prop} {s:Sl} {L:List (Mon×ByteArray)} {K:Value→PW→Prop} (h:IsAPoly W s L) (hl:L.length≤1099511627776) (hz: ∀t∈L,t.2.size≤1099511627776) (kont: ∀(s':Sl) (W':PW),Ext W W'→(IsPoly 317 188 W' s' ((parseP L).getD []))→K (.tuple ⟨[.agg ⟨[Sl.v s']⟩,.int .i64 (erP L)]⟩) W'):
  callN Go.Proofs.Tryz.prog W0 M 80 [s.v] W K:=
 callN_of (fun W' hE=>polyParse_ok (M:=fun _=>False) (h.ext hE) hl hz) (fun W' v W'' hE hE' hP=>by
  obtain⟨s',rfl,h⟩:=hP
  exact kont s' W'' (hE.trans hE') h)
def TermsOK (L:List (Mon×ByteArray)) (most exp:Int):Prop:=(L.length:Int)≤most∧∀t∈L,t.2.size≤30∧t.1.x≤exp∧t.1.y≤exp∧t.1.z≤exp
theorem bookTerms_ok {W0:PW} {M:Nat→Prop} {s:Sl} {L:List (Mon×ByteArray)} {most exp:Int} (h:IsAPoly W0 s L) (hl:L.length≤1099511627776):
  PCallsM Go.Proofs.Tryz.prog 79 [s.v,.int .i64 most,.int .i64 exp] W0 M fun v W'=>∃(b:Bool),v = .bool b∧(b=true↔TermsOK L most exp):=by
 apply callbook_Terms
 have hn:=h.n
 have bad:¬TermsOK L most exp→∃b:Bool,(Value.bool false) = .bool b∧(b=true↔TermsOK L most exp):=fun h=>⟨false,rfl,fun e=>(by cases e),fun hp=>absurd hp h⟩
 refine⟨fun hgt W1 _=>bad fun hp=>by have:=hp.1;omega,fun hle=>⟨fun l W=>match l with | [.val (.int .i64 i)]=>Ext W0 W∧∃j:Nat,i=(j:Int)∧j≤L.length∧∀t∈L.take j,t.2.size≤30∧t.1.x≤exp∧t.1.y≤exp∧t.1.z≤exp | _=>False,fun l _=>match l with | [.val (.int .i64 i)]=>L.length-i.toNat | _=>0,⟨Ext.refl _,0,rfl,by omega,fun t ht=>by simp at ht⟩,?_⟩⟩
 rintro i4 W5 ⟨hE,j,rfl,hj,hpre⟩
 refine⟨fun hlt=>?_,fun hge W14 _=>⟨true,rfl,fun _=>⟨by omega,fun t ht=>?_⟩,fun _=>rfl⟩⟩
 ·have hjl:j<L.length:=by omega
  have hL:=h.ext hE
  have hib:=hL.inB (i:=(j:Int)) (by omega) (by omega)
  have hm:=List.getElem_mem hjl
  obtain⟨xs,⟨_,hr⟩,ha⟩:=hL
  obtain⟨x,hx,h0,rfl⟩:=ha.get (List.getElem?_eq_getElem hjl)
  unfold Mon.ok at h0
  refine⟨hib,_,hr.part hx 3 rfl,fun hb W7 _=>bad fun hp=>by have:=hp.2 _ hm;omega,fun hb=>⟨hib,⟨by omega,by omega⟩,_,hr.part hx 0 rfl,by unfold I64;omega,fun hc W9 _=>bad fun hp=>by have:=hp.2 _ hm;omega,fun hc=>⟨hib,⟨by omega,by omega⟩,_,hr.part hx 1 rfl,by unfold I64;omega,fun hd W11 _=>bad fun hp=>by have:=hp.2 _ hm;omega,fun hd=>⟨hib,⟨by omega,by omega⟩,_,hr.part hx 2 rfl,by unfold I64;omega,fun he W13 _=>bad fun hp=>by have:=hp.2 _ hm;omega,fun he=>⟨by unfold I64;omega,⟨hE,j+1,by push_cast;rfl,by omega,fun t ht=>?_⟩,?_⟩⟩⟩⟩⟩
  ·rw[take_snocR hjl] at ht
   rcases List.mem_append.1 ht with ht | ht
   ·exact hpre t ht
   ·simp at ht
    subst ht
    exact⟨by omega,by omega,by omega,by omega⟩
  ·show L.length-Int.toNat ((j:Int)+1)<L.length-Int.toNat (j:Int)
   omega
 ·have:j=L.length:=by omega
  subst this
  rw[List.take_length] at hpre
  exact hpre t ht
theorem bookTerms_call {W0 W:PW} {M:Nat→Prop} {s:Sl} {L:List (Mon×ByteArray)} {most exp:Int} {K:Value→PW→Prop} (h:IsAPoly W s L) (hl:L.length≤1099511627776) (kont: ∀(b:Bool) (W':PW),Ext W W'→((b=true↔TermsOK L most exp))→K (.bool b) W'):
  callN Go.Proofs.Tryz.prog W0 M 79 [s.v,.int .i64 most,.int .i64 exp] W K:=
 callN_of (fun W' hE=>bookTerms_ok (M:=fun _=>False) (h.ext hE) hl) (fun W' v W'' hE hE' hP=>by
  obtain⟨b,rfl,h⟩:=hP
  exact kont b W'' (hE.trans hE') h)
def OfOK (L:List (Mon×ByteArray)) (exp:Int) (p:List Tm):Prop:=PParse L p∧TermsOK L 14 exp
theorem law8Of_ok {W0:PW} {M:Nat→Prop} {s:Sl} {L:List (Mon×ByteArray)} {exp:Int} (h:IsAPoly W0 s L) (hl:L.length≤1099511627776) (hz: ∀t∈L,t.2.size≤1099511627776):
  PCallsM Go.Proofs.Tryz.prog 12 [s.v,.int .i64 exp] W0 M fun v W'=>∃(s1:Sl),∃(s2:Sl),∃(b:Bool),v = .tuple ⟨[.agg ⟨[Sl.v s1]⟩,Sl.v s2,.bool b]⟩∧(b=true→∃p,OfOK L exp p∧IsPoly 317 188 W' s1 p∧IsRPoly 317 195 W' s2 p):=by
 apply calllaw8_Of
 have bad: ∀W':PW,∃(s1 s2:Sl) (b:Bool),(Value.tuple ⟨[.agg ⟨[.slice none 0 0]⟩,.slice none 0 0,.bool false]⟩) = .tuple ⟨[.agg ⟨[Sl.v s1]⟩,Sl.v s2,.bool b]⟩∧(b=true→∃p,OfOK L exp p∧IsPoly 317 188 W' s1 p∧IsRPoly 317 195 W' s2 p):=fun W'=>⟨⟨none,0,0⟩,⟨none,0,0⟩,false,rfl,fun e=>by cases e⟩
 refine refPolyParse_call h hl hz fun s3 W2 hE2 h2=>⟨s3,_,rfl,fun _ W5 _=>bad W5,fun hyes=>bookTerms_call (h.ext hE2) hl fun b8 W7 hE7 hb=>⟨b8,rfl,fun _ W9 _=>bad W9,fun hb8=>polyParse_call (h.ext (hE2.trans hE7)) hl hz fun s12 W11 hE11 h11=>⟨s12,_,rfl,fun W14 hE14=>⟨s12,s3,true,rfl,fun _=>?_⟩⟩⟩⟩
 obtain⟨p,hp⟩: ∃p,parseP L=some p:=Option.isSome_iff_exists.1 (by simpa using hyes)
 rw[hp] at h2 h11
 exact⟨p,⟨parseP_is hp,hb.1 (by simpa using hb8)⟩,h11.ext hE14,h2.ext ((hE7.trans hE11).trans hE14)⟩
theorem law8Of_call {W0 W:PW} {M:Nat→Prop} {s:Sl} {L:List (Mon×ByteArray)} {exp:Int} {K:Value→PW→Prop} (h:IsAPoly W s L) (hl:L.length≤1099511627776) (hz: ∀t∈L,t.2.size≤1099511627776) (kont: ∀(s1:Sl) (s2:Sl) (b:Bool) (W':PW),Ext W W'→((b=true→∃p,OfOK L exp p∧IsPoly 317 188 W' s1 p∧IsRPoly 317 195 W' s2 p))→K (.tuple ⟨[.agg ⟨[Sl.v s1]⟩,Sl.v s2,.bool b]⟩) W'):
  callN Go.Proofs.Tryz.prog W0 M 12 [s.v,.int .i64 exp] W K:=
 callN_of (fun W' hE=>law8Of_ok (M:=fun _=>False) (h.ext hE) hl hz) (fun W' v W'' hE hE' hP=>by
  obtain⟨s1,s2,b,rfl,h⟩:=hP
  exact kont s1 s2 b W'' (hE.trans hE') h)
theorem OfOK.len {L:List (Mon×ByteArray)} {exp:Int} {p:List Tm} (h:OfOK L exp p):p.length≤14:=by
 have h1:=h.1.len
 have h2:=h.2.1
 omega
theorem OfOK.bd {L:List (Mon×ByteArray)} {exp:Int} {p:List Tm} (h:OfOK L exp p):Bd 56029 p:=by
 have:=h.len
 exact(Bd.of_sz h.1.sz).mono (by omega)
end Go.Proofs.YthpmkcidkcmlgaaGreat

/- Exponents up to a bound; products that fit. -/
set_option linter.unusedVariables false
set_option linter.unusedSimpArgs false
namespace Go.Proofs.YthpmkcidkcmlgaaGreat
open Go Go.SX
def PExp (e:Int) (p:List Tm):Prop:=∀t∈p,t.1.ok∧t.1.x≤e∧t.1.y≤e∧t.1.z≤e
theorem PExp.norm {e:Int} {p:List Tm} (h:PExp e p):PExp e (pnorm p):=fun t ht=>by
 obtain⟨u,hu,h1⟩:=mem_pnorm ht
 rw[h1]
 exact h u hu
theorem PExp.append {e:Int} {p q:List Tm} (h:PExp e p) (k:PExp e q):PExp e (p ++ q):=fun t ht=>by
 rcases List.mem_append.1 ht with ht | ht
 ·exact h t ht
 ·exact k t ht
theorem mulOK_of {e f:Int} {p q:List Tm} (h:PExp e p) (k:PExp f q) (hef:e+f≤255):MulOK p q:=fun a ha b hb=>by
 have h1:=h a ha
 have h2:=k b hb
 unfold Mon.ok at *
 unfold Mon.add
 dsimp only
 omega
theorem mulP_of {p q:List Tm} (h:MulOK p q):mulP p q=pnorm (ppairs p q):=by unfold mulP;rw[if_pos h]
end Go.Proofs.YthpmkcidkcmlgaaGreat

/- poly.Same. -/
set_option maxRecDepth 100000
set_option linter.unusedVariables false
set_option linter.unusedSimpArgs false
namespace Go.Proofs.YthpmkcidkcmlgaaGreat
open Go Go.SX
end Go.Proofs.YthpmkcidkcmlgaaGreat

/- cinctureref1: PolyAdd, PolyScale, PolySub, Var, Const, PolySame. -/
set_option maxRecDepth 100000
set_option linter.unusedVariables false
set_option linter.unusedSimpArgs false
namespace Go.Proofs.YthpmkcidkcmlgaaGreat
open Go Go.SX
theorem refPolyAdd_ok {W0:PW} {M:Nat→Prop} {sp sq:Sl} {p q:List Tm} {k:Nat} (h1:IsRPoly 317 195 W0 sp p) (h2:IsRPoly 317 195 W0 sq q) (g1:PGood p) (b1:Bd k p) (b2:Bd k q) (hk:k≤40000000) (hp:p.length≤536870912) (hq:q.length≤536870912):
  PCallsM Go.Proofs.Tryz.prog 114 [sp.v,sq.v] W0 M fun v W'=>∃(s':Sl),v=Sl.v s'∧IsRPoly 317 195 W' s' (pnorm (p ++ q)):=by
 apply callref1_PolyAdd
 have n2:=h2.n
 refine⟨fun L W=>match L with
  | [.val (.slice A n c),.val (.int .i64 i)]=>∃j:Nat,i=(j:Int)∧j≤q.length∧Ext W0 W∧IsRPoly 317 195 W ⟨A,n,c⟩ (pnorm (p ++ q.take j))
  | _=>False,cnL q.length,⟨0,rfl,by omega,Ext.refl _,by rw[List.take_zero,List.append_nil,pnorm_of g1];exact h1⟩,?_⟩
 rintro s3 i4 W5 ⟨j,rfl,hj,hE5,hp5⟩
 have hp5:IsRPoly 317 195 W5 s3 (pnorm (p ++ q.take j)):=hp5
 refine⟨fun hlt=>?_,fun hge W15 hE15=>⟨s3,rfl,?_⟩⟩
 ·have hjl:j<q.length:=by omega
  obtain⟨h0,c1,s1,s2,e1,_,_,hr⟩:=(h2.ext hE5).at (List.getElem?_eq_getElem hjl)
  have hlen:=pnorm_len (p ++ q.take j)
  rw[List.length_append,List.length_take] at hlen
  refine⟨(h2.ext hE5).inB (by omega) (by omega),_,_,_,c1,s1,s2,e1,refPut_call (m:=q[j].1) hp5 hr h0 ((b1.append (b2.take j)).norm.sz) ((b2.sz _ (List.getElem_mem hjl)).mono (by omega)) (by omega) (by omega) fun s' W13 hE13 h13=>⟨s',rfl,by unfold I64;omega,⟨j+1,by push_cast;rfl,by omega,hE5.trans hE13,?_⟩,?_⟩⟩
  ·rw[take_snocR hjl,←List.append_assoc,pnorm_snoc]
   exact h13
  ·show q.length-Int.toNat ((j:Int)+1)<q.length-Int.toNat (j:Int)
   omega
 ·have:j=q.length:=by omega
  subst this
  rw[List.take_length] at hp5
  exact hp5.ext hE15
theorem refPolyAdd_call {W0 W:PW} {M:Nat→Prop} {sp sq:Sl} {p q:List Tm} {k:Nat} {K:Value→PW→Prop} (h1:IsRPoly 317 195 W sp p) (h2:IsRPoly 317 195 W sq q) (g1:PGood p) (b1:Bd k p) (b2:Bd k q) (hk:k≤40000000) (hp:p.length≤536870912) (hq:q.length≤536870912) (kont: ∀(s':Sl) (W':PW),Ext W W'→(IsRPoly 317 195 W' s' (pnorm (p ++ q)))→K (Sl.v s') W'):
  callN Go.Proofs.Tryz.prog W0 M 114 [sp.v,sq.v] W K:=
 callN_of (fun W' hE=>refPolyAdd_ok (M:=fun _=>False) (h1.ext hE) (h2.ext hE) g1 b1 b2 hk hp hq) (fun W' v W'' hE hE' hP=>by
  obtain⟨s',rfl,h⟩:=hP
  exact kont s' W'' (hE.trans hE') h)
theorem refPolyScale_ok {W0:PW} {M:Nat→Prop} {sp s t:Sl} {p:List Tm} {b:Bool} {r:Rat} {k l:Nat} (h1:IsRPoly 317 195 W0 sp p) (h2:IsRefQ 317 W0 b s t r) (b1:Bd k p) (b2:Sz l r) (hk:k≤40000000) (hl:l≤40000000) (hp:p.length≤1073741824):
  PCallsM Go.Proofs.Tryz.prog 65 [sp.v,.agg ⟨[.bool b,s.v,t.v]⟩] W0 M fun v W'=>∃(s':Sl),v=Sl.v s'∧IsRPoly 317 195 W' s' (pnorm (pmap p r)):=by
 apply callref1_PolyScale
 have n1:=h1.n
 have hB:=Bd.pmap b1 b2
 refine⟨fun L W=>match L with
  | [.val (.slice A n c),.val (.int .i64 i)]=>∃j:Nat,i=(j:Int)∧j≤p.length∧Ext W0 W∧IsRPoly 317 195 W ⟨A,n,c⟩ (pnorm (pmap (p.take j) r))
  | _=>False,cnL p.length,⟨0,rfl,by omega,Ext.refl _,IsRPoly.nil W0⟩,?_⟩
 rintro s3 i4 W5 ⟨j,rfl,hj,hE5,hp5⟩
 have hp5:IsRPoly 317 195 W5 s3 (pnorm (pmap (p.take j) r)):=hp5
 refine⟨fun hlt=>?_,fun hge W20 hE20=>⟨s3,rfl,?_⟩⟩
 ·have hjl:j<p.length:=by omega
  have hP:=h1.ext hE5
  have hib:=hP.inB (i:=(j:Int)) (by omega) (by omega)
  obtain⟨h0,c1,s1,s2,_,e2,e3,hr⟩:=hP.at (List.getElem?_eq_getElem hjl)
  have hlen:=pnorm_len (pmap (p.take j) r)
  rw[pmap_len,List.length_take] at hlen
  refine⟨hib,_,_,_,e2,hib,c1,s1,s2,e3,refQMul_call hr (h2.ext hE5) (b1.sz _ (List.getElem_mem hjl)) b2 (by omega) (by omega) fun c3 t3 u3 W13 hE13 h13=>⟨c3,t3,u3,rfl,hE13,?_⟩⟩
  refine refPut_call (m:=p[j].1) (hp5.ext hE13) h13 h0 ((Bd.pmap (b1.take j) b2).norm.sz) (hB.sz (p[j].1,p[j].2*r) (List.mem_map.2 ⟨p[j],List.getElem_mem hjl,rfl⟩)) (by omega) (by omega) fun s' W18 hE18 h18=>⟨s',rfl,hE18,by unfold I64;omega,⟨j+1,by push_cast;rfl,by omega,hE5.trans (hE13.trans hE18),?_⟩,?_⟩
  ·rw[take_snocR hjl,show pmap (p.take j ++ [p[j]]) r=pmap (p.take j) r ++ [(p[j].1,p[j].2*r)] from List.map_append,pnorm_snoc]
   exact h18
  ·show p.length-Int.toNat ((j:Int)+1)<p.length-Int.toNat (j:Int)
   omega
 ·have:j=p.length:=by omega
  subst this
  rw[List.take_length] at hp5
  exact hp5.ext hE20
theorem refPolyScale_call {W0 W:PW} {M:Nat→Prop} {sp s t:Sl} {p:List Tm} {b:Bool} {r:Rat} {k l:Nat} {K:Value→PW→Prop} (h1:IsRPoly 317 195 W sp p) (h2:IsRefQ 317 W b s t r) (b1:Bd k p) (b2:Sz l r) (hk:k≤40000000) (hl:l≤40000000) (hp:p.length≤1073741824) (kont: ∀(s':Sl) (W':PW),Ext W W'→(IsRPoly 317 195 W' s' (pnorm (pmap p r)))→K (Sl.v s') W'):
  callN Go.Proofs.Tryz.prog W0 M 65 [sp.v,.agg ⟨[.bool b,s.v,t.v]⟩] W K:=
 callN_of (fun W' hE=>refPolyScale_ok (M:=fun _=>False) (h1.ext hE) (h2.ext hE) b1 b2 hk hl hp) (fun W' v W'' hE hE' hP=>by
  obtain⟨s',rfl,h⟩:=hP
  exact kont s' W'' (hE.trans hE') h)
theorem ref_m1:Sz 1 ((-1:Int):Rat):=by
 rw[show((-1:Int):Rat) = -1 from rfl]
 exact(Sz.one (Nat.le_refl 1)).neg
theorem refPolySub_ok {W0:PW} {M:Nat→Prop} {sp sq:Sl} {p q:List Tm} {k:Nat} (h1:IsRPoly 317 195 W0 sp p) (h2:IsRPoly 317 195 W0 sq q) (g1:PGood p) (b1:Bd k p) (b2:Bd k q) (hk:k≤30000000) (hp:p.length≤536870912) (hq:q.length≤536870912):
  PCallsM Go.Proofs.Tryz.prog 112 [sp.v,sq.v] W0 M fun v W'=>∃(s':Sl),v=Sl.v s'∧IsRPoly 317 195 W' s' (pnorm (p ++ pmap q (-1))):=by
 apply callref1_PolySub
 refine refRatOf_call (z:=-1) (by unfold I64;omega) fun b3 s4 s5 W2 hE2 h2'=>⟨b3,s4,s5,rfl,?_⟩
 refine refPolyScale_call (h2.ext hE2) h2' b2 ref_m1 (by omega) (by omega) (by omega) fun s8 W7 hE7 h8=>⟨s8,rfl,?_⟩
 have hlen:=pnorm_len (pmap q ((-1:Int):Rat))
 rw[pmap_len] at hlen
 refine refPolyAdd_call (h1.ext (hE2.trans hE7)) h8 g1 (b1.mono (by omega:k≤k+1)) (Bd.norm (Bd.pmap b2 ref_m1)) (by omega) (by omega) (by omega) fun s11 W10 hE10 h11=>⟨s11,rfl,fun W12 hE12=>⟨s11,rfl,?_⟩⟩
 have e:pnorm (p ++ pnorm (pmap q ((-1:Int):Rat)))=pnorm (p ++ pmap q (-1)):=pnorm_congr fun m=>by rw[ptot_append,ptot_append,ptot_pnorm,show((-1:Int):Rat) = -1 from rfl]
 rw[←e]
 exact h11.ext hE12
theorem refPolySub_call {W0 W:PW} {M:Nat→Prop} {sp sq:Sl} {p q:List Tm} {k:Nat} {K:Value→PW→Prop} (h1:IsRPoly 317 195 W sp p) (h2:IsRPoly 317 195 W sq q) (g1:PGood p) (b1:Bd k p) (b2:Bd k q) (hk:k≤30000000) (hp:p.length≤536870912) (hq:q.length≤536870912) (kont: ∀(s':Sl) (W':PW),Ext W W'→(IsRPoly 317 195 W' s' (pnorm (p ++ pmap q (-1))))→K (Sl.v s') W'):
  callN Go.Proofs.Tryz.prog W0 M 112 [sp.v,sq.v] W K:=
 callN_of (fun W' hE=>refPolySub_ok (M:=fun _=>False) (h1.ext hE) (h2.ext hE) g1 b1 b2 hk hp hq) (fun W' v W'' hE hE' hP=>by
  obtain⟨s',rfl,h⟩:=hP
  exact kont s' W'' (hE.trans hE') h)
theorem refVar_ok {W0:PW} {M:Nat→Prop} {i:Int} :
  PCallsM Go.Proofs.Tryz.prog 111 [.int .i64 i] W0 M fun v W'=>∃(s':Sl),v=Sl.v s'∧IsRPoly 317 195 W' s' (varP i):=by
 apply callref1_Var
 refine⟨fun h W1 hE=>⟨⟨none,0,0⟩,rfl,?_⟩,fun h=>⟨fun h' W2 hE=>⟨⟨none,0,0⟩,rfl,?_⟩,fun h'=>⟨⟨by omega,by omega⟩,by omega,⟨⟨trivial,fun e=>?_⟩,fun e=>?_⟩,fun e=>?_⟩⟩⟩
 ·unfold varP;rw[if_neg (by omega)];exact IsRPoly.nil W1
 ·unfold varP;rw[if_neg (by omega)];exact IsRPoly.nil W2
 ·have hv:varP i = [(unitM 0,((1:Int):Rat))]:=by unfold varP;rw[if_pos (by omega),e];rfl
  rw[hv]
  exact refRatOf_call (z:=1) (by unfold I64;omega) fun b5 s6 s7 W4 hE4 h4=>⟨b5,s6,s7,rfl,fun s8 W9 hE9 hO _ W10 hE10=>⟨s8,rfl,_,(hO.ext hE10).row,⟨(by decide:(unitM 0).ok),b5,s6,s7,rfl,h4.ext (hE9.trans hE10)⟩,trivial⟩⟩
 ·have hv:varP i = [(unitM 1,((1:Int):Rat))]:=by unfold varP;rw[if_pos (by omega),e];rfl
  rw[hv]
  exact refRatOf_call (z:=1) (by unfold I64;omega) fun b5 s6 s7 W4 hE4 h4=>⟨b5,s6,s7,rfl,fun s8 W9 hE9 hO _ W10 hE10=>⟨s8,rfl,_,(hO.ext hE10).row,⟨(by decide:(unitM 1).ok),b5,s6,s7,rfl,h4.ext (hE9.trans hE10)⟩,trivial⟩⟩
 ·have hv:varP i = [(unitM 2,((1:Int):Rat))]:=by unfold varP;rw[if_pos (by omega),e];rfl
  rw[hv]
  exact refRatOf_call (z:=1) (by unfold I64;omega) fun b5 s6 s7 W4 hE4 h4=>⟨b5,s6,s7,rfl,fun s8 W9 hE9 hO _ W10 hE10=>⟨s8,rfl,_,(hO.ext hE10).row,⟨(by decide:(unitM 2).ok),b5,s6,s7,rfl,h4.ext (hE9.trans hE10)⟩,trivial⟩⟩
theorem refVar_call {W0 W:PW} {M:Nat→Prop} {i:Int} {K:Value→PW→Prop} (kont: ∀(s':Sl) (W':PW),Ext W W'→(IsRPoly 317 195 W' s' (varP i))→K (Sl.v s') W'):
  callN Go.Proofs.Tryz.prog W0 M 111 [.int .i64 i] W K:=
 callN_of (fun W' hE=>refVar_ok (M:=fun _=>False) ) (fun W' v W'' hE hE' hP=>by
  obtain⟨s',rfl,h⟩:=hP
  exact kont s' W'' (hE.trans hE') h)
theorem refConst_ok {W0:PW} {M:Nat→Prop} {s t:Sl} {b:Bool} {q:Rat} {k:Nat} (h:IsRefQ 317 W0 b s t q) (hq:Sz k q) (hk:k≤100000000):
  PCallsM Go.Proofs.Tryz.prog 113 [.agg ⟨[.bool b,s.v,t.v]⟩] W0 M fun v W'=>∃(s':Sl),v=Sl.v s'∧IsRPoly 317 195 W' s' (pnorm [(⟨0,0,0⟩,q)]):=by
 apply callref1_Const
 exact refPut_call (sp:=⟨none,0,0⟩) (m:=⟨0,0,0⟩) (IsRPoly.nil W0) h (by decide) (fun t ht=>by simp at ht) hq hk (by simp) fun s' W2 hE2 h2=>⟨s',rfl,fun W4 hE4=>⟨s',rfl,h2.ext hE4⟩⟩
theorem refConst_call {W0 W:PW} {M:Nat→Prop} {s t:Sl} {b:Bool} {q:Rat} {k:Nat} {K:Value→PW→Prop} (h:IsRefQ 317 W b s t q) (hq:Sz k q) (hk:k≤100000000) (kont: ∀(s':Sl) (W':PW),Ext W W'→(IsRPoly 317 195 W' s' (pnorm [(⟨0,0,0⟩,q)]))→K (Sl.v s') W'):
  callN Go.Proofs.Tryz.prog W0 M 113 [.agg ⟨[.bool b,s.v,t.v]⟩] W K:=
 callN_of (fun W' hE=>refConst_ok (M:=fun _=>False) (h.ext hE) hq hk) (fun W' v W'' hE hE' hP=>by
  obtain⟨s',rfl,h⟩:=hP
  exact kont s' W'' (hE.trans hE') h)
end Go.Proofs.YthpmkcidkcmlgaaGreat

/- cinctureref1.PolyMul. -/
set_option maxRecDepth 100000
set_option linter.unusedVariables false
set_option linter.unusedSimpArgs false
namespace Go.Proofs.YthpmkcidkcmlgaaGreat
open Go Go.SX
theorem ppairs_split {p q:List Tm} {j:Nat} (hj:j<p.length):ppairs p q=ppairs (p.take j) q ++ (prow p[j] q ++ ppairs (p.drop (j+1)) q):=by
 have e:p=p.take j ++ p[j] :: p.drop (j+1):=by rw[←List.drop_eq_getElem_cons hj,List.take_append_drop]
 have e2: ∀a b:List Tm,ppairs (a ++ b) q=ppairs a q ++ ppairs b q:=fun a b=>by simp[ppairs]
 conv=>lhs;rw[e]
 rw[e2]
 rfl
theorem prow_split (a:Tm) (q:List Tm) (k:Nat):prow a q=prow a (q.take k) ++ prow a (q.drop k):=by
 rw[prow,prow,prow,←List.map_append,List.take_append_drop]
theorem prow_snoc {a:Tm} {q:List Tm} {k:Nat} (hk:k<q.length):prow a (q.take (k+1))=prow a (q.take k) ++ [(a.1.add q[k].1,a.2*q[k].2)]:=by
 rw[take_snocR hk]
 exact List.map_append
def rmO (W0:PW) (p q:List Tm) (l:List PL) (W:PW):Prop:=match l with
 | [.val (.slice A n c),.val (.int .i64 i)]=>∃j:Nat,i=(j:Int)∧j≤p.length∧Ext W0 W∧MulOK (p.take j) q∧IsRPoly 317 195 W ⟨A,n,c⟩ (pnorm (ppairs (p.take j) q))
 | _=>False
def rmI (W0:PW) (p q:List Tm) (j:Nat) (t:Tm) (l:List PL) (W:PW):Prop:=match l with
 | [.val (.slice A n c),.val (.int .i64 i)]=>∃k:Nat,i=(k:Int)∧k≤q.length∧Ext W0 W∧(∀b∈q.take k,(t.1.add b.1).ok)∧IsRPoly 317 195 W ⟨A,n,c⟩ (pnorm (ppairs (p.take j) q ++ prow t (q.take k)))
 | _=>False
theorem refPolyMul_ok {W0:PW} {M:Nat→Prop} {sp sq:Sl} {p q:List Tm} {k:Nat} (h1:IsRPoly 317 195 W0 sp p) (h2:IsRPoly 317 195 W0 sq q) (b1:Bd k p) (b2:Bd k q) (hk:k≤50000000) (hp:p.length≤1073741824) (hq:q.length≤1073741824) (hpq:p.length*q.length≤1073741824):
  PCallsM Go.Proofs.Tryz.prog 110 [sp.v,sq.v] W0 M fun v W'=>∃(s':Sl),v = .tuple ⟨[Sl.v s',.bool (decide (MulOK p q))]⟩∧IsRPoly 317 195 W' s' (mulP p q):=by
 apply callref1_PolyMul
 have n1:=h1.n
 have n2:=h2.n
 have hB:=b1.pairs b2
 refine⟨rmO W0 p q,cnL p.length,⟨0,rfl,by omega,Ext.refl _,fun a ha=>by simp at ha,IsRPoly.nil W0⟩,?_⟩
 rintro s3 i4 W5 ⟨j,rfl,hj,hE5,hok,hr⟩
 have hr:IsRPoly 317 195 W5 s3 (pnorm (ppairs (p.take j) q)):=hr
 refine⟨fun hlt=>?_,fun hge W59 hE59=>⟨s3,?_,?_⟩⟩
 ·have hjl:j<p.length:=by omega
  refine⟨rmI W0 p q j p[j],cnL q.length,⟨0,rfl,by omega,hE5,fun b hb=>by simp at hb,by simpa[prow] using hr⟩,?_⟩
  rintro s8 i9 W10 ⟨k',rfl,hk',hE10,hok',hr'⟩
  have hr':IsRPoly 317 195 W10 s8 (pnorm (ppairs (p.take j) q ++ prow p[j] (q.take k'))):=hr'
  refine⟨fun hlt'=>?_,fun hge'=>⟨by unfold I64;omega,⟨j+1,by push_cast;rfl,by omega,hE10,?_,?_⟩,?_⟩⟩
  ·have hkl:k'<q.length:=by omega
   have hP:=h1.ext hE10
   have hQ:=h2.ext hE10
   have i1:=hP.inB (i:=(j:Int)) (by omega) (by omega)
   have i2:=hQ.inB (i:=(k':Int)) (by omega) (by omega)
   obtain⟨o1,_,_,_,_,e1,_,_⟩:=hP.at (List.getElem?_eq_getElem hjl)
   obtain⟨o2,_,_,_,_,e2,_,_⟩:=hQ.at (List.getElem?_eq_getElem hkl)
   refine⟨i1,_,_,_,e1,i2,_,_,_,e2,?_⟩
   refine refMonoMul_call o1 o2 fun W18 hE18 _=>⟨_,_,_,_,rfl,fun hno W23 hE23=>?_,fun hyes=>?_⟩
   ·have hno:¬(p[j].1.add q[k'].1).ok:=by simpa using hno
    have hM:¬MulOK p q:=fun h=>hno (h _ (List.getElem_mem hjl) _ (List.getElem_mem hkl))
    refine⟨⟨none,0,0⟩,?_,?_⟩
    ·rw[decide_eq_false hM]
    ·unfold mulP
     rw[if_neg hM]
     exact IsRPoly.nil W23
   ·have hyes:(p[j].1.add q[k'].1).ok:=by simpa using hyes
    have hmm:mulMon p[j].1 q[k'].1=p[j].1.add q[k'].1:=by unfold mulMon;rw[if_pos hyes]
    rw[hmm]
    obtain⟨_,c1,t1,u1,_,_,f1,r1⟩:=(hP.ext hE18).at (List.getElem?_eq_getElem hjl)
    obtain⟨_,c2,t2,u2,_,_,f2,r2⟩:=(hQ.ext hE18).at (List.getElem?_eq_getElem hkl)
    have hpre:Bd (k+k) (ppairs (p.take j) q ++ prow p[j] (q.take k') ++ [(p[j].1.add q[k'].1,p[j].2*q[k'].2)]):=by
     have hB':=hB
     rw[ppairs_split hjl,←List.append_assoc] at hB'
     have:=hB'.left
     rw[prow_split p[j] q (k'+1),prow_snoc hkl] at this
     rw[←List.append_assoc,←List.append_assoc] at this
     exact this.left
    have hlen:=pnorm_len (ppairs (p.take j) q ++ prow p[j] (q.take k'))
    have hll:(ppairs (p.take j) q ++ prow p[j] (q.take k')).length≤p.length*q.length:=by
     have:=congrArg List.length (ppairs_split (q:=q) hjl)
     rw[ppairs_len] at this
     simp only[List.length_append] at this⊢
     have e:(prow p[j] (q.take k')).length≤(prow p[j] q).length:=by simp[prow];omega
     omega
    refine⟨i1,c1,t1,u1,f1,i2,c2,t2,u2,f2,refQMul_call r1 r2 (b1.sz _ (List.getElem_mem hjl)) (b2.sz _ (List.getElem_mem hkl)) (by omega) (by omega) fun c3 t3 u3 W31 hE31 h31=>⟨c3,t3,u3,rfl,?_⟩⟩
    refine refPut_call (m:=p[j].1.add q[k'].1) (hr'.ext (hE18.trans hE31)) h31 hyes hpre.left.norm.sz (hpre.right.sz (p[j].1.add q[k'].1,p[j].2*q[k'].2) (by simp)) (by omega) (by omega) fun s37 W36 hE36 h36=>⟨s37,rfl,by unfold I64;omega,⟨k'+1,by push_cast;rfl,by omega,hE10.trans ((hE18.trans hE31).trans hE36),?_,?_⟩,?_⟩
    ·intro b hb
     rw[take_snocR hkl] at hb
     rcases List.mem_append.1 hb with hb | hb
     ·exact hok' b hb
     ·simp at hb;subst hb;exact hyes
    ·rw[prow_snoc hkl,←List.append_assoc,pnorm_snoc]
     exact h36
    ·show q.length-Int.toNat ((k':Int)+1)<q.length-Int.toNat (k':Int)
     omega
  ·intro a ha b hb
   rw[take_snocR hjl] at ha
   rcases List.mem_append.1 ha with ha | ha
   ·exact hok a ha b hb
   ·simp at ha;subst ha
    have:k'=q.length:=by omega
    subst this
    rw[List.take_length] at hok'
    exact hok' b hb
  ·have:k'=q.length:=by omega
   subst this
   rw[List.take_length] at hr'
   rw[take_snocR hjl,ppairs_snoc]
   exact hr'
  ·show p.length-Int.toNat ((j:Int)+1)<p.length-Int.toNat (j:Int)
   omega
 ·have:j=p.length:=by omega
  subst this
  rw[List.take_length] at hok
  rw[decide_eq_true hok]
 ·have:j=p.length:=by omega
  subst this
  rw[List.take_length] at hok hr
  unfold mulP
  rw[if_pos hok]
  exact hr.ext hE59
theorem refPolyMul_call {W0 W:PW} {M:Nat→Prop} {sp sq:Sl} {p q:List Tm} {k:Nat} {K:Value→PW→Prop} (h1:IsRPoly 317 195 W sp p) (h2:IsRPoly 317 195 W sq q) (b1:Bd k p) (b2:Bd k q) (hk:k≤50000000) (hp:p.length≤1073741824) (hq:q.length≤1073741824) (hpq:p.length*q.length≤1073741824) (kont: ∀(s':Sl) (W':PW),Ext W W'→(IsRPoly 317 195 W' s' (mulP p q))→K (.tuple ⟨[Sl.v s',.bool (decide (MulOK p q))]⟩) W'):
  callN Go.Proofs.Tryz.prog W0 M 110 [sp.v,sq.v] W K:=
 callN_of (fun W' hE=>refPolyMul_ok (M:=fun _=>False) (h1.ext hE) (h2.ext hE) b1 b2 hk hp hq hpq) (fun W' v W'' hE hE' hP=>by
  obtain⟨s',rfl,h⟩:=hP
  exact kont s' W'' (hE.trans hE') h)
end Go.Proofs.YthpmkcidkcmlgaaGreat
