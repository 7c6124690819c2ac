/- cinctureref1.PolyParse, poly.Parse, book.Terms, law8.Of. -/
import Derived.Test.YthpmkcidkcmlgaaGreatW13
import Derived.Test.YthpmkcidkcmlgaaGreatLib3
import Derived.Test.YthpmkcidkcmlgaaGreatW12
import Derived.Test.YthpmkcidkcmlgaaGreatW6
import Derived.Test.YthpmkcidkcmlgaaGreatR8
import Derived.Test.YthpmkcidkcmlgaaGreatLib2
import Derived.Test.YthpmkcidkcmlgaaGreatR11
import Derived.Test.YthpmkcidkcmlgaaGreatLib4
import Derived.Test.YthpmkcidkcmlgaaGreatR10
set_option linter.unusedVariables false
set_option linter.unusedSimpArgs false
set_option maxRecDepth 100000
set_option linter.unusedVariables false
set_option linter.unusedSimpArgs false
namespace Go.Proofs.YthpmkcidkcmlgaaGreat
open Go Go.SX
def ppI (C:PW→List Value→Tm→Prop) (W0:PW) (L:List (Mon×ByteArray)) (l:List PL) (W:PW):Prop:=match l with
 | [.row xs,.val (.int .i64 i)]=>∃(j:Nat) (p:List Tm),i=(j:Int)∧j≤L.length∧Ext W0 W∧All2 (C W) xs p∧PParse (L.take j) p
 | _=>False
theorem cmp_ge {a b:Mon} (h:0≤a.cmp b):¬a.lt b:=fun hl=>by
 have:=Mon.cmp_neg.2 hl
 omega
theorem cmp_lt' {a b:Mon} (h:¬0≤a.cmp b):a.lt b:=Mon.cmp_neg.1 (by omega)
theorem refPolyParse_ok {W0:PW} {M:Nat→Prop} {s:Sl} {L:List (Mon×ByteArray)} (h:IsAPoly W0 s L) (hl:L.length≤1099511627776) (hz: ∀t∈L,t.2.size≤1099511627776):
  PCallsM Go.Proofs.Tryz.prog 78 [s.v] W0 M fun v W'=>∃(s':Sl),v = .tuple ⟨[Sl.v s',.bool (parseP L).isSome]⟩∧IsRPoly 317 195 W' s' ((parseP L).getD []):=by
 apply callref1_PolyParse
 have hn:=h.n
 have bad:parseP L=none→∀W':PW,∃s':Sl,(Value.tuple ⟨[.slice none 0 0,.bool false]⟩) = .tuple ⟨[Sl.v s',.bool (parseP L).isSome]⟩∧IsRPoly 317 195 W' s' ((parseP L).getD []):=fun h W'=>by
  rw[h]
  exact⟨⟨none,0,0⟩,rfl,IsRPoly.nil W'⟩
 refine⟨ppI (RT 317) W0 L,cnL L.length,⟨0,[],rfl,by omega,Ext.refl _,trivial,PParse.nil⟩,?_⟩
 rintro l3 i4 W5 ⟨j,p,rfl,hj,hE5,ha,hp⟩
 have hal:=ha.len
 have hpl:=hp.len
 rw[List.length_take] at hpl
 refine⟨fun hlt=>?_,fun hge s34 W35 hE35 hO _ W36 hE36=>⟨s34,?_,?_⟩⟩
 ·have hjl:j<L.length:=by omega
  have hL:=h.ext hE5
  have hib:=hL.inB (i:=(j:Int)) (by omega) (by omega)
  obtain⟨h0,_,_,e3⟩:=hL.at (List.getElem?_eq_getElem hjl)
  refine⟨hib,_,e3,refRatParse_call (hz _ (List.getElem_mem hjl)) fun b9 s10 s11 W8 hE8 h8=>⟨b9,s10,s11,_,rfl,fun hno W13 _=>bad (PParse.bad hjl fun q hq _=>by rw[hq] at hno;cases hno) _,fun hyes=>?_⟩⟩
  obtain⟨q,hq⟩: ∃q,parseQ L[j].2=some q:=Option.isSome_iff_exists.1 (by simpa using hyes)
  rw[hq] at h8
  have h8:IsRefQ 317 W8 b9 s10 s11 q:=h8
  refine refSign_call h8.1 fun W15 hE15 _=>⟨_,rfl,fun h0' W17 _=>bad (PParse.bad hjl fun q' hq' hne=>by rw[hq] at hq';cases hq';exact absurd (num_zero.1 (sgn_zero.1 h0')) hne) _,fun hne=>?_⟩
  have hq0:q≠0:=fun e=>hne (sgn_zero.2 (num_zero.2 e))
  have hE:=hE8.trans hE15
  have hmu:L.length-Int.toNat ((j:Int)+1)<L.length-Int.toNat (j:Int):=by omega
  have hL15:=hL.ext hE
  obtain⟨_,_,e2,_⟩:=hL15.at (List.getElem?_eq_getElem hjl)
  refine⟨fun hj0=>?_,fun hj0=>⟨hib,_,_,_,e2,Ext.refl _,by simp;omega,Ext.refl _,by unfold I64;omega,⟨j+1,_,by push_cast;rfl,by omega,hE5.trans hE,(ha.mono fun _ _ h=>h.ext hE).snoc ⟨h0,b9,s10,s11,rfl,h8.ext hE15⟩,hp.snoc hjl hq hq0 fun k hk=>absurd hk (by omega)⟩,hmu⟩⟩
  have hj1:(((j:Int)-1).toNat)=j-1:=by omega
  have hjm:j-1<L.length:=by omega
  obtain⟨hm0,_,em,_⟩:=hL15.at (List.getElem?_eq_getElem hjm)
  refine⟨by unfold I64;omega,hL.inB (by omega) (by omega),_,_,_,by rw[hj1];exact em,hib,_,_,_,e2,refMonoCmp_call hm0 h0 fun W25 hE25 _=>⟨_,rfl,fun hge W27 _=>bad (PParse.bad hjl fun _ _ _=>⟨j-1,by omega,cmp_ge hge⟩) _,fun hlt=>?_⟩⟩
  obtain⟨_,_,e2',_⟩:=(hL15.ext hE25).at (List.getElem?_eq_getElem hjl)
  refine⟨hib,_,_,_,e2',Ext.refl _,by simp;omega,Ext.refl _,by unfold I64;omega,⟨j+1,_,by push_cast;rfl,by omega,hE5.trans (hE.trans hE25),(ha.mono fun _ _ h=>h.ext (hE.trans hE25)).snoc ⟨h0,b9,s10,s11,rfl,h8.ext (hE15.trans hE25)⟩,hp.snoc hjl hq hq0 fun k hk=>?_⟩,hmu⟩
  have:k=j-1:=by omega
  subst this
  exact cmp_lt' hlt
 ·have:j=L.length:=by omega
  subst this
  rw[hp.all];rfl
 ·have:j=L.length:=by omega
  subst this
  rw[hp.all]
  exact⟨_,(hO.ext hE36).row,ha.mono fun _ _ h=>h.ext (hE35.trans hE36)⟩
theorem refPolyParse_call {W0 W:PW} {M:Nat→Prop} {s:Sl} {L:List (Mon×ByteArray)} {K:Value→PW→Prop} (h:IsAPoly W s L) (hl:L.length≤1099511627776) (hz: ∀t∈L,t.2.size≤1099511627776) (kont: ∀(s':Sl) (W':PW),Ext W W'→(IsRPoly 317 195 W' s' ((parseP L).getD []))→K (.tuple ⟨[Sl.v s',.bool (parseP L).isSome]⟩) W'):
  callN Go.Proofs.Tryz.prog W0 M 78 [s.v] W K:=
 callN_of (fun W' hE=>refPolyParse_ok (M:=fun _=>False) (h.ext hE) hl hz) (fun W' v W'' hE hE' hP=>by
  obtain⟨s',rfl,h⟩:=hP
  exact kont s' W'' (hE.trans hE') h)
noncomputable def erP (L:List (Mon×ByteArray)):Int:=if(parseP L).isSome then 0 else 2
def paI (n0:Nat) (W0:PW) (L:List (Mon×ByteArray)) (l:List PL) (W:PW):Prop:=match l with
 | [.val (.int .i64 i),_,.cells [.slice A n c]]=>∃(j:Nat) (xs:List (List Value)) (p:List Tm),i=(j:Int)∧j≤L.length∧ExtN n0 W0 W∧Go.SX.Own W 188 6 ⟨A,n,c⟩ xs∧(∀g,(Value.slice A n c).ownBlock=some g→n0≤g)∧All2 (PT 317 W) xs p∧PParse (L.take j) p
 | _=>False
theorem own_nil {W:PW} {t:TypeId} {sz:Nat} :Go.SX.Own W t sz ⟨none,0,0⟩ []:=⟨⟨by simp,by simp,.inl ⟨rfl,rfl⟩⟩,fun g hg=>by simp[Sl.v,Value.ownBlock] at hg⟩
theorem polyParse_ok {W0:PW} {M:Nat→Prop} {s:Sl} {L:List (Mon×ByteArray)} (h:IsAPoly W0 s L) (hl:L.length≤1099511627776) (hz: ∀t∈L,t.2.size≤1099511627776):
  PCallsM Go.Proofs.Tryz.prog 80 [s.v] W0 M fun v W'=>∃(s':Sl),v = .tuple ⟨[.agg ⟨[Sl.v s']⟩,.int .i64 (erP L)]⟩∧IsPoly 317 188 W' s' ((parseP L).getD []):=by
 apply callpoly_Parse
 have hn:=h.n
 have bad:parseP L=none→∀W':PW,∃s':Sl,(Value.tuple ⟨[.agg ⟨[.slice none 0 0]⟩,.int .i64 2]⟩) = .tuple ⟨[.agg ⟨[Sl.v s']⟩,.int .i64 (erP L)]⟩∧IsPoly 317 188 W' s' ((parseP L).getD []):=fun h W'=>by
  unfold erP
  rw[h]
  exact⟨⟨none,0,0⟩,rfl,IsPoly.nil W'⟩
 refine⟨paI W0.w.heap.size W0 L,fun l _=>match l with | [.val (.int .i64 i),_,_]=>L.length-i.toNat | _=>0,⟨0,[],[],rfl,by omega,ExtM.refl _ _,own_nil,fun g hg=>by simp[Value.ownBlock] at hg,trivial,PParse.nil⟩,?_⟩
 rintro s3 s4 i5 W6 ⟨j,xs,p,rfl,hj,hEN,hO,hfr,ha,hp⟩
 have hO:Go.SX.Own W6 188 6 s4 xs:=hO
 have hfr: ∀g,s4.v.ownBlock=some g→W0.w.heap.size≤g:=hfr
 have hal:=ha.len
 have hpl:=hp.len
 rw[List.length_take] at hpl
 refine⟨fun hlt=>?_,fun hge W33 hE33=>⟨s4,?_,?_⟩⟩
 ·have hjl:j<L.length:=by omega
  have hL:=h.new hEN (Nat.le_refl _)
  have hib:=hL.inB (i:=(j:Int)) (by omega) (by omega)
  obtain⟨h0,e1,_,_⟩:=hL.at (List.getElem?_eq_getElem hjl)
  refine⟨hib,_,_,_,_,e1,ratParse_call (hz _ (List.getElem_mem hjl)) fun s13 b14 s15 W12 hE12 h12=>⟨s13,b14,s15,_,rfl,fun hno W17 _=>bad (PParse.bad hjl fun q hq _=>by rw[hq] at hno;exact absurd rfl hno) _,fun hyes=>?_⟩⟩
  obtain⟨q,hq⟩: ∃q,parseQ L[j].2=some q:=by
   cases hq:parseQ L[j].2 with
   | none=>rw[hq] at hyes;exact absurd (by decide) hyes
   | some q=>exact⟨q,rfl⟩
  rw[hq] at h12
  have h12:IsRat 317 W12 s13 b14 s15 q:=h12
  refine ratSign_call h12 (parseQ_sz hq).1 (by omega) fun W19 hE19 _=>⟨_,rfl,fun h0' W21 _=>bad (PParse.bad hjl fun q' hq' hne=>by rw[hq] at hq';cases hq';exact absurd ((cmpQ_zero _ _).1 h0') hne) _,fun hne=>?_⟩
  have hq0:q≠0:=fun e=>hne ((cmpQ_zero _ _).2 e)
  have hE:=hE12.trans hE19
  have hmu:L.length-Int.toNat ((j:Int)+1)<L.length-Int.toNat (j:Int):=by omega
  have hL19:=hL.ext hE
  have fin: ∀W,Ext W19 W→(∀k (hk:k+1=j),(L[k]'(by omega)).1.lt L[j].1)→appN W0 M 188 6 64 s4 [[.int .u8 L[j].1.x,.int .u8 L[j].1.y,.int .u8 L[j].1.z,s13.v,.bool b14,s15.v]] W fun s29 W30=>I64 ((j:Int)+1)∧paI W0.w.heap.size W0 L [.val (.int .i64 ((j:Int)+1)),.cells [s3.v],.cells [s29.v]] W30∧L.length-Int.toNat ((j:Int)+1)<L.length-Int.toNat (j:Int):=by
   intro W hEW hlt W' hE'
   have hE2:=(hE.trans hEW).trans hE'
   have hO':=hO.ext hE2
   refine⟨xs,hO',fun g hg=>.inr (hfr g hg),by simp;omega,fun s' W'' hX hO'' hob=>⟨by unfold I64;omega,⟨j+1,_,p ++ [(L[j].1,q)],by push_cast;rfl,by omega,(hEN.trans (hE2.toM _)).trans (hX.mono fun g hg=>hfr g hg),hO'',fun g hg=>?_,?_,hp.snoc hjl hq hq0 hlt⟩,hmu⟩⟩
   ·rcases hob g hg with h | h
    ·exact hfr g h
    ·exact Nat.le_trans (Nat.le_trans hEN.size hE2.size) h
   ·exact((ha.mono fun _ _ h=>PT.own hO' hX (by decide:317≠188) (h.ext hE2))).snoc ⟨h0,s13,b14,s15,rfl,IsRat.own hO' hX (by decide:317≠188) (h12.ext ((hE19.trans hEW).trans hE'))⟩
  refine⟨fun hj0=>?_,fun hj0=>fin W19 (Ext.refl _) fun k hk=>absurd hk (by omega)⟩
  have hj1:(((j:Int)-1).toNat)=j-1:=by omega
  have hjm:j-1<L.length:=by omega
  obtain⟨hm0,_,em,_⟩:=hL19.at (List.getElem?_eq_getElem hjm)
  refine⟨by unfold I64;omega,hL.inB (by omega) (by omega),_,_,_,by rw[hj1];exact em,monoCmp_call hm0 h0 fun W26 hE26 _=>⟨_,rfl,fun hge W28 _=>bad (PParse.bad hjl fun _ _ _=>⟨j-1,by omega,cmp_ge hge⟩) _,fun hlt=>fin W26 hE26 fun k hk=>?_⟩⟩
  have:k=j-1:=by omega
  subst this
  exact cmp_lt' hlt
 ·have:j=L.length:=by omega
  subst this
  unfold erP
  rw[hp.all];rfl
 ·have:j=L.length:=by omega
  subst this
  rw[hp.all]
  exact⟨_,(hO.ext hE33).row,ha.mono fun _ _ h=>h.ext hE33⟩
theorem polyParse_call {W0 W:PW} {M:Nat→Prop} {s:Sl} {L:List (Mon×ByteArray)} {K:Value→PW→Prop} (h:IsAPoly W s L) (hl:L.length≤1099511627776) (hz: ∀t∈L,t.2.size≤1099511627776) (kont: ∀(s':Sl) (W':PW),Ext W W'→(IsPoly 317 188 W' s' ((parseP L).getD []))→K (.tuple ⟨[.agg ⟨[Sl.v s']⟩,.int .i64 (erP L)]⟩) W'):
  callN Go.Proofs.Tryz.prog W0 M 80 [s.v] W K:=
 callN_of (fun W' hE=>polyParse_ok (M:=fun _=>False) (h.ext hE) hl hz) (fun W' v W'' hE hE' hP=>by
  obtain⟨s',rfl,h⟩:=hP
  exact kont s' W'' (hE.trans hE') h)
def TermsOK (L:List (Mon×ByteArray)) (most exp:Int):Prop:=(L.length:Int)≤most∧∀t∈L,t.2.size≤30∧t.1.x≤exp∧t.1.y≤exp∧t.1.z≤exp
theorem bookTerms_ok {W0:PW} {M:Nat→Prop} {s:Sl} {L:List (Mon×ByteArray)} {most exp:Int} (h:IsAPoly W0 s L) (hl:L.length≤1099511627776):
  PCallsM Go.Proofs.Tryz.prog 79 [s.v,.int .i64 most,.int .i64 exp] W0 M fun v W'=>∃(b:Bool),v = .bool b∧(b=true↔TermsOK L most exp):=by
 apply callbook_Terms
 have hn:=h.n
 have bad:¬TermsOK L most exp→∃b:Bool,(Value.bool false) = .bool b∧(b=true↔TermsOK L most exp):=fun h=>⟨false,rfl,fun e=>(by cases e),fun hp=>absurd hp h⟩
 refine⟨fun hgt W1 _=>bad fun hp=>by have:=hp.1;omega,fun hle=>⟨fun l W=>match l with | [.val (.int .i64 i)]=>Ext W0 W∧∃j:Nat,i=(j:Int)∧j≤L.length∧∀t∈L.take j,t.2.size≤30∧t.1.x≤exp∧t.1.y≤exp∧t.1.z≤exp | _=>False,fun l _=>match l with | [.val (.int .i64 i)]=>L.length-i.toNat | _=>0,⟨Ext.refl _,0,rfl,by omega,fun t ht=>by simp at ht⟩,?_⟩⟩
 rintro i4 W5 ⟨hE,j,rfl,hj,hpre⟩
 refine⟨fun hlt=>?_,fun hge W14 _=>⟨true,rfl,fun _=>⟨by omega,fun t ht=>?_⟩,fun _=>rfl⟩⟩
 ·have hjl:j<L.length:=by omega
  have hL:=h.ext hE
  have hib:=hL.inB (i:=(j:Int)) (by omega) (by omega)
  have hm:=List.getElem_mem hjl
  obtain⟨xs,⟨_,hr⟩,ha⟩:=hL
  obtain⟨x,hx,h0,rfl⟩:=ha.get (List.getElem?_eq_getElem hjl)
  unfold Mon.ok at h0
  refine⟨hib,_,hr.part hx 3 rfl,fun hb W7 _=>bad fun hp=>by have:=hp.2 _ hm;omega,fun hb=>⟨hib,⟨by omega,by omega⟩,_,hr.part hx 0 rfl,by unfold I64;omega,fun hc W9 _=>bad fun hp=>by have:=hp.2 _ hm;omega,fun hc=>⟨hib,⟨by omega,by omega⟩,_,hr.part hx 1 rfl,by unfold I64;omega,fun hd W11 _=>bad fun hp=>by have:=hp.2 _ hm;omega,fun hd=>⟨hib,⟨by omega,by omega⟩,_,hr.part hx 2 rfl,by unfold I64;omega,fun he W13 _=>bad fun hp=>by have:=hp.2 _ hm;omega,fun he=>⟨by unfold I64;omega,⟨hE,j+1,by push_cast;rfl,by omega,fun t ht=>?_⟩,?_⟩⟩⟩⟩⟩
  ·rw[take_snocR hjl] at ht
   rcases List.mem_append.1 ht with ht | ht
   ·exact hpre t ht
   ·simp at ht
    subst ht
    exact⟨by omega,by omega,by omega,by omega⟩
  ·show L.length-Int.toNat ((j:Int)+1)<L.length-Int.toNat (j:Int)
   omega
 ·have:j=L.length:=by omega
  subst this
  rw[List.take_length] at hpre
  exact hpre t ht
theorem bookTerms_call {W0 W:PW} {M:Nat→Prop} {s:Sl} {L:List (Mon×ByteArray)} {most exp:Int} {K:Value→PW→Prop} (h:IsAPoly W s L) (hl:L.length≤1099511627776) (kont: ∀(b:Bool) (W':PW),Ext W W'→((b=true↔TermsOK L most exp))→K (.bool b) W'):
  callN Go.Proofs.Tryz.prog W0 M 79 [s.v,.int .i64 most,.int .i64 exp] W K:=
 callN_of (fun W' hE=>bookTerms_ok (M:=fun _=>False) (h.ext hE) hl) (fun W' v W'' hE hE' hP=>by
  obtain⟨b,rfl,h⟩:=hP
  exact kont b W'' (hE.trans hE') h)
def OfOK (L:List (Mon×ByteArray)) (exp:Int) (p:List Tm):Prop:=PParse L p∧TermsOK L 14 exp
theorem law8Of_ok {W0:PW} {M:Nat→Prop} {s:Sl} {L:List (Mon×ByteArray)} {exp:Int} (h:IsAPoly W0 s L) (hl:L.length≤1099511627776) (hz: ∀t∈L,t.2.size≤1099511627776):
  PCallsM Go.Proofs.Tryz.prog 12 [s.v,.int .i64 exp] W0 M fun v W'=>∃(s1:Sl),∃(s2:Sl),∃(b:Bool),v = .tuple ⟨[.agg ⟨[Sl.v s1]⟩,Sl.v s2,.bool b]⟩∧(b=true→∃p,OfOK L exp p∧IsPoly 317 188 W' s1 p∧IsRPoly 317 195 W' s2 p):=by
 apply calllaw8_Of
 have bad: ∀W':PW,∃(s1 s2:Sl) (b:Bool),(Value.tuple ⟨[.agg ⟨[.slice none 0 0]⟩,.slice none 0 0,.bool false]⟩) = .tuple ⟨[.agg ⟨[Sl.v s1]⟩,Sl.v s2,.bool b]⟩∧(b=true→∃p,OfOK L exp p∧IsPoly 317 188 W' s1 p∧IsRPoly 317 195 W' s2 p):=fun W'=>⟨⟨none,0,0⟩,⟨none,0,0⟩,false,rfl,fun e=>by cases e⟩
 refine refPolyParse_call h hl hz fun s3 W2 hE2 h2=>⟨s3,_,rfl,fun _ W5 _=>bad W5,fun hyes=>bookTerms_call (h.ext hE2) hl fun b8 W7 hE7 hb=>⟨b8,rfl,fun _ W9 _=>bad W9,fun hb8=>polyParse_call (h.ext (hE2.trans hE7)) hl hz fun s12 W11 hE11 h11=>⟨s12,_,rfl,fun W14 hE14=>⟨s12,s3,true,rfl,fun _=>?_⟩⟩⟩⟩
 obtain⟨p,hp⟩: ∃p,parseP L=some p:=Option.isSome_iff_exists.1 (by simpa using hyes)
 rw[hp] at h2 h11
 exact⟨p,⟨parseP_is hp,hb.1 (by simpa using hb8)⟩,h11.ext hE14,h2.ext ((hE7.trans hE11).trans hE14)⟩
theorem law8Of_call {W0 W:PW} {M:Nat→Prop} {s:Sl} {L:List (Mon×ByteArray)} {exp:Int} {K:Value→PW→Prop} (h:IsAPoly W s L) (hl:L.length≤1099511627776) (hz: ∀t∈L,t.2.size≤1099511627776) (kont: ∀(s1:Sl) (s2:Sl) (b:Bool) (W':PW),Ext W W'→((b=true→∃p,OfOK L exp p∧IsPoly 317 188 W' s1 p∧IsRPoly 317 195 W' s2 p))→K (.tuple ⟨[.agg ⟨[Sl.v s1]⟩,Sl.v s2,.bool b]⟩) W'):
  callN Go.Proofs.Tryz.prog W0 M 12 [s.v,.int .i64 exp] W K:=
 callN_of (fun W' hE=>law8Of_ok (M:=fun _=>False) (h.ext hE) hl hz) (fun W' v W'' hE hE' hP=>by
  obtain⟨s1,s2,b,rfl,h⟩:=hP
  exact kont s1 s2 b W'' (hE.trans hE') h)
theorem OfOK.len {L:List (Mon×ByteArray)} {exp:Int} {p:List Tm} (h:OfOK L exp p):p.length≤14:=by
 have h1:=h.1.len
 have h2:=h.2.1
 omega
end Go.Proofs.YthpmkcidkcmlgaaGreat

/- Exponents up to a bound; products that fit. -/
set_option linter.unusedVariables false
set_option linter.unusedSimpArgs false
namespace Go.Proofs.YthpmkcidkcmlgaaGreat
open Go Go.SX
theorem TermsOK.exp {L:List (Mon×ByteArray)} {p:List Tm} {most e:Int} (h:TermsOK L most e) (hp:PParse L p): ∀t∈p,t.1.x≤e∧t.1.y≤e∧t.1.z≤e:=fun t ht=>by
 obtain⟨u,hu,h1,_⟩:=all2_mem hp.1 ht
 have:=(h.2 u hu).2
 rw[h1]
 exact this
def PExp (e:Int) (p:List Tm):Prop:=∀t∈p,t.1.ok∧t.1.x≤e∧t.1.y≤e∧t.1.z≤e
theorem OfOK.exp {L:List (Mon×ByteArray)} {p:List Tm} {e:Int} (h:OfOK L e p) (ho:POk p):PExp e p:=fun t ht=>⟨ho t ht,h.2.exp h.1 t ht⟩
theorem PExp.norm {e:Int} {p:List Tm} (h:PExp e p):PExp e (pnorm p):=fun t ht=>by
 obtain⟨u,hu,h1⟩:=mem_pnorm ht
 rw[h1]
 exact h u hu
theorem PExp.append {e:Int} {p q:List Tm} (h:PExp e p) (k:PExp e q):PExp e (p ++ q):=fun t ht=>by
 rcases List.mem_append.1 ht with ht | ht
 ·exact h t ht
 ·exact k t ht
theorem mulOK_of {e f:Int} {p q:List Tm} (h:PExp e p) (k:PExp f q) (hef:e+f≤255):MulOK p q:=fun a ha b hb=>by
 have h1:=h a ha
 have h2:=k b hb
 unfold Mon.ok at *
 unfold Mon.add
 dsimp only
 omega
theorem mulP_of {p q:List Tm} (h:MulOK p q):mulP p q=pnorm (ppairs p q):=by unfold mulP;rw[if_pos h]
end Go.Proofs.YthpmkcidkcmlgaaGreat

/- whole.Pow, rat.Pow; cinctureref1.times. -/
set_option maxRecDepth 100000
set_option linter.unusedVariables false
set_option linter.unusedSimpArgs false
namespace Go.Proofs.YthpmkcidkcmlgaaGreat
open Go Go.SX
theorem and1 {i:Nat} (h:i<256):bits .and .i64 (i:Int) 1=((i%2:Nat):Int):=by
 have key: ∀i:Nat,i<256→bits .and .i64 (i:Int) 1=((i%2:Nat):Int):=by decide +kernel
 exact key i h
theorem shr1 (i:Nat):ishr (i:Int) 1=((i/2:Nat):Int):=by
 unfold ishr
 rw[Int.fdiv_eq_ediv_of_nonneg _ (by decide)]
 omega
theorem nl_pow {z:Int} {k:Nat} (h:nl z.natAbs≤k) (e:Nat):nl (z^e).natAbs≤k*e+1:=by
 induction e with
 | zero=>simp[nl_one]
 | succ e ih=>
  rw[Int.pow_succ,Int.natAbs_mul]
  have:=nl_mul (z^e).natAbs z.natAbs
  rw[Nat.mul_add]
  omega
theorem wholePow_ok {W0:PW} {M:Nat→Prop} {s:Sl} {b:Bool} {z:Int} {n k:Nat} (h:IsInt 317 W0 s b z) (hz:nl z.natAbs≤k) (hk:k≤1048576) (hn:n≤255):
  PCallsM Go.Proofs.Tryz.prog 194 [.agg ⟨[s.v,.bool b]⟩,.int .i64 (n:Int)] W0 M fun v W'=>∃(s':Sl),∃(b':Bool),v = .agg ⟨[Sl.v s',.bool b']⟩∧IsInt 317 W' s' b' (z^n):=by
 apply callwhole_Pow
 have en:mn (mx (n:Int) 0) 255=(n:Int):=by unfold mn mx;split<;>(try split)<;>omega
 unfold Rwhole_Pow
 rw[en]
 refine wholeOf_call (z:=1) (by unfold I64;omega) fun s3 b4 W2 hE2 h2=>⟨s3,b4,rfl,?_⟩
 refine⟨fun l W=>match l with
  | [.val (.int .i64 i),.cells [.slice A m c,.bool x],.cells [.slice A' m' c',.bool y]]=>∃(j e f:Nat),i=(j:Int)∧Ext W0 W∧f+e*j=n∧e≤2*n+1∧j≤255∧IsInt 317 W ⟨A,m,c⟩ x (z^f)∧IsInt 317 W ⟨A',m',c'⟩ y (z^e)
  | _=>False,fun l _=>match l with | [.val (.int .i64 i),_,_]=>i.toNat | _=>0,⟨n,1,0,rfl,hE2,by omega,by omega,hn,by simpa using h2,by rw[show z^1=z by rw[Int.pow_succ,Int.pow_zero,Int.one_mul]];exact h.ext hE2⟩,?_⟩
 rintro s7 b8 s9 b10 i11 W12 ⟨j,e,f,rfl,hE,hfe,he,hj,hf1,hf2⟩
 have hf1:IsInt 317 W12 s7 b8 (z^f):=hf1
 have hf2:IsInt 317 W12 s9 b10 (z^e):=hf2
 have hjn:e*j≤n:=by omega
 refine⟨fun hpos=>?_,fun hz0 W25 hE25=>⟨s7,b8,rfl,?_⟩⟩
 ·have hj1:1≤j:=by omega
  have hen:e≤n:=Nat.le_trans (Nat.le_mul_of_pos_right e hj1) hjn
  have hsz: ∀x,x≤511→nl (z^x).natAbs≤68719476736:=fun x hx=>by
   have h1:=nl_pow hz x
   have h2:=Nat.mul_le_mul hk hx
   omega
  have hee:(e+e)*(j/2)=e*(2*(j/2)):=by rw[←Nat.two_mul,Nat.mul_comm 2 e,Nat.mul_assoc]
  have hi:Int.toNat (ishr (j:Int) 1)<Int.toNat (j:Int):=by rw[shr1];omega
  refine⟨fun hodd=>?_,fun heven=>?_⟩
  ·have ho:j%2=1:=by rw[and1 (by omega)] at hodd;omega
   have hj2:j=2*(j/2)+1:=by omega
   have hej:e*j=e*(2*(j/2))+e:=by conv=>lhs;rw[hj2,Nat.mul_add,Nat.mul_one]
   refine wholeMul_call hf1 hf2 (hsz f (by omega)) (hsz e (by omega)) fun s15 b16 W14 hE14 h14=>⟨s15,b16,rfl,wholeMul_call (hf2.ext hE14) (hf2.ext hE14) (hsz e (by omega)) (hsz e (by omega)) fun s19 b20 W18 hE18 h18=>⟨s19,b20,rfl,⟨j/2,e+e,f+e,by rw[shr1],hE.trans (hE14.trans hE18),by omega,by omega,by omega,?_,?_⟩,hi⟩⟩
   ·rw[Int.pow_add];exact h14.ext hE18
   ·rw[Int.pow_add];exact h18
  ·have ho:j%2=0:=by
    rw[and1 (by omega)] at heven
    omega
   have hj2:j=2*(j/2):=by omega
   have hej:e*j=e*(2*(j/2)):=by conv=>lhs;rw[hj2]
   refine wholeMul_call hf2 hf2 (hsz e (by omega)) (hsz e (by omega)) fun s23 b24 W22 hE22 h22=>⟨s23,b24,rfl,⟨j/2,e+e,f,by rw[shr1],hE.trans hE22,by omega,by omega,by omega,hf1.ext hE22,?_⟩,hi⟩
   rw[Int.pow_add];exact h22
 ·have:j=0:=by omega
  subst this
  rw[Nat.mul_zero,Nat.add_zero] at hfe
  rw[←hfe]
  exact hf1.ext hE25
theorem wholePow_call {W0 W:PW} {M:Nat→Prop} {s:Sl} {b:Bool} {z:Int} {n k:Nat} {K:Value→PW→Prop} (h:IsInt 317 W s b z) (hz:nl z.natAbs≤k) (hk:k≤1048576) (hn:n≤255) (kont: ∀(s':Sl) (b':Bool) (W':PW),Ext W W'→(IsInt 317 W' s' b' (z^n))→K (.agg ⟨[Sl.v s',.bool b']⟩) W'):
  callN Go.Proofs.Tryz.prog W0 M 194 [.agg ⟨[s.v,.bool b]⟩,.int .i64 (n:Int)] W K:=
 callN_of (fun W' hE=>wholePow_ok (M:=fun _=>False) (h.ext hE) hz hk hn) (fun W' v W'' hE hE' hP=>by
  obtain⟨s',b',rfl,h⟩:=hP
  exact kont s' b' W'' (hE.trans hE') h)
theorem dn_pow (q:Rat) (n:Nat):dn (q^n)=if dn q=0∨n=0 then 0 else q.den^n:=by
 unfold dn
 rw[Rat.den_pow]
 by_cases h1:q.den=1
 ·simp[h1]
 ·by_cases h2:n=0
  ·subst h2;simp
  ·have:q.den^n≠1:=by
    have hd:=q.den_nz
    obtain⟨m,rfl⟩: ∃m,n=m+1:=⟨n-1,by omega⟩
    rw[Nat.pow_succ]
    have:1≤q.den^m:=Nat.pow_pos (by omega)
    have:=Nat.mul_le_mul this (show 2≤q.den by omega)
    omega
   have hz:q.den≠0:=q.den_nz
   simp[h1,h2,this,hz]
theorem ratPow_ok {W0:PW} {M:Nat→Prop} {s t:Sl} {b:Bool} {q:Rat} {n k:Nat} (h:IsRat 317 W0 s b t q) (hz:Sz k q) (hk:k≤1048576) (hn:n≤255):
  PCallsM Go.Proofs.Tryz.prog 131 [.agg ⟨[s.v,.bool b,t.v]⟩,.int .i64 (n:Int)] W0 M fun v W'=>∃(s':Sl),∃(b':Bool),∃(t':Sl),v = .agg ⟨[Sl.v s',.bool b',Sl.v t']⟩∧IsRat 317 W' s' b' t' (q^n):=by
 apply callrat_Pow
 have hd:=hz.dn
 refine wholePow_call h.1 hz.1 hk hn fun s3 b4 W2 hE2 h2=>⟨s3,b4,rfl,natBits_call (h.2.ext hE2) (by omega) fun W6 hE6 _=>⟨_,rfl,fun hb=>⟨fun hn0=>?_,fun hn0 W20 hE20=>⟨s3,b4,⟨none,0,0⟩,rfl,(h2.ext hE6).ext hE20,?_⟩⟩,fun hb W21 hE21=>⟨s3,b4,⟨none,0,0⟩,rfl,(h2.ext hE6).ext hE21,?_⟩⟩⟩
 ·refine ratDen_call (h.ext (hE2.trans hE6)) hz (by omega) fun s10 b11 W9 hE9 h9=>⟨s10,b11,rfl,wholePow_call h9 (by rw[Int.natAbs_natCast];exact hz.2) hk hn fun s14 b15 W13 hE13 h13=>⟨s14,b15,rfl,wholeAbs_call h13 fun s18 W17 hE17 h17=>⟨s18,rfl,fun W19 hE19=>⟨s3,b4,s18,rfl,(h2.ext (hE6.trans (hE9.trans (hE13.trans hE17)))).ext hE19,?_⟩⟩⟩⟩
  have hdq:dn q≠0:=fun e=>by
   rw[e] at hb
   simp[blen] at hb
  have e:dn (q^n)=q.den^n:=by rw[dn_pow,if_neg (by omega)]
  rw[e]
  have e2:((q.den:Int)^n).natAbs=q.den^n:=by rw[Int.natAbs_pow,Int.natAbs_natCast]
  rw[e2] at h17
  exact h17.ext hE19
 ·have:n=0:=by omega
  rw[dn_pow,if_pos (.inr this)]
  exact isNat_zero W20
 ·have:dn q=0:=(blen_eq_zero (x:=dn q)).1 (by omega)
  rw[dn_pow,if_pos (.inl this)]
  exact isNat_zero W21
theorem ratPow_call {W0 W:PW} {M:Nat→Prop} {s t:Sl} {b:Bool} {q:Rat} {n k:Nat} {K:Value→PW→Prop} (h:IsRat 317 W s b t q) (hz:Sz k q) (hk:k≤1048576) (hn:n≤255) (kont: ∀(s':Sl) (b':Bool) (t':Sl) (W':PW),Ext W W'→(IsRat 317 W' s' b' t' (q^n))→K (.agg ⟨[Sl.v s',.bool b',Sl.v t']⟩) W'):
  callN Go.Proofs.Tryz.prog W0 M 131 [.agg ⟨[s.v,.bool b,t.v]⟩,.int .i64 (n:Int)] W K:=
 callN_of (fun W' hE=>ratPow_ok (M:=fun _=>False) (h.ext hE) hz hk hn) (fun W' v W'' hE hE' hP=>by
  obtain⟨s',b',t',rfl,h⟩:=hP
  exact kont s' b' t' W'' (hE.trans hE') h)
end Go.Proofs.YthpmkcidkcmlgaaGreat

/- cinctureref1.times; poly.At, cinctureref1.At. -/
set_option maxRecDepth 100000
set_option linter.unusedVariables false
set_option linter.unusedSimpArgs false
namespace Go.Proofs.YthpmkcidkcmlgaaGreat
open Go Go.SX
theorem eget_le {m:Mon} (h:m.ok) (i:Nat):(eget m i).toNat≤255:=by
 have:=eget_ok h i
 omega
end Go.Proofs.YthpmkcidkcmlgaaGreat

/- poly.Same. -/
set_option maxRecDepth 100000
set_option linter.unusedVariables false
set_option linter.unusedSimpArgs false
namespace Go.Proofs.YthpmkcidkcmlgaaGreat
open Go Go.SX
theorem sameTm_ok {W0:PW} {M:Nat→Prop} {a b:Mon} {s1 s2 s3 s4:Sl} {b1 b2:Bool} {q r:Rat} {k:Nat} (h1:IsRat 317 W0 s1 b1 s2 q) (h2:IsRat 317 W0 s3 b2 s4 r) (hq:Sz k q) (hr:Sz k r) (hk:k≤34359738368):
  PCallsM Go.Proofs.Tryz.prog 101 [.agg ⟨[.int .u8 a.x,.int .u8 a.y,.int .u8 a.z,s1.v,.bool b1,s2.v]⟩,.agg ⟨[.int .u8 b.x,.int .u8 b.y,.int .u8 b.z,s3.v,.bool b2,s4.v]⟩] W0 M fun v W'=>v = .bool (decide (a=b∧q=r))∧True:=by
 apply callpoly_Same_1
 refine⟨fun he=>ratCmp_call h1 h2 hq hr hk hk fun W2 hE2 _=>⟨_,rfl,fun W4 _=>⟨?_,trivial⟩⟩,fun hne W5 _=>⟨?_,trivial⟩⟩
 ·have he:=mon_cells.1 he
  congr 1
  rw[decide_eq_decide,cmpQ_zero]
  exact⟨fun h=>⟨he,h⟩,fun h=>h.2⟩
 ·rw[decide_eq_false fun h=>hne (mon_cells.2 h.1)]
theorem sameTm_call {W0 W:PW} {M:Nat→Prop} {a b:Mon} {s1 s2 s3 s4:Sl} {b1 b2:Bool} {q r:Rat} {k:Nat} {K:Value→PW→Prop} (h1:IsRat 317 W s1 b1 s2 q) (h2:IsRat 317 W s3 b2 s4 r) (hq:Sz k q) (hr:Sz k r) (hk:k≤34359738368) (kont: ∀(W':PW),Ext W W'→(True)→K (.bool (decide (a=b∧q=r))) W'):
  callN Go.Proofs.Tryz.prog W0 M 101 [.agg ⟨[.int .u8 a.x,.int .u8 a.y,.int .u8 a.z,s1.v,.bool b1,s2.v]⟩,.agg ⟨[.int .u8 b.x,.int .u8 b.y,.int .u8 b.z,s3.v,.bool b2,s4.v]⟩] W K:=
 callN_of (fun W' hE=>sameTm_ok (M:=fun _=>False) (h1.ext hE) (h2.ext hE) hq hr hk) (fun W' v W'' hE hE' hP=>by
  obtain⟨rfl,h⟩:=hP
  exact kont W'' (hE.trans hE') h)
theorem eqTms_ok {W0:PW} {M:Nat→Prop} {s t:Sl} {p q:List Tm} {k:Nat} (h1:IsPoly 317 188 W0 s p) (h2:IsPoly 317 188 W0 t q) (hp: ∀t∈p,Sz k t.2) (hq: ∀t∈q,Sz k t.2) (hk:k≤34359738368) (hl:p.length≤1099511627776):
  PCallsM Go.Proofs.Tryz.prog 100 [s.v,t.v,.func (.func 101) #[] #[]] W0 M fun v W'=>v = .bool (decide (p=q))∧True:=by
 apply callslices_EqualFunc_poly_Term_poly_Term_poly_Term_poly_Term
 have n1:=h1.n
 have n2:=h2.n
 refine⟨fun hne W1 _=>⟨?_,trivial⟩,fun heq=>?_⟩
 ·rw[decide_eq_false]
  rintro rfl
  omega
 have hlen:p.length=q.length:=by omega
 refine⟨fun L W=>match L with | [.val (.int .i64 i)]=>Ext W0 W∧∃j:Nat,i=(j:Int)∧j≤p.length∧p.take j=q.take j | _=>False,fun l _=>match l with | [.val (.int .i64 i)]=>p.length-i.toNat | _=>0,⟨Ext.refl _,0,rfl,by omega,rfl⟩,?_⟩
 rintro i4 W5 ⟨hE,j,rfl,hj,ht⟩
 refine⟨fun hlt=>?_,fun hge W22 _=>⟨?_,trivial⟩⟩
 ·have hjl:j<p.length:=by omega
  have hjq:j<q.length:=by omega
  have hP:=h1.ext hE
  have hQ:=h2.ext hE
  obtain⟨o1,a1,b1,c1,e1,_,_,r1⟩:=hP.at (List.getElem?_eq_getElem hjl)
  obtain⟨o2,a2,b2,c2,e2,_,_,r2⟩:=hQ.at (List.getElem?_eq_getElem hjq)
  refine⟨hP.inB (by omega) (by omega),_,_,_,a1,b1,c1,e1,hQ.inB (by omega) (by omega),_,_,_,a2,b2,c2,e2,sameTm_call r1 r2 (hp _ (List.getElem_mem hjl)) (hq _ (List.getElem_mem hjq)) hk fun W19 hE19 _=>⟨_,rfl,fun hno W21 _=>⟨?_,trivial⟩,fun hyes=>⟨by unfold I64;omega,⟨hE.trans hE19,j+1,by push_cast;rfl,by omega,?_⟩,?_⟩⟩⟩
  ·rw[decide_eq_false]
   rintro rfl
   simp at hno
  ·rw[take_snocR hjl,take_snocR hjq,ht]
   have he:p[j].1=q[j].1∧p[j].2=q[j].2:=by simpa using hyes
   rw[show p[j]=q[j] from Prod.ext he.1 he.2]
  ·show p.length-Int.toNat ((j:Int)+1)<p.length-Int.toNat (j:Int)
   omega
 ·have:j=p.length:=by omega
  subst this
  rw[List.take_length,hlen,List.take_length] at ht
  rw[decide_eq_true ht]
theorem eqTms_call {W0 W:PW} {M:Nat→Prop} {s t:Sl} {p q:List Tm} {k:Nat} {K:Value→PW→Prop} (h1:IsPoly 317 188 W s p) (h2:IsPoly 317 188 W t q) (hp: ∀t∈p,Sz k t.2) (hq: ∀t∈q,Sz k t.2) (hk:k≤34359738368) (hl:p.length≤1099511627776) (kont: ∀(W':PW),Ext W W'→(True)→K (.bool (decide (p=q))) W'):
  callN Go.Proofs.Tryz.prog W0 M 100 [s.v,t.v,.func (.func 101) #[] #[]] W K:=
 callN_of (fun W' hE=>eqTms_ok (M:=fun _=>False) (h1.ext hE) (h2.ext hE) hp hq hk hl) (fun W' v W'' hE hE' hP=>by
  obtain⟨rfl,h⟩:=hP
  exact kont W'' (hE.trans hE') h)
theorem polySame_ok {W0:PW} {M:Nat→Prop} {s t:Sl} {p q:List Tm} {k:Nat} (h1:IsPoly 317 188 W0 s p) (h2:IsPoly 317 188 W0 t q) (hp: ∀t∈p,Sz k t.2) (hq: ∀t∈q,Sz k t.2) (hk:k≤34359738368) (hl:p.length≤1099511627776):
  PCallsM Go.Proofs.Tryz.prog 22 [.agg ⟨[s.v]⟩,.agg ⟨[t.v]⟩] W0 M fun v W'=>v = .bool (decide (p=q))∧True:=by
 apply callpoly_Same
 exact eqTms_call h1 h2 hp hq hk hl fun W2 _ _=>⟨_,rfl,fun W4 _=>⟨rfl,trivial⟩⟩
theorem polySame_call {W0 W:PW} {M:Nat→Prop} {s t:Sl} {p q:List Tm} {k:Nat} {K:Value→PW→Prop} (h1:IsPoly 317 188 W s p) (h2:IsPoly 317 188 W t q) (hp: ∀t∈p,Sz k t.2) (hq: ∀t∈q,Sz k t.2) (hk:k≤34359738368) (hl:p.length≤1099511627776) (kont: ∀(W':PW),Ext W W'→(True)→K (.bool (decide (p=q))) W'):
  callN Go.Proofs.Tryz.prog W0 M 22 [.agg ⟨[s.v]⟩,.agg ⟨[t.v]⟩] W K:=
 callN_of (fun W' hE=>polySame_ok (M:=fun _=>False) (h1.ext hE) (h2.ext hE) hp hq hk hl) (fun W' v W'' hE hE' hP=>by
  obtain⟨rfl,h⟩:=hP
  exact kont W'' (hE.trans hE') h)
end Go.Proofs.YthpmkcidkcmlgaaGreat
