/- cinctureref1.PolyParse, poly.Parse, book.Terms, law8.Of. -/
import Derived.Test.YtokefihiadbkbaaGreatDoorW7
import Derived.Test.YtokefihiadbkbaaGreatDoorLib3
import Derived.Test.YtokefihiadbkbaaGreatDoorW3
import Derived.Test.YtokefihiadbkbaaGreatDoorLib5
import Derived.Test.YtokefihiadbkbaaGreatDoorR17
import Derived.Test.YtokefihiadbkbaaGreatDoorR8
import Derived.Test.YtokefihiadbkbaaGreatDoorLib2
import Derived.Test.YtokefihiadbkbaaGreatDoorLib4
import Derived.Test.YtokefihiadbkbaaGreatDoorR13
set_option linter.unusedVariables false
set_option linter.unusedSimpArgs false
set_option maxRecDepth 100000
namespace Go.Proofs.YtokefihiadbkbaaGreatDoor
open Go Go.SX
def ppI (C:PW→List Value→Tm→Prop) (W0:PW) (L:List (Mon×ByteArray)) (l:List PL) (W:PW):Prop:=match l with
 | [.row xs,.val (.int .i64 i)]=>∃(j:Nat) (p:List Tm),i=(j:Int)∧j≤L.length∧Ext W0 W∧An5 (C W) xs p∧Af1 (L.take j) p
 | _=>False
theorem Fd6 {a b:Mon} (h:0≤a.cmp b):¬a.lt b:=fun hl=>by
 have:=Mon.Dm2.2 hl
 omega
theorem Em9 {a b:Mon} (h:¬0≤a.cmp b):a.lt b:=Mon.Dm2.1 (by omega)
theorem Bx6 {W0:PW} {M:Nat→Prop} {s:Sl} {L:List (Mon×ByteArray)} (h:Af3 W0 s L) (hl:L.length≤1099511627776) (hz: ∀t∈L,t.2.size≤1099511627776):
  Aa0 Tryz.prog 51 [s.v] W0 M fun v W'=>∃(s':Sl),v = .tuple ⟨[Sl.v s',.bool (Ai8 L).isSome]⟩∧Ag1 231 142 W' s' ((Ai8 L).getD []):=by
 apply Bf0
 have hn:=h.n
 have bad:Ai8 L=none→∀W':PW,∃s':Sl,(Value.tuple ⟨[.slice none 0 0,.bool false]⟩) = .tuple ⟨[Sl.v s',.bool (Ai8 L).isSome]⟩∧Ag1 231 142 W' s' ((Ai8 L).getD []):=fun h W'=>by
  rw[h]
  exact⟨⟨none,0,0⟩,rfl,Ag1.nil W'⟩
 refine⟨ppI (RT 231) W0 L,cnL L.length,⟨0,[],rfl,by omega,Ext.refl _,trivial,Af1.nil⟩,?_⟩
 rintro l3 i4 W5 ⟨j,p,rfl,hj,hE5,ha,hp⟩
 have hal:=ha.len
 have hpl:=hp.len
 rw[List.length_take] at hpl
 refine⟨fun hlt=>?_,fun hge s34 W35 hE35 hO _ W36 hE36=>⟨s34,?_,?_⟩⟩
 ·have hjl:j<L.length:=by omega
  have hL:=h.ext hE5
  have hib:=hL.inB (i:=(j:Int)) (by omega) (by omega)
  obtain⟨h0,_,_,e3⟩:=hL.at (List.getElem?_eq_getElem hjl)
  refine⟨hib,_,e3,An7 (hz _ (List.getElem_mem hjl)) fun b9 s10 s11 W8 hE8 h8=>⟨b9,s10,s11,_,rfl,fun hno W13 _=>bad (Af1.bad hjl fun q hq _=>by rw[hq] at hno;cases hno) _,fun hyes=>?_⟩⟩
  obtain⟨q,hq⟩: ∃q,Ab7 L[j].2=some q:=Option.isSome_iff_exists.1 (by simpa using hyes)
  rw[hq] at h8
  have h8:Ab6 231 W8 b9 s10 s11 q:=h8
  refine Aq7 h8.1 fun W15 hE15 _=>⟨_,rfl,fun h0' W17 _=>bad (Af1.bad hjl fun q' hq' hne=>by rw[hq] at hq';cases hq';exact absurd (Ds5.1 (Ds0.1 h0')) hne) _,fun hne=>?_⟩
  have hq0:q≠0:=fun e=>hne (Ds0.2 (Ds5.2 e))
  have hE:=hE8.trans hE15
  have hmu:L.length-Int.toNat ((j:Int)+1)<L.length-Int.toNat (j:Int):=by omega
  have hL15:=hL.ext hE
  obtain⟨_,_,e2,_⟩:=hL15.at (List.getElem?_eq_getElem hjl)
  refine⟨fun hj0=>?_,fun hj0=>⟨hib,_,_,_,e2,Ext.refl _,by simp;omega,Ext.refl _,by unfold I64;omega,⟨j+1,_,by push_cast;rfl,by omega,hE5.trans hE,(ha.mono fun _ _ h=>h.ext hE).snoc ⟨h0,b9,s10,s11,rfl,h8.ext hE15⟩,hp.snoc hjl hq hq0 fun k hk=>absurd hk (by omega)⟩,hmu⟩⟩
  have hj1:(((j:Int)-1).toNat)=j-1:=by omega
  have hjm:j-1<L.length:=by omega
  obtain⟨hm0,_,em,_⟩:=hL15.at (List.getElem?_eq_getElem hjm)
  refine⟨by unfold I64;omega,hL.inB (by omega) (by omega),_,_,_,by rw[hj1];exact em,hib,_,_,_,e2,Bx0 hm0 h0 fun W25 hE25 _=>⟨_,rfl,fun hge W27 _=>bad (Af1.bad hjl fun _ _ _=>⟨j-1,by omega,Fd6 hge⟩) _,fun hlt=>?_⟩⟩
  obtain⟨_,_,e2',_⟩:=(hL15.ext hE25).at (List.getElem?_eq_getElem hjl)
  refine⟨hib,_,_,_,e2',Ext.refl _,by simp;omega,Ext.refl _,by unfold I64;omega,⟨j+1,_,by push_cast;rfl,by omega,hE5.trans (hE.trans hE25),(ha.mono fun _ _ h=>h.ext (hE.trans hE25)).snoc ⟨h0,b9,s10,s11,rfl,h8.ext (hE15.trans hE25)⟩,hp.snoc hjl hq hq0 fun k hk=>?_⟩,hmu⟩
  have:k=j-1:=by omega
  subst this
  exact Em9 hlt
 ·have:j=L.length:=by omega
  subst this
  rw[hp.all];rfl
 ·have:j=L.length:=by omega
  subst this
  rw[hp.all]
  exact⟨_,(hO.ext hE36).row,ha.mono fun _ _ h=>h.ext (hE35.trans hE36)⟩
theorem Bg5 {W0 W:PW} {M:Nat→Prop} {s:Sl} {L:List (Mon×ByteArray)} {K:Value→PW→Prop} (h:Af3 W s L) (hl:L.length≤1099511627776) (hz: ∀t∈L,t.2.size≤1099511627776) (kont: ∀(s':Sl) (W':PW),Ext W W'→(Ag1 231 142 W' s' ((Ai8 L).getD []))→K (.tuple ⟨[Sl.v s',.bool (Ai8 L).isSome]⟩) W'):
  Aa1 Tryz.prog W0 M 51 [s.v] W K:=
 Aa2 (fun W' hE=>Bx6 (M:=fun _=>False) (h.ext hE) hl hz) (fun W' v W'' hE hE' hP=>by
  obtain⟨s',rfl,h⟩:=hP
  exact kont s' W'' (hE.trans hE') h)
noncomputable def erP (L:List (Mon×ByteArray)):Int:=if(Ai8 L).isSome then 0 else 2
def paI (n0:Nat) (W0:PW) (L:List (Mon×ByteArray)) (l:List PL) (W:PW):Prop:=match l with
 | [.val (.int .i64 i),_,.cells [.slice A n c]]=>∃(j:Nat) (xs:List (List Value)) (p:List Tm),i=(j:Int)∧j≤L.length∧Eo1 n0 W0 W∧Go.SX.Own W 138 6 ⟨A,n,c⟩ xs∧(∀g,(Value.slice A n c).ownBlock=some g→n0≤g)∧An5 (PT 231 W) xs p∧Af1 (L.take j) p
 | _=>False
theorem Dd0 {W:PW} {t:TypeId} {sz:Nat} :Go.SX.Own W t sz ⟨none,0,0⟩ []:=⟨⟨by simp,by simp,.inl ⟨rfl,rfl⟩⟩,fun g hg=>by simp[Sl.v,Value.ownBlock] at hg⟩
theorem Cy1 {W0:PW} {M:Nat→Prop} {s:Sl} {L:List (Mon×ByteArray)} (h:Af3 W0 s L) (hl:L.length≤1099511627776) (hz: ∀t∈L,t.2.size≤1099511627776):
  Aa0 Tryz.prog 53 [s.v] W0 M fun v W'=>∃(s':Sl),v = .tuple ⟨[.agg ⟨[Sl.v s']⟩,.int .i64 (erP L)]⟩∧Ab0 231 138 W' s' ((Ai8 L).getD []):=by
 apply Ca9
 have hn:=h.n
 have bad:Ai8 L=none→∀W':PW,∃s':Sl,(Value.tuple ⟨[.agg ⟨[.slice none 0 0]⟩,.int .i64 2]⟩) = .tuple ⟨[.agg ⟨[Sl.v s']⟩,.int .i64 (erP L)]⟩∧Ab0 231 138 W' s' ((Ai8 L).getD []):=fun h W'=>by
  unfold erP
  rw[h]
  exact⟨⟨none,0,0⟩,rfl,Ab0.nil W'⟩
 refine⟨paI W0.w.heap.size W0 L,fun l _=>match l with | [.val (.int .i64 i),_,_]=>L.length-i.toNat | _=>0,⟨0,[],[],rfl,by omega,Au9.refl _ _,Dd0,fun g hg=>by simp[Value.ownBlock] at hg,trivial,Af1.nil⟩,?_⟩
 rintro s3 s4 i5 W6 ⟨j,xs,p,rfl,hj,hEN,hO,hfr,ha,hp⟩
 have hO:Go.SX.Own W6 138 6 s4 xs:=hO
 have hfr: ∀g,s4.v.ownBlock=some g→W0.w.heap.size≤g:=hfr
 have hal:=ha.len
 have hpl:=hp.len
 rw[List.length_take] at hpl
 refine⟨fun hlt=>?_,fun hge W33 hE33=>⟨s4,?_,?_⟩⟩
 ·have hjl:j<L.length:=by omega
  have hL:=h.new hEN (Nat.le_refl _)
  have hib:=hL.inB (i:=(j:Int)) (by omega) (by omega)
  obtain⟨h0,e1,_,_⟩:=hL.at (List.getElem?_eq_getElem hjl)
  refine⟨hib,_,_,_,_,e1,As8 (hz _ (List.getElem_mem hjl)) fun s13 b14 s15 W12 hE12 h12=>⟨s13,b14,s15,_,rfl,fun hno W17 _=>bad (Af1.bad hjl fun q hq _=>by rw[hq] at hno;exact absurd rfl hno) _,fun hyes=>?_⟩⟩
  obtain⟨q,hq⟩: ∃q,Ab7 L[j].2=some q:=by
   cases hq:Ab7 L[j].2 with
   | none=>rw[hq] at hyes;exact absurd (by decide) hyes
   | some q=>exact⟨q,rfl⟩
  rw[hq] at h12
  have h12:Ab3 231 W12 s13 b14 s15 q:=h12
  refine Bk6 h12 (Aw6 hq).1 (by omega) fun W19 hE19 _=>⟨_,rfl,fun h0' W21 _=>bad (Af1.bad hjl fun q' hq' hne=>by rw[hq] at hq';cases hq';exact absurd ((Be6 _ _).1 h0') hne) _,fun hne=>?_⟩
  have hq0:q≠0:=fun e=>hne ((Be6 _ _).2 e)
  have hE:=hE12.trans hE19
  have hmu:L.length-Int.toNat ((j:Int)+1)<L.length-Int.toNat (j:Int):=by omega
  have hL19:=hL.ext hE
  have fin: ∀W,Ext W19 W→(∀k (hk:k+1=j),(L[k]'(by omega)).1.lt L[j].1)→Es7 W0 M 138 6 64 s4 [[.int .u8 L[j].1.x,.int .u8 L[j].1.y,.int .u8 L[j].1.z,s13.v,.bool b14,s15.v]] W fun s29 W30=>I64 ((j:Int)+1)∧paI W0.w.heap.size W0 L [.val (.int .i64 ((j:Int)+1)),.cells [s3.v],.cells [s29.v]] W30∧L.length-Int.toNat ((j:Int)+1)<L.length-Int.toNat (j:Int):=by
   intro W hEW hlt W' hE'
   have hE2:=(hE.trans hEW).trans hE'
   have hO':=hO.ext hE2
   refine⟨xs,hO',fun g hg=>.inr (hfr g hg),by simp;omega,fun s' W'' hX hO'' hob=>⟨by unfold I64;omega,⟨j+1,_,p ++ [(L[j].1,q)],by push_cast;rfl,by omega,(hEN.trans (hE2.toM _)).trans (hX.mono fun g hg=>hfr g hg),hO'',fun g hg=>?_,?_,hp.snoc hjl hq hq0 hlt⟩,hmu⟩⟩
   ·rcases hob g hg with h | h
    ·exact hfr g h
    ·exact Nat.le_trans (Nat.le_trans hEN.size hE2.size) h
   ·exact((ha.mono fun _ _ h=>PT.own hO' hX (by decide:231≠138) (h.ext hE2))).snoc ⟨h0,s13,b14,s15,rfl,Ab3.own hO' hX (by decide:231≠138) (h12.ext ((hE19.trans hEW).trans hE'))⟩
  refine⟨fun hj0=>?_,fun hj0=>fin W19 (Ext.refl _) fun k hk=>absurd hk (by omega)⟩
  have hj1:(((j:Int)-1).toNat)=j-1:=by omega
  have hjm:j-1<L.length:=by omega
  obtain⟨hm0,_,em,_⟩:=hL19.at (List.getElem?_eq_getElem hjm)
  refine⟨by unfold I64;omega,hL.inB (by omega) (by omega),_,_,_,by rw[hj1];exact em,Bk9 hm0 h0 fun W26 hE26 _=>⟨_,rfl,fun hge W28 _=>bad (Af1.bad hjl fun _ _ _=>⟨j-1,by omega,Fd6 hge⟩) _,fun hlt=>fin W26 hE26 fun k hk=>?_⟩⟩
  have:k=j-1:=by omega
  subst this
  exact Em9 hlt
 ·have:j=L.length:=by omega
  subst this
  unfold erP
  rw[hp.all];rfl
 ·have:j=L.length:=by omega
  subst this
  rw[hp.all]
  exact⟨_,(hO.ext hE33).row,ha.mono fun _ _ h=>h.ext hE33⟩
theorem Cc0 {W0 W:PW} {M:Nat→Prop} {s:Sl} {L:List (Mon×ByteArray)} {K:Value→PW→Prop} (h:Af3 W s L) (hl:L.length≤1099511627776) (hz: ∀t∈L,t.2.size≤1099511627776) (kont: ∀(s':Sl) (W':PW),Ext W W'→(Ab0 231 138 W' s' ((Ai8 L).getD []))→K (.tuple ⟨[.agg ⟨[Sl.v s']⟩,.int .i64 (erP L)]⟩) W'):
  Aa1 Tryz.prog W0 M 53 [s.v] W K:=
 Aa2 (fun W' hE=>Cy1 (M:=fun _=>False) (h.ext hE) hl hz) (fun W' v W'' hE hE' hP=>by
  obtain⟨s',rfl,h⟩:=hP
  exact kont s' W'' (hE.trans hE') h)
def Bp6 (L:List (Mon×ByteArray)) (most exp:Int):Prop:=(L.length:Int)≤most∧∀t∈L,t.2.size≤30∧t.1.x≤exp∧t.1.y≤exp∧t.1.z≤exp
theorem Db1 {W0:PW} {M:Nat→Prop} {s:Sl} {L:List (Mon×ByteArray)} {most exp:Int} (h:Af3 W0 s L) (hl:L.length≤1099511627776):
  Aa0 Tryz.prog 52 [s.v,.int .i64 most,.int .i64 exp] W0 M fun v W'=>∃(b:Bool),v = .bool b∧(b=true↔Bp6 L most exp):=by
 apply Bz5
 have hn:=h.n
 have bad:¬Bp6 L most exp→∃b:Bool,(Value.bool false) = .bool b∧(b=true↔Bp6 L most exp):=fun h=>⟨false,rfl,fun e=>(by cases e),fun hp=>absurd hp h⟩
 refine⟨fun hgt W1 _=>bad fun hp=>by have:=hp.1;omega,fun hle=>⟨fun l W=>match l with | [.val (.int .i64 i)]=>Ext W0 W∧∃j:Nat,i=(j:Int)∧j≤L.length∧∀t∈L.take j,t.2.size≤30∧t.1.x≤exp∧t.1.y≤exp∧t.1.z≤exp | _=>False,fun l _=>match l with | [.val (.int .i64 i)]=>L.length-i.toNat | _=>0,⟨Ext.refl _,0,rfl,by omega,fun t ht=>by simp at ht⟩,?_⟩⟩
 rintro i4 W5 ⟨hE,j,rfl,hj,hpre⟩
 refine⟨fun hlt=>?_,fun hge W14 _=>⟨true,rfl,fun _=>⟨by omega,fun t ht=>?_⟩,fun _=>rfl⟩⟩
 ·have hjl:j<L.length:=by omega
  have hL:=h.ext hE
  have hib:=hL.inB (i:=(j:Int)) (by omega) (by omega)
  have hm:=List.getElem_mem hjl
  obtain⟨xs,⟨_,hr⟩,ha⟩:=hL
  obtain⟨x,hx,h0,rfl⟩:=ha.get (List.getElem?_eq_getElem hjl)
  unfold Mon.ok at h0
  refine⟨hib,_,hr.part hx 3 rfl,fun hb W7 _=>bad fun hp=>by have:=hp.2 _ hm;omega,fun hb=>⟨hib,⟨by omega,by omega⟩,_,hr.part hx 0 rfl,by unfold I64;omega,fun hc W9 _=>bad fun hp=>by have:=hp.2 _ hm;omega,fun hc=>⟨hib,⟨by omega,by omega⟩,_,hr.part hx 1 rfl,by unfold I64;omega,fun hd W11 _=>bad fun hp=>by have:=hp.2 _ hm;omega,fun hd=>⟨hib,⟨by omega,by omega⟩,_,hr.part hx 2 rfl,by unfold I64;omega,fun he W13 _=>bad fun hp=>by have:=hp.2 _ hm;omega,fun he=>⟨by unfold I64;omega,⟨hE,j+1,by push_cast;rfl,by omega,fun t ht=>?_⟩,?_⟩⟩⟩⟩⟩
  ·rw[Ce0 hjl] at ht
   rcases List.mem_append.1 ht with ht | ht
   ·exact hpre t ht
   ·simp at ht
    subst ht
    exact⟨by omega,by omega,by omega,by omega⟩
  ·show L.length-Int.toNat ((j:Int)+1)<L.length-Int.toNat (j:Int)
   omega
 ·have:j=L.length:=by omega
  subst this
  rw[List.take_length] at hpre
  exact hpre t ht
theorem Cb1 {W0 W:PW} {M:Nat→Prop} {s:Sl} {L:List (Mon×ByteArray)} {most exp:Int} {K:Value→PW→Prop} (h:Af3 W s L) (hl:L.length≤1099511627776) (kont: ∀(b:Bool) (W':PW),Ext W W'→((b=true↔Bp6 L most exp))→K (.bool b) W'):
  Aa1 Tryz.prog W0 M 52 [s.v,.int .i64 most,.int .i64 exp] W K:=
 Aa2 (fun W' hE=>Db1 (M:=fun _=>False) (h.ext hE) hl) (fun W' v W'' hE hE' hP=>by
  obtain⟨b,rfl,h⟩:=hP
  exact kont b W'' (hE.trans hE') h)
def Ff1 (L:List (Mon×ByteArray)) (exp:Int) (p:List Tm):Prop:=Af1 L p∧Bp6 L 14 exp
theorem Ee7 {W0:PW} {M:Nat→Prop} {s:Sl} {L:List (Mon×ByteArray)} {exp:Int} (h:Af3 W0 s L) (hl:L.length≤1099511627776) (hz: ∀t∈L,t.2.size≤1099511627776):
  Aa0 Tryz.prog 10 [s.v,.int .i64 exp] W0 M fun v W'=>∃(s1:Sl),∃(s2:Sl),∃(b:Bool),v = .tuple ⟨[.agg ⟨[Sl.v s1]⟩,Sl.v s2,.bool b]⟩∧(b=true→∃p,Ff1 L exp p∧Ab0 231 138 W' s1 p∧Ag1 231 142 W' s2 p):=by
 apply Dg8
 have bad: ∀W':PW,∃(s1 s2:Sl) (b:Bool),(Value.tuple ⟨[.agg ⟨[.slice none 0 0]⟩,.slice none 0 0,.bool false]⟩) = .tuple ⟨[.agg ⟨[Sl.v s1]⟩,Sl.v s2,.bool b]⟩∧(b=true→∃p,Ff1 L exp p∧Ab0 231 138 W' s1 p∧Ag1 231 142 W' s2 p):=fun W'=>⟨⟨none,0,0⟩,⟨none,0,0⟩,false,rfl,fun e=>by cases e⟩
 refine Bg5 h hl hz fun s3 W2 hE2 h2=>⟨s3,_,rfl,fun _ W5 _=>bad W5,fun hyes=>Cb1 (h.ext hE2) hl fun b8 W7 hE7 hb=>⟨b8,rfl,fun _ W9 _=>bad W9,fun hb8=>Cc0 (h.ext (hE2.trans hE7)) hl hz fun s12 W11 hE11 h11=>⟨s12,_,rfl,fun W14 hE14=>⟨s12,s3,true,rfl,fun _=>?_⟩⟩⟩⟩
 obtain⟨p,hp⟩: ∃p,Ai8 L=some p:=Option.isSome_iff_exists.1 (by simpa using hyes)
 rw[hp] at h2 h11
 exact⟨p,⟨Eg3 hp,hb.1 (by simpa using hb8)⟩,h11.ext hE14,h2.ext ((hE7.trans hE11).trans hE14)⟩
theorem Dn6 {W0 W:PW} {M:Nat→Prop} {s:Sl} {L:List (Mon×ByteArray)} {exp:Int} {K:Value→PW→Prop} (h:Af3 W s L) (hl:L.length≤1099511627776) (hz: ∀t∈L,t.2.size≤1099511627776) (kont: ∀(s1:Sl) (s2:Sl) (b:Bool) (W':PW),Ext W W'→((b=true→∃p,Ff1 L exp p∧Ab0 231 138 W' s1 p∧Ag1 231 142 W' s2 p))→K (.tuple ⟨[.agg ⟨[Sl.v s1]⟩,Sl.v s2,.bool b]⟩) W'):
  Aa1 Tryz.prog W0 M 10 [s.v,.int .i64 exp] W K:=
 Aa2 (fun W' hE=>Ee7 (M:=fun _=>False) (h.ext hE) hl hz) (fun W' v W'' hE hE' hP=>by
  obtain⟨s1,s2,b,rfl,h⟩:=hP
  exact kont s1 s2 b W'' (hE.trans hE') h)
theorem Ff1.len {L:List (Mon×ByteArray)} {exp:Int} {p:List Tm} (h:Ff1 L exp p):p.length≤14:=by
 have h1:=h.1.len
 have h2:=h.2.1
 omega
end Go.Proofs.YtokefihiadbkbaaGreatDoor
/- bern.between, and what is done to a line of coefficients for its halves. -/
namespace Go.Proofs.YtokefihiadbkbaaGreatDoor
open Go Go.SX
abbrev VQ (W:PW) (s:Sl) (n:Nat) (f:Nat→Rat):Prop:=OwV 231 42 W s n f
abbrev XQ (W:PW) (r:Option Addr) (m:Nat) (q:Nat→Rat):Prop:=In9 231 W r m q
abbrev Iz4 (r:Option Addr) (s:Sl):Prop:=∀g,(⟨r,1,1⟩:Sl).v.ownBlock=some g→¬s.v.ownBlock=some g
def Jf3 (s:Sl) (n:Nat) (u:Rat) (f q:Nat→Rat) (r:Option Addr) (L:List PL) (W:PW):Prop:=match L with
 | [.val (.int .i64 z)]=>∃k:Nat,z=(k:Int)∧k≤n∧VQ W s n (loS u f k (n-1))∧XQ W r 1 q
 | _=>False
def Iv2 (n:Nat) (L:List PL) (_:PW):Nat:=match L with
 | [.val (.int .i64 z)]=>n-z.toNat
 | _=>0
end Go.Proofs.YtokefihiadbkbaaGreatDoor
/- bern.count, bern.lines. -/
namespace Go.Proofs.YtokefihiadbkbaaGreatDoor
open Go Go.SX
def Id4 (W:PW) (s:Sl) (zs:List Int):Prop:=Bf9 W 1 s (zs.map fun z=>[.int .i64 z])
theorem Id4.ext {W W':PW} {s:Sl} {zs:List Int} (h:Id4 W s zs) (hE:Ext W W'):Id4 W' s zs:=Bf9.ext h hE
theorem Id4.n {W:PW} {s:Sl} {zs:List Int} (h:Id4 W s zs):s.n=zs.length:=by obtain⟨_,h⟩:=h;have:=h.1;rwa [List.length_map] at this
theorem Id4.inB {W:PW} {s:Sl} {zs:List Int} (h:Id4 W s zs) {i:Int} (h0:0≤i) (h1:i<(zs.length:Int)):SX.inB s i:=let⟨_,h⟩:=h;Row.inB h h0 (by rw[List.length_map];exact h1)
theorem Id4.at {W:PW} {s:Sl} {zs:List Int} (h:Id4 W s zs) {i:Nat} (hi:i<zs.length):Aa7 W s 1 i 0 [.int .i64 zs[i]]:=let⟨_,h⟩:=h;Row.elem h (x:=[.int .i64 zs[i]]) (by simp[hi]) fun j v hj=>by simpa using hj
theorem Id4.cut {W:PW} {s:Sl} {zs:List Int} (h:Id4 W s zs) {i:Nat} (hi:i≤zs.length):Id4 W (s.cut 1 0 i) (zs.take i):=by
 obtain⟨t,h⟩:=h
 have:=Row.cut h (lo:=0) (hi:=i) (Nat.zero_le _) (by rw[List.length_map];exact hi)
 unfold Id4
 rw[List.drop_zero,←List.map_take] at this
 exact⟨t,this⟩
theorem Id4.put {W W':PW} {s:Sl} {zs:List Int} {N:Nat→Prop} (h:Id4 W s zs) (hp:Put 42 N W W') (hN: ∀g,s.v.ownBlock=some g→¬N g):Id4 W' s zs:=by
 obtain⟨t,a1,a2,a3,a4,a5⟩:=h
 refine⟨t,a1,a2,a3,a4,?_⟩
 rcases a5 with e | ⟨b,o,cs,fz,hA,hS,hh,hc⟩
 ·exact .inl e
 ·obtain⟨g,h1,h2⟩:=hp
  have hk:=h2.Fi9.Ai1 b (Array.getElem?_eq_some_iff.1 hh).1 hS fun e=>by
   have e:b=g:=e
   subst e
   exact hN b (by rw[Sl.v,hA];rfl) h1
  exact .inr ⟨b,o,cs,fz,hA,hk.2,hk.1.trans hh,hc⟩
theorem Id4.pub {W:PW} {s:Sl} {zs:List Int} (h:Id4 W s zs) (hn:0<zs.length) {g:Nat} (hg:s.v.ownBlock=some g):g<W.w.heap.size∧¬W.S g:=by
 obtain⟨t,a1,a2,a3,a4,a5⟩:=h
 rcases a5 with e | ⟨b,o,cs,fz,hA,hS,hh,hc⟩
 ·have:=congrArg List.length e
  rw[List.length_map,List.length_nil] at this
  omega
 ·rw[Sl.v,hA] at hg
  obtain rfl:b=g:=by simpa[Value.ownBlock] using hg
  exact⟨(Array.getElem?_eq_some_iff.1 hh).1,hS⟩
def Ie1 (zs:List Int):Prop:=(∀z∈zs,0≤z∧z≤16)∧1≤zs.length∧zs.length≤3
instance (zs:List Int):Decidable (Ie1 zs):=by unfold Ie1;infer_instance
def tpN (zs:List Int) (i:Nat):Nat:=(zs.getD i 0).toNat+1
def stN (zs:List Int):Nat→Nat
 | 0=>1
 | k+1=>stN zs k*tpN zs k
theorem Ih5 {zs:List Int} {i:Nat} (hi:i<zs.length) (h:0≤zs[i]):(tpN zs i:Int)=zs[i]+1:=by
 unfold tpN
 rw[List.getD_eq_getElem?_getD,List.getElem?_eq_getElem hi]
 show((zs[i].toNat+1:Nat):Int)=_
 omega
theorem If0 {zs:List Int} (h: ∀z∈zs,0≤z∧z≤16) (i:Nat):tpN zs i≤17:=by
 unfold tpN
 rw[List.getD_eq_getElem?_getD]
 by_cases hi:i<zs.length
 ·rw[List.getElem?_eq_getElem hi]
  have:=h _ (List.getElem_mem hi)
  show zs[i].toNat+1≤17
  omega
 ·rw[List.getElem?_eq_none (by omega)]
  show(0:Int).toNat+1≤17
  decide
theorem Ie4 (zs:List Int) (i:Nat):0<tpN zs i:=Nat.succ_pos _
theorem Ie2 (zs:List Int): ∀k,0<stN zs k
 | 0=>Nat.one_pos
 | k+1=>Nat.mul_pos (Ie2 zs k) (Ie4 zs k)
theorem Ja0 {zs:List Int} (h: ∀z∈zs,0≤z∧z≤16): ∀k,stN zs k≤17^k
 | 0=>Nat.le_refl _
 | k+1=>by rw[stN,Nat.pow_succ];exact Nat.mul_le_mul (Ja0 h k) (If0 h k)
theorem Ig5 (zs:List Int) (i:Nat): ∀k,∃R,stN zs (i+1+k)=stN zs i*tpN zs i*R
 | 0=>⟨1,by rw[Nat.mul_one];rfl⟩
 | k+1=>by
  obtain⟨R,h⟩:=Ig5 zs i k
  exact⟨R*tpN zs (i+1+k),by rw[←Nat.mul_assoc,←h];rfl⟩
theorem Im9 {zs:List Int} (h: ∀z∈zs,0≤z∧z≤16) {k:Nat} (hk:k≤5):stN zs k≤1419857:=Nat.le_trans (Ja0 h k) (Nat.le_trans (Nat.pow_le_pow_right (by decide) hk) (by decide))
theorem Im3 {zs:List Int} {m:Nat} : ∀k,k≤m→stN (zs.take m) k=stN zs k
 | 0,_=>rfl
 | k+1,h=>by
  rw[stN,stN,Im3 k (by omega)]
  unfold tpN
  rw[List.getD_eq_getElem?_getD,List.getD_eq_getElem?_getD,List.getElem?_take,if_pos (by omega)]
def bcI (W0:PW) (zs:List Int) (L:List PL) (W:PW):Prop:=match L with
 | [.val (.int .i64 y),.val (.int .i64 z)]=>∃k:Nat,z=(k:Int)∧k≤zs.length∧Ext W0 W∧(∀x∈zs.take k,0≤x∧x≤16)∧y=(stN zs k:Int)
 | _=>False
def Jd7 (n:Nat) (L:List PL) (_:PW):Nat:=match L with
 | [_,.val (.int .i64 z)]=>n-z.toNat
 | _=>0
theorem Io7 {W0:PW} {M:Nat→Prop} {s:Sl} {zs:List Int} (h:Id4 W0 s zs) (hl:zs.length≤5):
  Aa0 Tryz.prog 65 [s.v] W0 M fun v W'=>∃(z:Int),v = .tuple ⟨[.int .i64 z,.bool (decide (Ie1 zs))]⟩∧(Ie1 zs→z=(stN zs zs.length:Int)):=by
 apply Ik8
 have hn:=h.n
 refine⟨bcI W0 zs,Jd7 zs.length,⟨0,rfl,Nat.zero_le _,Ext.refl _,by simp,rfl⟩,?_⟩
 rintro i3 i4 W5 ⟨k,rfl,hk,hE5,hall,rfl⟩
 have h5:=h.ext hE5
 refine⟨fun hlt=>?_,fun hge=>?_⟩
 ·have hkl:k<zs.length:=by omega
  have bad:¬(0≤zs[k]∧zs[k]≤16)→¬Ie1 zs:=fun e ok=>e (ok.1 _ (List.getElem_mem hkl))
  refine⟨h5.inB (by omega) (by omega),zs[k],h5.at hkl,fun hneg W7 hE7=>⟨0,by rw[decide_eq_false (bad (by omega))],fun ok=>absurd ok (bad (by omega))⟩,fun hnn=>⟨fun hbig W8 hE8=>⟨0,by rw[decide_eq_false (bad (by omega))],fun ok=>absurd ok (bad (by omega))⟩,fun hsm=>?_⟩⟩
  have hall': ∀x∈zs.take (k+1),0≤x∧x≤16:=fun x hx=>by
   rw[List.take_succ_eq_append_getElem hkl] at hx
   rcases List.mem_append.1 hx with hx | hx
   ·exact hall x hx
   ·rw[List.mem_singleton.1 hx];omega
  have e:(stN zs k:Int)*(zs[k]+1)=(stN zs (k+1):Int):=by rw[←Ih5 hkl (by omega),stN];push_cast;rfl
  have b1:stN zs (k+1)≤1419857:=by rw[←Im3 (m:=k+1) (k+1) (Nat.le_refl _)];exact Im9 hall' (by omega)
  rw[e]
  exact⟨by unfold I64;omega,by unfold I64;omega,by unfold I64;omega,⟨k+1,by push_cast;rfl,by omega,hE5,hall',rfl⟩,by show zs.length-Int.toNat ((k:Int)+1)<zs.length-Int.toNat (k:Int);omega⟩
 ·have:k=zs.length:=by omega
  subst this
  rw[List.take_length] at hall
  refine⟨fun h1 W9 hE9=>⟨_,?_,fun _=>rfl⟩,fun h1 W10 hE10=>⟨_,by rw[decide_eq_false (fun ok=>h1 (by have:=ok.2.1;omega))],fun _=>rfl⟩⟩
  congr 5
  rw[decide_eq_decide]
  exact⟨fun h3=>⟨hall,by omega,by omega⟩,fun ok=>by have:=ok.2.2;omega⟩
theorem Ie5 {W0 W:PW} {M:Nat→Prop} {s:Sl} {zs:List Int} {K:Value→PW→Prop} (h:Id4 W s zs) (hl:zs.length≤5) (kont: ∀(z:Int) (W':PW),Ext W W'→((Ie1 zs→z=(stN zs zs.length:Int)))→K (.tuple ⟨[.int .i64 z,.bool (decide (Ie1 zs))]⟩) W'):
  Aa1 Tryz.prog W0 M 65 [s.v] W K:=
 Aa2 (fun W' hE=>Io7 (M:=fun _=>False) (h.ext hE) hl) (fun W' v W'' hE hE' hP=>by
  obtain⟨z,rfl,h⟩:=hP
  exact kont z W'' (hE.trans hE') h)
def Je4 (g:FuncId) (r:Option Addr) (n m:Nat) (q:Nat→Rat) (D N:Nat) (T:(Nat→Rat)→Nat→Rat):Prop:=
 ∀(W:PW) (s:Sl) (f:Nat→Rat),VQ W s n f→XQ W r m q→Iz4 r s→Id9 n D N f→Aa0 Tryz.prog g [s.v,.pointer r] W (fun b=>s.v.ownBlock=some b) fun v W'=>v = .tuple ⟨[]⟩∧VQ W' s n (T f)
theorem XQ.pub {W:PW} {r:Option Addr} {m:Nat} {q:Nat→Rat} (h:XQ W r m q) {g:Nat} (hg:(⟨r,1,1⟩:Sl).v.ownBlock=some g):g<W.w.heap.size∧¬W.S g:=by
 obtain⟨xs,⟨b,o,cs,t,fz,hA,hS,hh,_⟩,_⟩:=h
 have hA:r=some ⟨b,o,none⟩:=hA
 subst hA
 obtain rfl:b=g:=by simpa[Value.ownBlock] using hg
 exact⟨(Array.getElem?_eq_some_iff.1 hh).1,hS⟩
theorem VQ.pub {W:PW} {s:Sl} {n:Nat} {f:Nat→Rat} (h:VQ W s n f) (hn:0<n) {g:Nat} (hg:s.v.ownBlock=some g):g<W.w.heap.size∧¬W.S g:=by
 obtain⟨xs,k1,k2⟩:=h
 obtain⟨b,cs,_,hb,hS,hh,_⟩:=k1.at fun e=>by have:=k2.1;rw[e] at this;simp at this;omega
 rw[hg] at hb
 cases hb
 exact⟨(Array.getElem?_eq_some_iff.1 hh).1,hS⟩
theorem zeroV {W:PW} {s:Sl} {n:Nat} (h:Go.SX.Own W 42 3 s (List.replicate n [.slice none 0 0,.bool false,.slice none 0 0])):VQ W s n fun _=>0:=
 ⟨_,h,by simp,fun j hj=>⟨⟨none,0,0⟩,false,⟨none,0,0⟩,by simp[List.getElem?_replicate,hj],Ar9 W⟩⟩
theorem Ih2 {t st n:Nat} (ht:t≤1419857):Int.tmod (IntKind.wrap .i64 (Int.tdiv (t:Int) (st:Int))) (n:Int)=((t/st%n:Nat):Int):=by
 have hdl:t/st≤t:=Nat.div_le_self _ _
 have e1:Int.tdiv (t:Int) (st:Int)=((t/st:Nat):Int):=(Int.ofNat_tdiv t st).symm
 rw[e1]
 generalize t/st=d at *
 rw[wrap_i64 (by unfold I64;omega)]
 exact(Int.ofNat_tmod d n).symm
def lnI (W0:PW) (zs:List Int) (i:Nat) (L:List PL) (W:PW):Prop:=match L with
 | [.val (.int .i64 y),.val (.int .i64 z)]=>∃k:Nat,z=(k:Int)∧k≤i∧Ext W0 W∧y=(stN zs k:Int)
 | _=>False
def lnO (s u:Sl) (r:Option Addr) (NN st n m:Nat) (q F:Nat→Rat) (T:(Nat→Rat)→Nat→Rat) (L:List PL) (W:PW):Prop:=match L with
 | [.val (.int .i64 z)]=>∃(t:Nat) (f:Nat→Rat),z=(t:Int)∧t≤NN∧VQ W s NN (Id7 st n T F t)∧VQ W u n f∧XQ W r m q
 | _=>False
def lnC (s u:Sl) (r:Option Addr) (NN st n m t:Nat) (q F:Nat→Rat) (T:(Nat→Rat)→Nat→Rat) (L:List PL) (W:PW):Prop:=match L with
 | [.val (.int .i64 z)]=>∃(j:Nat) (f:Nat→Rat),z=(j:Int)∧j≤n∧VQ W s NN (Id7 st n T F t)∧VQ W u n f∧(∀a,a<j→f a=F (t+a*st))∧XQ W r m q
 | _=>False
def lnW (s u:Sl) (r:Option Addr) (NN st n m t:Nat) (q F f:Nat→Rat) (T:(Nat→Rat)→Nat→Rat) (L:List PL) (W:PW):Prop:=match L with
 | [.val (.int .i64 z)]=>∃j:Nat,z=(j:Int)∧j≤n∧VQ W s NN (If8 st n T F t j)∧VQ W u n f∧XQ W r m q
 | _=>False
theorem If3 {W0:PW} {s a:Sl} {zs:List Int} {i:Nat} {g:FuncId} {r:Option Addr} {m D N:Nat} {q F:Nat→Rat} {T:(Nat→Rat)→Nat→Rat} (h:VQ W0 s (stN zs zs.length) F) (hz:Id4 W0 a zs) (hk:Ie1 zs) (hi:i<zs.length) (hb:XQ W0 r m q) (ha:Iz4 r s)
  (hf:Id9 (stN zs zs.length) D N F) (hT: ∀f g:Nat→Rat,(∀j,j<tpN zs i→f j=g j)→∀j,j<tpN zs i→T f j=T g j) (hdo:Je4 g r (tpN zs i) m q D N T):
  Aa0 Tryz.prog 67 [s.v,a.v,.int .i64 (i:Int),.func (.func g) #[] #[.pointer r]] W0 (fun b=>s.v.ownBlock=some b) fun v W'=>v = .tuple ⟨[]⟩∧VQ W' s (stN zs zs.length) (Id6 (stN zs i) (tpN zs i) T F):=by
 apply Ij7
 have hsn:=h.n
 have han:=hz.n
 have hcap:a.n≤a.c:=by obtain⟨_,h9⟩:=hz;exact h9.2.1
 obtain⟨h16,hl1,hl3⟩:=hk
 have hst:=Ie2 zs i
 have htp:=Ie4 zs i
 have htl:=If0 h16 i
 have hN:=Im9 h16 (k:=zs.length) (by omega)
 have hNp:=Ie2 zs zs.length
 have hst5:=Im9 h16 (k:=i) (by omega)
 obtain⟨R,hR⟩:=Ig5 zs i (zs.length-(i+1))
 rw[show i+1+(zs.length-(i+1))=zs.length by omega] at hR
 have htop:=Ih5 hi (h16 _ (List.getElem_mem hi)).1
 generalize hNN:stN zs zs.length=NN at *
 refine⟨⟨by decide,by omega,by omega⟩,lnI W0 zs i,Jd7 i,⟨0,rfl,Nat.zero_le _,Ext.refl _,rfl⟩,?_⟩
 rintro i3 i4 W5 ⟨k,rfl,hki,hE5,rfl⟩
 refine⟨fun hlt=>?_,fun hge=>?_⟩
 ·have hlt:k<i:=by
   have:(k:Int)<((Int.toNat (i:Int)-0:Nat):Int):=hlt
   omega
  have hc:=(hz.ext hE5).cut (i:=i) (by omega)
  have hkt:k<(zs.take i).length:=by rw[List.length_take];omega
  have hel:=hc.at hkt
  rw[List.getElem_take] at hel
  have hkl:k<zs.length:=by omega
  have b0:=h16 _ (List.getElem_mem hkl)
  have e:(stN zs k:Int)*(zs[k]+1)=(stN zs (k+1):Int):=by rw[←Ih5 hkl b0.1,stN];push_cast;rfl
  have b1:=Im9 h16 (k:=k+1) (by omega)
  refine⟨hc.inB (by omega) (by omega),zs[k],hel,?_⟩
  rw[e]
  exact⟨by unfold I64;omega,by unfold I64;omega,by unfold I64;omega,⟨k+1,by push_cast;rfl,by omega,hE5,rfl⟩,by show i-Int.toNat ((k:Int)+1)<i-Int.toNat (k:Int);omega⟩
 have:k=i:=by
  have:¬(k:Int)<((Int.toNat (i:Int)-0:Nat):Int):=hge
  omega
 subst this
 have b0:=h16 _ (List.getElem_mem hi)
 refine⟨(hz.ext hE5).inB (by omega) (by omega),zs[k],(hz.ext hE5).at hi,by unfold I64;omega,⟨rfl,by omega,by omega⟩,fun u W9 hE9 hO9 hF9=>?_⟩
 rw[show Int.toNat (zs[k]+1)=tpN zs k by omega] at hO9
 have E9:=hE5.trans hE9
 have hu:=zeroV hO9
 have un:=hu.n
 have hawu:Iz4 r u:=fun g1 h1 h2=>by
  obtain⟨k1,k2⟩:=XQ.pub (hb.ext hE5) h1
  exact k2 ((hF9 g1 h2).2 k1)
 have hsu: ∀g1,s.v.ownBlock=some g1→¬u.v.ownBlock=some g1:=fun g1 h1 h2=>by
  obtain⟨k1,k2⟩:=VQ.pub (h.ext hE5) hNp h1
  exact k2 ((hF9 g1 h2).2 k1)
 have hus: ∀g1,u.v.ownBlock=some g1→¬s.v.ownBlock=some g1:=fun g1 h1 h2=>hsu g1 h2 h1
 have hum: ∀g1,u.v.ownBlock=some g1→may W0 (fun b=>s.v.ownBlock=some b) g1:=fun g1 h1=>.inr (hF9 g1 h1).1
 generalize hnn:tpN zs k=n at *
 generalize hss:stN zs k=st at *
 refine⟨lnO s u r NN st n m q F T,Iv2 NN,⟨0,_,rfl,Nat.zero_le _,by rw[Ig0];exact h.ext E9,hu,hb.ext E9⟩,?_⟩
 rintro i12 W13 ⟨t,f0,rfl,ht,hS,hL,hB⟩
 refine⟨fun hlt=>?_,fun hge W32 hE32=>⟨rfl,(hS.ext hE32).congr fun j hj=>?_⟩⟩
 ·have htN:t<NN:=by omega
  have e3:Int.tmod (IntKind.wrap .i64 (Int.tdiv (t:Int) (st:Int))) (u.2:Int)=((t/st%n:Nat):Int):=by rw[show u.2=n from un];exact Ih2 (by omega)
  rw[e3]
  refine⟨by omega,by omega,fun hne=>⟨by unfold I64;omega,⟨t+1,f0,by push_cast;rfl,by omega,by rw[Ig1 hst htp (by omega)];exact hS,hL,hB⟩,by show NN-Int.toNat ((t:Int)+1)<NN-Int.toNat (t:Int);omega⟩,fun heq=>?_⟩
  have h0:t/st%n=0:=by omega
  have hlin: ∀{j:Nat},j<n→t+j*st<NN:=fun {j} hj=>by
   have:=(Ig2 (R:=R) hst htp (by rw[←hR];exact htN) h0 hj).1
   rw[←hR] at this
   exact this
  have cast: ∀j:Nat,(t:Int)+(j:Int)*(st:Int)=((t+j*st:Nat):Int):=fun j=>by push_cast;rfl
  have cast2: ∀j:Nat,(j:Int)*(st:Int)=((j*st:Nat):Int):=fun j=>by push_cast;rfl
  refine⟨lnC s u r NN st n m t q F T,Iv2 n,⟨0,f0,rfl,Nat.zero_le _,hS,hL,fun a h=>absurd h (Nat.not_lt_zero _),hB⟩,?_⟩
  rintro i16 W17 ⟨j,f,rfl,hj,hS7,hL7,hfa,hB7⟩
  refine⟨fun hlt2=>?_,fun hge2=>?_⟩
  ·have hjn:j<n:=by omega
   have hin:=hlin hjn
   obtain⟨s18,b19,s20,e18,g18⟩:=hS7.at hin
   rw[Iu6 (R:=R) hst htp (by rw[←hR];exact htN) h0 hjn] at g18
   rw[cast,cast2]
   refine⟨by unfold I64;omega,by unfold I64;omega,hS7.inB (by omega) (by omega),s18,b19,s20,e18,hL7.inB (by omega) (by omega),?_⟩
   refine hL7.store (j:=j) hjn g18 (by decide) hum fun W21 hp hL21=>⟨by unfold I64;omega,⟨j+1,_,by push_cast;rfl,by omega,hS7.put hp hsu (by decide),hL21,fun a ha'=>?_,hB7.put hp hawu (by decide)⟩,by show n-Int.toNat ((j:Int)+1)<n-Int.toNat (j:Int);omega⟩
   unfold Ij6
   by_cases e:a=j
   ·rw[if_pos e,e]
   ·rw[if_neg e];exact hfa a (by omega)
  have:j=n:=by omega
  subst this
  intro W' hE'
  have hFit:Id9 j D N f:=fun a ha'=>by rw[hfa a ha'];exact hf _ (hlin ha')
  refine⟨_,_,hdo W' u f (hL7.ext hE') (hB7.ext hE') hawu hFit,fun b hb'=>⟨(VQ.pub (hL7.ext hE') htp hb').2,hum b hb'⟩,fun v W23 hX hP=>⟨hP.1,?_⟩⟩
  have hL3:=hP.2
  have hput:=OwV.did hL7 htp hE' hX
  refine⟨lnW s u r NN st j m t q F (T f) T,Iv2 j,⟨0,rfl,Nat.zero_le _,by rw[Ij2];exact hS7.put hput hsu (by decide),hL3,hB7.put hput hawu (by decide)⟩,?_⟩
  rintro i26 W27 ⟨p,rfl,hp,hS8,hL8,hB8⟩
  refine⟨fun hlt3=>?_,fun hge3=>?_⟩
  ·have hpn:p<j:=by omega
   have hin:=hlin hpn
   obtain⟨s28,b29,s30,e28,g28⟩:=hL8.at hpn
   rw[cast,cast2]
   refine⟨by unfold I64;omega,by unfold I64;omega,hL8.inB (by omega) (by omega),s28,b29,s30,e28,hS8.inB (by omega) (by omega),?_⟩
   refine hS8.store (j:=t+p*st) hin g28 (by decide) (fun b hb'=>.inl hb') fun W31 hpu hS31=>⟨by unfold I64;omega,⟨p+1,by push_cast;rfl,by omega,hS31.congr fun x hx=>?_,hL8.put hpu hus (by decide),hB8.put hpu ha (by decide)⟩,by show j-Int.toNat ((p:Int)+1)<j-Int.toNat (p:Int);omega⟩
   rw[Ij0 (R:=R) hst htp (by rw[←hR];exact htN) h0 hpn]
   unfold Ij6
   dsimp only
   by_cases e:x=t+p*st
   ·rw[if_pos e,if_pos e];exact hT _ _ (fun a ha'=>hfa a ha') p hpn
   ·rw[if_neg e,if_neg e]
  ·have:p=j:=by omega
   subst this
   rw[Il6 hst htp] at hS8
   exact⟨by unfold I64;omega,⟨t+1,_,by push_cast;rfl,by omega,hS8,hL8,hB8⟩,by show NN-Int.toNat ((t:Int)+1)<NN-Int.toNat (t:Int);omega⟩
 ·have:t=NN:=by omega
  subst this
  exact Ig8 hst htp hj
end Go.Proofs.YtokefihiadbkbaaGreatDoor
/- whole.Pow, rat.Pow; cinctureref1.times. -/
namespace Go.Proofs.YtokefihiadbkbaaGreatDoor
open Go Go.SX
theorem Cf5 {z:Int} {k:Nat} (h:nl z.natAbs≤k) (e:Nat):nl (z^e).natAbs≤k*e+1:=by
 induction e with
 | zero=>simp[Ax0]
 | succ e ih=>
  rw[Int.pow_succ,Int.natAbs_mul]
  have:=Ae5 (z^e).natAbs z.natAbs
  rw[Nat.mul_add]
  omega
end Go.Proofs.YtokefihiadbkbaaGreatDoor
/- The program's intervals. -/
namespace Go.Proofs.YtokefihiadbkbaaGreatDoor
open Go Go.SX
theorem Go7 {W0:PW} {M:Nat→Prop} {l1:List Value} {x:Iv} {k:Nat} (h1:SpV 231 W0 l1 x) (hx:IvS k x) (hk:k≤8589934592):
  Aa0 Tryz.prog 113 [.agg ⟨l1⟩] W0 M fun v W'=>∃(r:Sl),∃(c:Bool),∃(u:Sl),v = .agg ⟨[Sl.v r,.bool c,Sl.v u]⟩∧Ab3 231 W' r c u (x.2-x.1):=by
 obtain⟨s0,b0,t0,s1,b1,t1,rfl,h1,h1'⟩:=h1
 apply Gk0
 exact Gr0 h1' h1 hx.2 hx.1 hk hk fun s3 b4 s5 W2 hE2 g=>⟨s3,b4,s5,rfl,fun W6 hE6=>⟨_,_,_,rfl,g.ext hE6⟩⟩
theorem Gj9 {W0 W:PW} {M:Nat→Prop} {l1:List Value} {x:Iv} {k:Nat} {K:Value→PW→Prop} (h1:SpV 231 W l1 x) (hx:IvS k x) (hk:k≤8589934592) (kont: ∀(r:Sl) (c:Bool) (u:Sl) (W':PW),Ext W W'→(Ab3 231 W' r c u (x.2-x.1))→K (.agg ⟨[Sl.v r,.bool c,Sl.v u]⟩) W'):
  Aa1 Tryz.prog W0 M 113 [.agg ⟨l1⟩] W K:=
 Aa2 (fun W' hE=>Go7 (M:=fun _=>False) (h1.ext hE) hx hk) (fun W' v W'' hE hE' hP=>by
  obtain⟨r,c,u,rfl,h⟩:=hP
  exact kont r c u W'' (hE.trans hE') h)
theorem Dt4 {W0:PW} {M:Nat→Prop} {s t s' t':Sl} {b b':Bool} {p q:Rat} {k:Nat} (h1:Ab3 231 W0 s b t p) (h2:Ab3 231 W0 s' b' t' q) (hp:Sz k p) (hq:Sz k q) (hk:k≤34359738368):
  Aa0 Tryz.prog 196 [.agg ⟨[s.v,.bool b,t.v]⟩,.agg ⟨[s'.v,.bool b',t'.v]⟩] W0 M fun v W'=>∃(l:List Value),v = .tuple ⟨[.agg ⟨l⟩,.bool (decide (p≤q))]⟩∧SpV 231 W' l (if p≤q then(p,q) else(0,0)):=by
 apply Ct1
 refine Aj2 h1 h2 hp hq hk hk fun W2 hE2 _=>⟨_,rfl,fun h W4 hE4=>?_,fun h W5 hE5=>?_⟩
 ·have h:=Al3.1 h
  have h':¬p≤q:=Rat.not_le.2 h
  rw[if_neg h',decide_eq_false h']
  exact⟨_,rfl,SpV.zero W4⟩
 ·have h':p≤q:=Rat.not_lt.1 fun e=>h (Al3.2 e)
  rw[if_pos h',decide_eq_true h']
  exact⟨_,rfl,SpV.mk (x:=(p,q)) (h1.ext (hE2.trans hE5)) (h2.ext (hE2.trans hE5))⟩
theorem Cq7 {W0 W:PW} {M:Nat→Prop} {s t s' t':Sl} {b b':Bool} {p q:Rat} {k:Nat} {K:Value→PW→Prop} (h1:Ab3 231 W s b t p) (h2:Ab3 231 W s' b' t' q) (hp:Sz k p) (hq:Sz k q) (hk:k≤34359738368) (kont: ∀(l:List Value) (W':PW),Ext W W'→(SpV 231 W' l (if p≤q then(p,q) else(0,0)))→K (.tuple ⟨[.agg ⟨l⟩,.bool (decide (p≤q))]⟩) W'):
  Aa1 Tryz.prog W0 M 196 [.agg ⟨[s.v,.bool b,t.v]⟩,.agg ⟨[s'.v,.bool b',t'.v]⟩] W K:=
 Aa2 (fun W' hE=>Dt4 (M:=fun _=>False) (h1.ext hE) (h2.ext hE) hp hq hk) (fun W' v W'' hE hE' hP=>by
  obtain⟨l,rfl,h⟩:=hP
  exact kont l W'' (hE.trans hE') h)
end Go.Proofs.YtokefihiadbkbaaGreatDoor
