/- cinctureref1.PolyParse, poly.Parse, book.Terms, law8.Of. -/
import Derived.Test.YtokefihiadbkbaaGreatDoorW7
import Derived.Test.YtokefihiadbkbaaGreatDoorLib3
import Derived.Test.YtokefihiadbkbaaGreatDoorW3
import Derived.Test.YtokefihiadbkbaaGreatDoorR8
import Derived.Test.YtokefihiadbkbaaGreatDoorLib2
import Derived.Test.YtokefihiadbkbaaGreatDoorR11
import Derived.Test.YtokefihiadbkbaaGreatDoorLib4
import Derived.Test.YtokefihiadbkbaaGreatDoorR12
import Derived.Test.YtokefihiadbkbaaGreatDoorR10
set_option linter.unusedVariables false
set_option linter.unusedSimpArgs false
set_option maxRecDepth 100000
namespace Go.Proofs.YtokefihiadbkbaaGreatDoor
open Go Go.SX
def ppI (C:PW→List Value→Tm→Prop) (W0:PW) (L:List (Mon×ByteArray)) (l:List PL) (W:PW):Prop:=match l with
 | [.row xs,.val (.int .i64 i)]=>∃(j:Nat) (p:List Tm),i=(j:Int)∧j≤L.length∧Ext W0 W∧An5 (C W) xs p∧Af1 (L.take j) p
 | _=>False
theorem Fd6 {a b:Mon} (h:0≤a.cmp b):¬a.lt b:=fun hl=>by
 have:=Mon.Dm2.2 hl
 omega
theorem Em9 {a b:Mon} (h:¬0≤a.cmp b):a.lt b:=Mon.Dm2.1 (by omega)
theorem Bx6 {W0:PW} {M:Nat→Prop} {s:Sl} {L:List (Mon×ByteArray)} (h:Af3 W0 s L) (hl:L.length≤1099511627776) (hz: ∀t∈L,t.2.size≤1099511627776):
  Aa0 Tryz.prog 51 [s.v] W0 M fun v W'=>∃(s':Sl),v = .tuple ⟨[Sl.v s',.bool (Ai8 L).isSome]⟩∧Ag1 231 142 W' s' ((Ai8 L).getD []):=by
 apply Bf0
 have hn:=h.n
 have bad:Ai8 L=none→∀W':PW,∃s':Sl,(Value.tuple ⟨[.slice none 0 0,.bool false]⟩) = .tuple ⟨[Sl.v s',.bool (Ai8 L).isSome]⟩∧Ag1 231 142 W' s' ((Ai8 L).getD []):=fun h W'=>by
  rw[h]
  exact⟨⟨none,0,0⟩,rfl,Ag1.nil W'⟩
 refine⟨ppI (RT 231) W0 L,cnL L.length,⟨0,[],rfl,by omega,Ext.refl _,trivial,Af1.nil⟩,?_⟩
 rintro l3 i4 W5 ⟨j,p,rfl,hj,hE5,ha,hp⟩
 have hal:=ha.len
 have hpl:=hp.len
 rw[List.length_take] at hpl
 refine⟨fun hlt=>?_,fun hge s34 W35 hE35 hO _ W36 hE36=>⟨s34,?_,?_⟩⟩
 ·have hjl:j<L.length:=by omega
  have hL:=h.ext hE5
  have hib:=hL.inB (i:=(j:Int)) (by omega) (by omega)
  obtain⟨h0,_,_,e3⟩:=hL.at (List.getElem?_eq_getElem hjl)
  refine⟨hib,_,e3,An7 (hz _ (List.getElem_mem hjl)) fun b9 s10 s11 W8 hE8 h8=>⟨b9,s10,s11,_,rfl,fun hno W13 _=>bad (Af1.bad hjl fun q hq _=>by rw[hq] at hno;cases hno) _,fun hyes=>?_⟩⟩
  obtain⟨q,hq⟩: ∃q,Ab7 L[j].2=some q:=Option.isSome_iff_exists.1 (by simpa using hyes)
  rw[hq] at h8
  have h8:Ab6 231 W8 b9 s10 s11 q:=h8
  refine Aq7 h8.1 fun W15 hE15 _=>⟨_,rfl,fun h0' W17 _=>bad (Af1.bad hjl fun q' hq' hne=>by rw[hq] at hq';cases hq';exact absurd (Ds5.1 (Ds0.1 h0')) hne) _,fun hne=>?_⟩
  have hq0:q≠0:=fun e=>hne (Ds0.2 (Ds5.2 e))
  have hE:=hE8.trans hE15
  have hmu:L.length-Int.toNat ((j:Int)+1)<L.length-Int.toNat (j:Int):=by omega
  have hL15:=hL.ext hE
  obtain⟨_,_,e2,_⟩:=hL15.at (List.getElem?_eq_getElem hjl)
  refine⟨fun hj0=>?_,fun hj0=>⟨hib,_,_,_,e2,Ext.refl _,by simp;omega,Ext.refl _,by unfold I64;omega,⟨j+1,_,by push_cast;rfl,by omega,hE5.trans hE,(ha.mono fun _ _ h=>h.ext hE).snoc ⟨h0,b9,s10,s11,rfl,h8.ext hE15⟩,hp.snoc hjl hq hq0 fun k hk=>absurd hk (by omega)⟩,hmu⟩⟩
  have hj1:(((j:Int)-1).toNat)=j-1:=by omega
  have hjm:j-1<L.length:=by omega
  obtain⟨hm0,_,em,_⟩:=hL15.at (List.getElem?_eq_getElem hjm)
  refine⟨by unfold I64;omega,hL.inB (by omega) (by omega),_,_,_,by rw[hj1];exact em,hib,_,_,_,e2,Bx0 hm0 h0 fun W25 hE25 _=>⟨_,rfl,fun hge W27 _=>bad (Af1.bad hjl fun _ _ _=>⟨j-1,by omega,Fd6 hge⟩) _,fun hlt=>?_⟩⟩
  obtain⟨_,_,e2',_⟩:=(hL15.ext hE25).at (List.getElem?_eq_getElem hjl)
  refine⟨hib,_,_,_,e2',Ext.refl _,by simp;omega,Ext.refl _,by unfold I64;omega,⟨j+1,_,by push_cast;rfl,by omega,hE5.trans (hE.trans hE25),(ha.mono fun _ _ h=>h.ext (hE.trans hE25)).snoc ⟨h0,b9,s10,s11,rfl,h8.ext (hE15.trans hE25)⟩,hp.snoc hjl hq hq0 fun k hk=>?_⟩,hmu⟩
  have:k=j-1:=by omega
  subst this
  exact Em9 hlt
 ·have:j=L.length:=by omega
  subst this
  rw[hp.all];rfl
 ·have:j=L.length:=by omega
  subst this
  rw[hp.all]
  exact⟨_,(hO.ext hE36).row,ha.mono fun _ _ h=>h.ext (hE35.trans hE36)⟩
theorem Bg5 {W0 W:PW} {M:Nat→Prop} {s:Sl} {L:List (Mon×ByteArray)} {K:Value→PW→Prop} (h:Af3 W s L) (hl:L.length≤1099511627776) (hz: ∀t∈L,t.2.size≤1099511627776) (kont: ∀(s':Sl) (W':PW),Ext W W'→(Ag1 231 142 W' s' ((Ai8 L).getD []))→K (.tuple ⟨[Sl.v s',.bool (Ai8 L).isSome]⟩) W'):
  Aa1 Tryz.prog W0 M 51 [s.v] W K:=
 Aa2 (fun W' hE=>Bx6 (M:=fun _=>False) (h.ext hE) hl hz) (fun W' v W'' hE hE' hP=>by
  obtain⟨s',rfl,h⟩:=hP
  exact kont s' W'' (hE.trans hE') h)
noncomputable def erP (L:List (Mon×ByteArray)):Int:=if(Ai8 L).isSome then 0 else 2
def paI (n0:Nat) (W0:PW) (L:List (Mon×ByteArray)) (l:List PL) (W:PW):Prop:=match l with
 | [.val (.int .i64 i),_,.cells [.slice A n c]]=>∃(j:Nat) (xs:List (List Value)) (p:List Tm),i=(j:Int)∧j≤L.length∧Eo1 n0 W0 W∧Go.SX.Own W 138 6 ⟨A,n,c⟩ xs∧(∀g,(Value.slice A n c).ownBlock=some g→n0≤g)∧An5 (PT 231 W) xs p∧Af1 (L.take j) p
 | _=>False
theorem Dd0 {W:PW} {t:TypeId} {sz:Nat} :Go.SX.Own W t sz ⟨none,0,0⟩ []:=⟨⟨by simp,by simp,.inl ⟨rfl,rfl⟩⟩,fun g hg=>by simp[Sl.v,Value.ownBlock] at hg⟩
theorem Cy1 {W0:PW} {M:Nat→Prop} {s:Sl} {L:List (Mon×ByteArray)} (h:Af3 W0 s L) (hl:L.length≤1099511627776) (hz: ∀t∈L,t.2.size≤1099511627776):
  Aa0 Tryz.prog 53 [s.v] W0 M fun v W'=>∃(s':Sl),v = .tuple ⟨[.agg ⟨[Sl.v s']⟩,.int .i64 (erP L)]⟩∧Ab0 231 138 W' s' ((Ai8 L).getD []):=by
 apply Ca9
 have hn:=h.n
 have bad:Ai8 L=none→∀W':PW,∃s':Sl,(Value.tuple ⟨[.agg ⟨[.slice none 0 0]⟩,.int .i64 2]⟩) = .tuple ⟨[.agg ⟨[Sl.v s']⟩,.int .i64 (erP L)]⟩∧Ab0 231 138 W' s' ((Ai8 L).getD []):=fun h W'=>by
  unfold erP
  rw[h]
  exact⟨⟨none,0,0⟩,rfl,Ab0.nil W'⟩
 refine⟨paI W0.w.heap.size W0 L,fun l _=>match l with | [.val (.int .i64 i),_,_]=>L.length-i.toNat | _=>0,⟨0,[],[],rfl,by omega,Au9.refl _ _,Dd0,fun g hg=>by simp[Value.ownBlock] at hg,trivial,Af1.nil⟩,?_⟩
 rintro s3 s4 i5 W6 ⟨j,xs,p,rfl,hj,hEN,hO,hfr,ha,hp⟩
 have hO:Go.SX.Own W6 138 6 s4 xs:=hO
 have hfr: ∀g,s4.v.ownBlock=some g→W0.w.heap.size≤g:=hfr
 have hal:=ha.len
 have hpl:=hp.len
 rw[List.length_take] at hpl
 refine⟨fun hlt=>?_,fun hge W33 hE33=>⟨s4,?_,?_⟩⟩
 ·have hjl:j<L.length:=by omega
  have hL:=h.new hEN (Nat.le_refl _)
  have hib:=hL.inB (i:=(j:Int)) (by omega) (by omega)
  obtain⟨h0,e1,_,_⟩:=hL.at (List.getElem?_eq_getElem hjl)
  refine⟨hib,_,_,_,_,e1,As8 (hz _ (List.getElem_mem hjl)) fun s13 b14 s15 W12 hE12 h12=>⟨s13,b14,s15,_,rfl,fun hno W17 _=>bad (Af1.bad hjl fun q hq _=>by rw[hq] at hno;exact absurd rfl hno) _,fun hyes=>?_⟩⟩
  obtain⟨q,hq⟩: ∃q,Ab7 L[j].2=some q:=by
   cases hq:Ab7 L[j].2 with
   | none=>rw[hq] at hyes;exact absurd (by decide) hyes
   | some q=>exact⟨q,rfl⟩
  rw[hq] at h12
  have h12:Ab3 231 W12 s13 b14 s15 q:=h12
  refine Bk6 h12 (Aw6 hq).1 (by omega) fun W19 hE19 _=>⟨_,rfl,fun h0' W21 _=>bad (Af1.bad hjl fun q' hq' hne=>by rw[hq] at hq';cases hq';exact absurd ((Be6 _ _).1 h0') hne) _,fun hne=>?_⟩
  have hq0:q≠0:=fun e=>hne ((Be6 _ _).2 e)
  have hE:=hE12.trans hE19
  have hmu:L.length-Int.toNat ((j:Int)+1)<L.length-Int.toNat (j:Int):=by omega
  have hL19:=hL.ext hE
  have fin: ∀W,Ext W19 W→(∀k (hk:k+1=j),(L[k]'(by omega)).1.lt L[j].1)→Es7 W0 M 138 6 64 s4 [[.int .u8 L[j].1.x,.int .u8 L[j].1.y,.int .u8 L[j].1.z,s13.v,.bool b14,s15.v]] W fun s29 W30=>I64 ((j:Int)+1)∧paI W0.w.heap.size W0 L [.val (.int .i64 ((j:Int)+1)),.cells [s3.v],.cells [s29.v]] W30∧L.length-Int.toNat ((j:Int)+1)<L.length-Int.toNat (j:Int):=by
   intro W hEW hlt W' hE'
   have hE2:=(hE.trans hEW).trans hE'
   have hO':=hO.ext hE2
   refine⟨xs,hO',fun g hg=>.inr (hfr g hg),by simp;omega,fun s' W'' hX hO'' hob=>⟨by unfold I64;omega,⟨j+1,_,p ++ [(L[j].1,q)],by push_cast;rfl,by omega,(hEN.trans (hE2.toM _)).trans (hX.mono fun g hg=>hfr g hg),hO'',fun g hg=>?_,?_,hp.snoc hjl hq hq0 hlt⟩,hmu⟩⟩
   ·rcases hob g hg with h | h
    ·exact hfr g h
    ·exact Nat.le_trans (Nat.le_trans hEN.size hE2.size) h
   ·exact((ha.mono fun _ _ h=>PT.own hO' hX (by decide:231≠138) (h.ext hE2))).snoc ⟨h0,s13,b14,s15,rfl,Ab3.own hO' hX (by decide:231≠138) (h12.ext ((hE19.trans hEW).trans hE'))⟩
  refine⟨fun hj0=>?_,fun hj0=>fin W19 (Ext.refl _) fun k hk=>absurd hk (by omega)⟩
  have hj1:(((j:Int)-1).toNat)=j-1:=by omega
  have hjm:j-1<L.length:=by omega
  obtain⟨hm0,_,em,_⟩:=hL19.at (List.getElem?_eq_getElem hjm)
  refine⟨by unfold I64;omega,hL.inB (by omega) (by omega),_,_,_,by rw[hj1];exact em,Bk9 hm0 h0 fun W26 hE26 _=>⟨_,rfl,fun hge W28 _=>bad (Af1.bad hjl fun _ _ _=>⟨j-1,by omega,Fd6 hge⟩) _,fun hlt=>fin W26 hE26 fun k hk=>?_⟩⟩
  have:k=j-1:=by omega
  subst this
  exact Em9 hlt
 ·have:j=L.length:=by omega
  subst this
  unfold erP
  rw[hp.all];rfl
 ·have:j=L.length:=by omega
  subst this
  rw[hp.all]
  exact⟨_,(hO.ext hE33).row,ha.mono fun _ _ h=>h.ext hE33⟩
theorem Cc0 {W0 W:PW} {M:Nat→Prop} {s:Sl} {L:List (Mon×ByteArray)} {K:Value→PW→Prop} (h:Af3 W s L) (hl:L.length≤1099511627776) (hz: ∀t∈L,t.2.size≤1099511627776) (kont: ∀(s':Sl) (W':PW),Ext W W'→(Ab0 231 138 W' s' ((Ai8 L).getD []))→K (.tuple ⟨[.agg ⟨[Sl.v s']⟩,.int .i64 (erP L)]⟩) W'):
  Aa1 Tryz.prog W0 M 53 [s.v] W K:=
 Aa2 (fun W' hE=>Cy1 (M:=fun _=>False) (h.ext hE) hl hz) (fun W' v W'' hE hE' hP=>by
  obtain⟨s',rfl,h⟩:=hP
  exact kont s' W'' (hE.trans hE') h)
def Bp6 (L:List (Mon×ByteArray)) (most exp:Int):Prop:=(L.length:Int)≤most∧∀t∈L,t.2.size≤30∧t.1.x≤exp∧t.1.y≤exp∧t.1.z≤exp
theorem Db1 {W0:PW} {M:Nat→Prop} {s:Sl} {L:List (Mon×ByteArray)} {most exp:Int} (h:Af3 W0 s L) (hl:L.length≤1099511627776):
  Aa0 Tryz.prog 52 [s.v,.int .i64 most,.int .i64 exp] W0 M fun v W'=>∃(b:Bool),v = .bool b∧(b=true↔Bp6 L most exp):=by
 apply Bz5
 have hn:=h.n
 have bad:¬Bp6 L most exp→∃b:Bool,(Value.bool false) = .bool b∧(b=true↔Bp6 L most exp):=fun h=>⟨false,rfl,fun e=>(by cases e),fun hp=>absurd hp h⟩
 refine⟨fun hgt W1 _=>bad fun hp=>by have:=hp.1;omega,fun hle=>⟨fun l W=>match l with | [.val (.int .i64 i)]=>Ext W0 W∧∃j:Nat,i=(j:Int)∧j≤L.length∧∀t∈L.take j,t.2.size≤30∧t.1.x≤exp∧t.1.y≤exp∧t.1.z≤exp | _=>False,fun l _=>match l with | [.val (.int .i64 i)]=>L.length-i.toNat | _=>0,⟨Ext.refl _,0,rfl,by omega,fun t ht=>by simp at ht⟩,?_⟩⟩
 rintro i4 W5 ⟨hE,j,rfl,hj,hpre⟩
 refine⟨fun hlt=>?_,fun hge W14 _=>⟨true,rfl,fun _=>⟨by omega,fun t ht=>?_⟩,fun _=>rfl⟩⟩
 ·have hjl:j<L.length:=by omega
  have hL:=h.ext hE
  have hib:=hL.inB (i:=(j:Int)) (by omega) (by omega)
  have hm:=List.getElem_mem hjl
  obtain⟨xs,⟨_,hr⟩,ha⟩:=hL
  obtain⟨x,hx,h0,rfl⟩:=ha.get (List.getElem?_eq_getElem hjl)
  unfold Mon.ok at h0
  refine⟨hib,_,hr.part hx 3 rfl,fun hb W7 _=>bad fun hp=>by have:=hp.2 _ hm;omega,fun hb=>⟨hib,⟨by omega,by omega⟩,_,hr.part hx 0 rfl,by unfold I64;omega,fun hc W9 _=>bad fun hp=>by have:=hp.2 _ hm;omega,fun hc=>⟨hib,⟨by omega,by omega⟩,_,hr.part hx 1 rfl,by unfold I64;omega,fun hd W11 _=>bad fun hp=>by have:=hp.2 _ hm;omega,fun hd=>⟨hib,⟨by omega,by omega⟩,_,hr.part hx 2 rfl,by unfold I64;omega,fun he W13 _=>bad fun hp=>by have:=hp.2 _ hm;omega,fun he=>⟨by unfold I64;omega,⟨hE,j+1,by push_cast;rfl,by omega,fun t ht=>?_⟩,?_⟩⟩⟩⟩⟩
  ·rw[Ce0 hjl] at ht
   rcases List.mem_append.1 ht with ht | ht
   ·exact hpre t ht
   ·simp at ht
    subst ht
    exact⟨by omega,by omega,by omega,by omega⟩
  ·show L.length-Int.toNat ((j:Int)+1)<L.length-Int.toNat (j:Int)
   omega
 ·have:j=L.length:=by omega
  subst this
  rw[List.take_length] at hpre
  exact hpre t ht
theorem Cb1 {W0 W:PW} {M:Nat→Prop} {s:Sl} {L:List (Mon×ByteArray)} {most exp:Int} {K:Value→PW→Prop} (h:Af3 W s L) (hl:L.length≤1099511627776) (kont: ∀(b:Bool) (W':PW),Ext W W'→((b=true↔Bp6 L most exp))→K (.bool b) W'):
  Aa1 Tryz.prog W0 M 52 [s.v,.int .i64 most,.int .i64 exp] W K:=
 Aa2 (fun W' hE=>Db1 (M:=fun _=>False) (h.ext hE) hl) (fun W' v W'' hE hE' hP=>by
  obtain⟨b,rfl,h⟩:=hP
  exact kont b W'' (hE.trans hE') h)
def Ff1 (L:List (Mon×ByteArray)) (exp:Int) (p:List Tm):Prop:=Af1 L p∧Bp6 L 14 exp
theorem Ee7 {W0:PW} {M:Nat→Prop} {s:Sl} {L:List (Mon×ByteArray)} {exp:Int} (h:Af3 W0 s L) (hl:L.length≤1099511627776) (hz: ∀t∈L,t.2.size≤1099511627776):
  Aa0 Tryz.prog 10 [s.v,.int .i64 exp] W0 M fun v W'=>∃(s1:Sl),∃(s2:Sl),∃(b:Bool),v = .tuple ⟨[.agg ⟨[Sl.v s1]⟩,Sl.v s2,.bool b]⟩∧(b=true→∃p,Ff1 L exp p∧Ab0 231 138 W' s1 p∧Ag1 231 142 W' s2 p):=by
 apply Dg8
 have bad: ∀W':PW,∃(s1 s2:Sl) (b:Bool),(Value.tuple ⟨[.agg ⟨[.slice none 0 0]⟩,.slice none 0 0,.bool false]⟩) = .tuple ⟨[.agg ⟨[Sl.v s1]⟩,Sl.v s2,.bool b]⟩∧(b=true→∃p,Ff1 L exp p∧Ab0 231 138 W' s1 p∧Ag1 231 142 W' s2 p):=fun W'=>⟨⟨none,0,0⟩,⟨none,0,0⟩,false,rfl,fun e=>by cases e⟩
 refine Bg5 h hl hz fun s3 W2 hE2 h2=>⟨s3,_,rfl,fun _ W5 _=>bad W5,fun hyes=>Cb1 (h.ext hE2) hl fun b8 W7 hE7 hb=>⟨b8,rfl,fun _ W9 _=>bad W9,fun hb8=>Cc0 (h.ext (hE2.trans hE7)) hl hz fun s12 W11 hE11 h11=>⟨s12,_,rfl,fun W14 hE14=>⟨s12,s3,true,rfl,fun _=>?_⟩⟩⟩⟩
 obtain⟨p,hp⟩: ∃p,Ai8 L=some p:=Option.isSome_iff_exists.1 (by simpa using hyes)
 rw[hp] at h2 h11
 exact⟨p,⟨Eg3 hp,hb.1 (by simpa using hb8)⟩,h11.ext hE14,h2.ext ((hE7.trans hE11).trans hE14)⟩
theorem Dn6 {W0 W:PW} {M:Nat→Prop} {s:Sl} {L:List (Mon×ByteArray)} {exp:Int} {K:Value→PW→Prop} (h:Af3 W s L) (hl:L.length≤1099511627776) (hz: ∀t∈L,t.2.size≤1099511627776) (kont: ∀(s1:Sl) (s2:Sl) (b:Bool) (W':PW),Ext W W'→((b=true→∃p,Ff1 L exp p∧Ab0 231 138 W' s1 p∧Ag1 231 142 W' s2 p))→K (.tuple ⟨[.agg ⟨[Sl.v s1]⟩,Sl.v s2,.bool b]⟩) W'):
  Aa1 Tryz.prog W0 M 10 [s.v,.int .i64 exp] W K:=
 Aa2 (fun W' hE=>Ee7 (M:=fun _=>False) (h.ext hE) hl hz) (fun W' v W'' hE hE' hP=>by
  obtain⟨s1,s2,b,rfl,h⟩:=hP
  exact kont s1 s2 b W'' (hE.trans hE') h)
theorem Ff1.len {L:List (Mon×ByteArray)} {exp:Int} {p:List Tm} (h:Ff1 L exp p):p.length≤14:=by
 have h1:=h.1.len
 have h2:=h.2.1
 omega
theorem Ff1.bd {L:List (Mon×ByteArray)} {exp:Int} {p:List Tm} (h:Ff1 L exp p):Bd 56029 p:=by
 have:=h.len
 exact(Bd.Co7 h.1.sz).mono (by omega)
end Go.Proofs.YtokefihiadbkbaaGreatDoor
/- whole.Pow, rat.Pow; cinctureref1.times. -/
namespace Go.Proofs.YtokefihiadbkbaaGreatDoor
open Go Go.SX
theorem Cf5 {z:Int} {k:Nat} (h:nl z.natAbs≤k) (e:Nat):nl (z^e).natAbs≤k*e+1:=by
 induction e with
 | zero=>simp[Ax0]
 | succ e ih=>
  rw[Int.pow_succ,Int.natAbs_mul]
  have:=Ae5 (z^e).natAbs z.natAbs
  rw[Nat.mul_add]
  omega
end Go.Proofs.YtokefihiadbkbaaGreatDoor
/- cinctureref1.times; poly.At, cinctureref1.At. -/
namespace Go.Proofs.YtokefihiadbkbaaGreatDoor
open Go Go.SX
end Go.Proofs.YtokefihiadbkbaaGreatDoor
/- Exponents up to a bound; products that fit. -/
namespace Go.Proofs.YtokefihiadbkbaaGreatDoor
open Go Go.SX
theorem Bp6.exp {L:List (Mon×ByteArray)} {p:List Tm} {most e:Int} (h:Bp6 L most e) (hp:Af1 L p): ∀t∈p,t.1.x≤e∧t.1.y≤e∧t.1.z≤e:=fun t ht=>by
 obtain⟨u,hu,h1,_⟩:=Fa5 hp.1 ht
 have:=(h.2 u hu).2
 rw[h1]
 exact this
def Gk4 (e:Int) (p:List Tm):Prop:=∀t∈p,t.1.ok∧t.1.x≤e∧t.1.y≤e∧t.1.z≤e
theorem Ff1.exp {L:List (Mon×ByteArray)} {p:List Tm} {e:Int} (h:Ff1 L e p) (ho:POk p):Gk4 e p:=fun t ht=>⟨ho t ht,h.2.exp h.1 t ht⟩
theorem Gk4.norm {e:Int} {p:List Tm} (h:Gk4 e p):Gk4 e (Ag2 p):=fun t ht=>by
 obtain⟨u,hu,h1⟩:=Gu2 ht
 rw[h1]
 exact h u hu
theorem Gk4.append {e:Int} {p q:List Tm} (h:Gk4 e p) (k:Gk4 e q):Gk4 e (p ++ q):=fun t ht=>by
 rcases List.mem_append.1 ht with ht | ht
 ·exact h t ht
 ·exact k t ht
theorem Gx3 {e f:Int} {p q:List Tm} (h:Gk4 e p) (k:Gk4 f q) (hef:e+f≤255):Ct4 p q:=fun a ha b hb=>by
 have h1:=h a ha
 have h2:=k b hb
 unfold Mon.ok at *
 unfold Mon.add
 dsimp only
 omega
theorem Gn4 {p q:List Tm} (h:Ct4 p q):Fm8 p q=Ag2 (An8 p q):=by unfold Fm8;rw[if_pos h]
end Go.Proofs.YtokefihiadbkbaaGreatDoor
/- poly.Same. -/
namespace Go.Proofs.YtokefihiadbkbaaGreatDoor
open Go Go.SX
end Go.Proofs.YtokefihiadbkbaaGreatDoor
/- cinctureref1: PolyAdd, PolyScale, PolySub, Var, Const, PolySame. -/
namespace Go.Proofs.YtokefihiadbkbaaGreatDoor
open Go Go.SX
theorem Jv6 {W0:PW} {M:Nat→Prop} {sp sq:Sl} {p q:List Tm} {k:Nat} (h1:Ag1 231 142 W0 sp p) (h2:Ag1 231 142 W0 sq q) (g1:Av6 p) (b1:Bd k p) (b2:Bd k q) (hk:k≤40000000) (hp:p.length≤536870912) (hq:q.length≤536870912):
  Aa0 Tryz.prog 15 [sp.v,sq.v] W0 M fun v W'=>∃(s':Sl),v=Sl.v s'∧Ag1 231 142 W' s' (Ag2 (p ++ q)):=by
 apply Jv1
 have n2:=h2.n
 refine⟨fun L W=>match L with
  | [.val (.slice A n c),.val (.int .i64 i)]=>∃j:Nat,i=(j:Int)∧j≤q.length∧Ext W0 W∧Ag1 231 142 W ⟨A,n,c⟩ (Ag2 (p ++ q.take j))
  | _=>False,cnL q.length,⟨0,rfl,by omega,Ext.refl _,by rw[List.take_zero,List.append_nil,Jw8 g1];exact h1⟩,?_⟩
 rintro s3 i4 W5 ⟨j,rfl,hj,hE5,hp5⟩
 have hp5:Ag1 231 142 W5 s3 (Ag2 (p ++ q.take j)):=hp5
 refine⟨fun hlt=>?_,fun hge W15 hE15=>⟨s3,rfl,?_⟩⟩
 ·have hjl:j<q.length:=by omega
  obtain⟨h0,c1,s1,s2,e1,_,_,hr⟩:=(h2.ext hE5).at (List.getElem?_eq_getElem hjl)
  have hlen:=El2 (p ++ q.take j)
  rw[List.length_append,List.length_take] at hlen
  refine⟨(h2.ext hE5).inB (by omega) (by omega),_,_,_,c1,s1,s2,e1,Hd1 (m:=q[j].1) hp5 hr h0 ((b1.append (b2.take j)).norm.sz) ((b2.sz _ (List.getElem_mem hjl)).mono (by omega)) (by omega) (by omega) fun s' W13 hE13 h13=>⟨s',rfl,by unfold I64;omega,⟨j+1,by push_cast;rfl,by omega,hE5.trans hE13,?_⟩,?_⟩⟩
  ·rw[Ce0 hjl,←List.append_assoc,Hn2]
   exact h13
  ·show q.length-Int.toNat ((j:Int)+1)<q.length-Int.toNat (j:Int)
   omega
 ·have:j=q.length:=by omega
  subst this
  rw[List.take_length] at hp5
  exact hp5.ext hE15
theorem Jv3 {W0 W:PW} {M:Nat→Prop} {sp sq:Sl} {p q:List Tm} {k:Nat} {K:Value→PW→Prop} (h1:Ag1 231 142 W sp p) (h2:Ag1 231 142 W sq q) (g1:Av6 p) (b1:Bd k p) (b2:Bd k q) (hk:k≤40000000) (hp:p.length≤536870912) (hq:q.length≤536870912) (kont: ∀(s':Sl) (W':PW),Ext W W'→(Ag1 231 142 W' s' (Ag2 (p ++ q)))→K (Sl.v s') W'):
  Aa1 Tryz.prog W0 M 15 [sp.v,sq.v] W K:=
 Aa2 (fun W' hE=>Jv6 (M:=fun _=>False) (h1.ext hE) (h2.ext hE) g1 b1 b2 hk hp hq) (fun W' v W'' hE hE' hP=>by
  obtain⟨s',rfl,h⟩:=hP
  exact kont s' W'' (hE.trans hE') h)
theorem Kt2 {W0:PW} {M:Nat→Prop} {sp s t:Sl} {p:List Tm} {b:Bool} {r:Rat} {k l:Nat} (h1:Ag1 231 142 W0 sp p) (h2:Ab6 231 W0 b s t r) (b1:Bd k p) (b2:Sz l r) (hk:k≤40000000) (hl:l≤40000000) (hp:p.length≤1073741824):
  Aa0 Tryz.prog 83 [sp.v,.agg ⟨[.bool b,s.v,t.v]⟩] W0 M fun v W'=>∃(s':Sl),v=Sl.v s'∧Ag1 231 142 W' s' (Ag2 (pmap p r)):=by
 apply Ks4
 have n1:=h1.n
 have hB:=Bd.pmap b1 b2
 refine⟨fun L W=>match L with
  | [.val (.slice A n c),.val (.int .i64 i)]=>∃j:Nat,i=(j:Int)∧j≤p.length∧Ext W0 W∧Ag1 231 142 W ⟨A,n,c⟩ (Ag2 (pmap (p.take j) r))
  | _=>False,cnL p.length,⟨0,rfl,by omega,Ext.refl _,Ag1.nil W0⟩,?_⟩
 rintro s3 i4 W5 ⟨j,rfl,hj,hE5,hp5⟩
 have hp5:Ag1 231 142 W5 s3 (Ag2 (pmap (p.take j) r)):=hp5
 refine⟨fun hlt=>?_,fun hge W20 hE20=>⟨s3,rfl,?_⟩⟩
 ·have hjl:j<p.length:=by omega
  have hP:=h1.ext hE5
  have hib:=hP.inB (i:=(j:Int)) (by omega) (by omega)
  obtain⟨h0,c1,s1,s2,_,e2,e3,hr⟩:=hP.at (List.getElem?_eq_getElem hjl)
  have hlen:=El2 (pmap (p.take j) r)
  rw[Ew2,List.length_take] at hlen
  refine⟨hib,_,_,_,e2,hib,c1,s1,s2,e3,Am6 hr (h2.ext hE5) (b1.sz _ (List.getElem_mem hjl)) b2 (by omega) (by omega) fun c3 t3 u3 W13 hE13 h13=>⟨c3,t3,u3,rfl,hE13,?_⟩⟩
  refine Hd1 (m:=p[j].1) (hp5.ext hE13) h13 h0 ((Bd.pmap (b1.take j) b2).norm.sz) (hB.sz (p[j].1,p[j].2*r) (List.mem_map.2 ⟨p[j],List.getElem_mem hjl,rfl⟩)) (by omega) (by omega) fun s' W18 hE18 h18=>⟨s',rfl,hE18,by unfold I64;omega,⟨j+1,by push_cast;rfl,by omega,hE5.trans (hE13.trans hE18),?_⟩,?_⟩
  ·rw[Ce0 hjl,show pmap (p.take j ++ [p[j]]) r=pmap (p.take j) r ++ [(p[j].1,p[j].2*r)] from List.map_append,Hn2]
   exact h18
  ·show p.length-Int.toNat ((j:Int)+1)<p.length-Int.toNat (j:Int)
   omega
 ·have:j=p.length:=by omega
  subst this
  rw[List.take_length] at hp5
  exact hp5.ext hE20
theorem Ks5 {W0 W:PW} {M:Nat→Prop} {sp s t:Sl} {p:List Tm} {b:Bool} {r:Rat} {k l:Nat} {K:Value→PW→Prop} (h1:Ag1 231 142 W sp p) (h2:Ab6 231 W b s t r) (b1:Bd k p) (b2:Sz l r) (hk:k≤40000000) (hl:l≤40000000) (hp:p.length≤1073741824) (kont: ∀(s':Sl) (W':PW),Ext W W'→(Ag1 231 142 W' s' (Ag2 (pmap p r)))→K (Sl.v s') W'):
  Aa1 Tryz.prog W0 M 83 [sp.v,.agg ⟨[.bool b,s.v,t.v]⟩] W K:=
 Aa2 (fun W' hE=>Kt2 (M:=fun _=>False) (h1.ext hE) (h2.ext hE) b1 b2 hk hl hp) (fun W' v W'' hE hE' hP=>by
  obtain⟨s',rfl,h⟩:=hP
  exact kont s' W'' (hE.trans hE') h)
theorem Km6 {W0:PW} {M:Nat→Prop} {i:Int} :
  Aa0 Tryz.prog 84 [.int .i64 i] W0 M fun v W'=>∃(s':Sl),v=Sl.v s'∧Ag1 231 142 W' s' (Dc6 i):=by
 apply Kh5
 refine⟨fun h W1 hE=>⟨⟨none,0,0⟩,rfl,?_⟩,fun h=>⟨fun h' W2 hE=>⟨⟨none,0,0⟩,rfl,?_⟩,fun h'=>⟨⟨by omega,by omega⟩,by omega,⟨⟨trivial,fun e=>?_⟩,fun e=>?_⟩,fun e=>?_⟩⟩⟩
 ·unfold Dc6;rw[if_neg (by omega)];exact Ag1.nil W1
 ·unfold Dc6;rw[if_neg (by omega)];exact Ag1.nil W2
 ·have hv:Dc6 i = [(Da3 0,((1:Int):Rat))]:=by unfold Dc6;rw[if_pos (by omega),e];rfl
  rw[hv]
  exact Ak1 (z:=1) (by unfold I64;omega) fun b5 s6 s7 W4 hE4 h4=>⟨b5,s6,s7,rfl,fun s8 W9 hE9 hO _ W10 hE10=>⟨s8,rfl,_,(hO.ext hE10).row,⟨(by decide:(Da3 0).ok),b5,s6,s7,rfl,h4.ext (hE9.trans hE10)⟩,trivial⟩⟩
 ·have hv:Dc6 i = [(Da3 1,((1:Int):Rat))]:=by unfold Dc6;rw[if_pos (by omega),e];rfl
  rw[hv]
  exact Ak1 (z:=1) (by unfold I64;omega) fun b5 s6 s7 W4 hE4 h4=>⟨b5,s6,s7,rfl,fun s8 W9 hE9 hO _ W10 hE10=>⟨s8,rfl,_,(hO.ext hE10).row,⟨(by decide:(Da3 1).ok),b5,s6,s7,rfl,h4.ext (hE9.trans hE10)⟩,trivial⟩⟩
 ·have hv:Dc6 i = [(Da3 2,((1:Int):Rat))]:=by unfold Dc6;rw[if_pos (by omega),e];rfl
  rw[hv]
  exact Ak1 (z:=1) (by unfold I64;omega) fun b5 s6 s7 W4 hE4 h4=>⟨b5,s6,s7,rfl,fun s8 W9 hE9 hO _ W10 hE10=>⟨s8,rfl,_,(hO.ext hE10).row,⟨(by decide:(Da3 2).ok),b5,s6,s7,rfl,h4.ext (hE9.trans hE10)⟩,trivial⟩⟩
theorem Kj4 {W0 W:PW} {M:Nat→Prop} {i:Int} {K:Value→PW→Prop} (kont: ∀(s':Sl) (W':PW),Ext W W'→(Ag1 231 142 W' s' (Dc6 i))→K (Sl.v s') W'):
  Aa1 Tryz.prog W0 M 84 [.int .i64 i] W K:=
 Aa2 (fun W' hE=>Km6 (M:=fun _=>False) ) (fun W' v W'' hE hE' hP=>by
  obtain⟨s',rfl,h⟩:=hP
  exact kont s' W'' (hE.trans hE') h)
theorem Kj7 {W0:PW} {M:Nat→Prop} {s t:Sl} {b:Bool} {q:Rat} {k:Nat} (h:Ab6 231 W0 b s t q) (hq:Sz k q) (hk:k≤100000000):
  Aa0 Tryz.prog 82 [.agg ⟨[.bool b,s.v,t.v]⟩] W0 M fun v W'=>∃(s':Sl),v=Sl.v s'∧Ag1 231 142 W' s' (Ag2 [(⟨0,0,0⟩,q)]):=by
 apply Ke4
 exact Hd1 (sp:=⟨none,0,0⟩) (m:=⟨0,0,0⟩) (Ag1.nil W0) h (by decide) (fun t ht=>by simp at ht) hq hk (by simp) fun s' W2 hE2 h2=>⟨s',rfl,fun W4 hE4=>⟨s',rfl,h2.ext hE4⟩⟩
theorem Kf1 {W0 W:PW} {M:Nat→Prop} {s t:Sl} {b:Bool} {q:Rat} {k:Nat} {K:Value→PW→Prop} (h:Ab6 231 W b s t q) (hq:Sz k q) (hk:k≤100000000) (kont: ∀(s':Sl) (W':PW),Ext W W'→(Ag1 231 142 W' s' (Ag2 [(⟨0,0,0⟩,q)]))→K (Sl.v s') W'):
  Aa1 Tryz.prog W0 M 82 [.agg ⟨[.bool b,s.v,t.v]⟩] W K:=
 Aa2 (fun W' hE=>Kj7 (M:=fun _=>False) (h.ext hE) hq hk) (fun W' v W'' hE hE' hP=>by
  obtain⟨s',rfl,h⟩:=hP
  exact kont s' W'' (hE.trans hE') h)
end Go.Proofs.YtokefihiadbkbaaGreatDoor
/- cinctureref1.PolyMul. -/
namespace Go.Proofs.YtokefihiadbkbaaGreatDoor
open Go Go.SX
theorem Kb8 {p q:List Tm} {j:Nat} (hj:j<p.length):An8 p q=An8 (p.take j) q ++ (Ev4 p[j] q ++ An8 (p.drop (j+1)) q):=by
 have e:p=p.take j ++ p[j] :: p.drop (j+1):=by rw[←List.drop_eq_getElem_cons hj,List.take_append_drop]
 have e2: ∀a b:List Tm,An8 (a ++ b) q=An8 a q ++ An8 b q:=fun a b=>by simp[An8]
 conv=>lhs;rw[e]
 rw[e2]
 rfl
theorem Kl5 (a:Tm) (q:List Tm) (k:Nat):Ev4 a q=Ev4 a (q.take k) ++ Ev4 a (q.drop k):=by
 rw[Ev4,Ev4,Ev4,←List.map_append,List.take_append_drop]
theorem Kh2 {a:Tm} {q:List Tm} {k:Nat} (hk:k<q.length):Ev4 a (q.take (k+1))=Ev4 a (q.take k) ++ [(a.1.add q[k].1,a.2*q[k].2)]:=by
 rw[Ce0 hk]
 exact List.map_append
def rmO (W0:PW) (p q:List Tm) (l:List PL) (W:PW):Prop:=match l with
 | [.val (.slice A n c),.val (.int .i64 i)]=>∃j:Nat,i=(j:Int)∧j≤p.length∧Ext W0 W∧Ct4 (p.take j) q∧Ag1 231 142 W ⟨A,n,c⟩ (Ag2 (An8 (p.take j) q))
 | _=>False
def rmI (W0:PW) (p q:List Tm) (j:Nat) (t:Tm) (l:List PL) (W:PW):Prop:=match l with
 | [.val (.slice A n c),.val (.int .i64 i)]=>∃k:Nat,i=(k:Int)∧k≤q.length∧Ext W0 W∧(∀b∈q.take k,(t.1.add b.1).ok)∧Ag1 231 142 W ⟨A,n,c⟩ (Ag2 (An8 (p.take j) q ++ Ev4 t (q.take k)))
 | _=>False
theorem Kg0 {W0:PW} {M:Nat→Prop} {sp sq:Sl} {p q:List Tm} {k:Nat} (h1:Ag1 231 142 W0 sp p) (h2:Ag1 231 142 W0 sq q) (b1:Bd k p) (b2:Bd k q) (hk:k≤50000000) (hp:p.length≤1073741824) (hq:q.length≤1073741824) (hpq:p.length*q.length≤1073741824):
  Aa0 Tryz.prog 151 [sp.v,sq.v] W0 M fun v W'=>∃(s':Sl),v = .tuple ⟨[Sl.v s',.bool (decide (Ct4 p q))]⟩∧Ag1 231 142 W' s' (Fm8 p q):=by
 apply Kd2
 have n1:=h1.n
 have n2:=h2.n
 have hB:=b1.Ff3 b2
 refine⟨rmO W0 p q,cnL p.length,⟨0,rfl,by omega,Ext.refl _,fun a ha=>by simp at ha,Ag1.nil W0⟩,?_⟩
 rintro s3 i4 W5 ⟨j,rfl,hj,hE5,hok,hr⟩
 have hr:Ag1 231 142 W5 s3 (Ag2 (An8 (p.take j) q)):=hr
 refine⟨fun hlt=>?_,fun hge W59 hE59=>⟨s3,?_,?_⟩⟩
 ·have hjl:j<p.length:=by omega
  refine⟨rmI W0 p q j p[j],cnL q.length,⟨0,rfl,by omega,hE5,fun b hb=>by simp at hb,by simpa[Ev4] using hr⟩,?_⟩
  rintro s8 i9 W10 ⟨k',rfl,hk',hE10,hok',hr'⟩
  have hr':Ag1 231 142 W10 s8 (Ag2 (An8 (p.take j) q ++ Ev4 p[j] (q.take k'))):=hr'
  refine⟨fun hlt'=>?_,fun hge'=>⟨by unfold I64;omega,⟨j+1,by push_cast;rfl,by omega,hE10,?_,?_⟩,?_⟩⟩
  ·have hkl:k'<q.length:=by omega
   have hP:=h1.ext hE10
   have hQ:=h2.ext hE10
   have i1:=hP.inB (i:=(j:Int)) (by omega) (by omega)
   have i2:=hQ.inB (i:=(k':Int)) (by omega) (by omega)
   obtain⟨o1,_,_,_,_,e1,_,_⟩:=hP.at (List.getElem?_eq_getElem hjl)
   obtain⟨o2,_,_,_,_,e2,_,_⟩:=hQ.at (List.getElem?_eq_getElem hkl)
   refine⟨i1,_,_,_,e1,i2,_,_,_,e2,?_⟩
   refine Ke2 o1 o2 fun W18 hE18 _=>⟨_,_,_,_,rfl,fun hno W23 hE23=>?_,fun hyes=>?_⟩
   ·have hno:¬(p[j].1.add q[k'].1).ok:=by simpa using hno
    have hM:¬Ct4 p q:=fun h=>hno (h _ (List.getElem_mem hjl) _ (List.getElem_mem hkl))
    refine⟨⟨none,0,0⟩,?_,?_⟩
    ·rw[decide_eq_false hM]
    ·unfold Fm8
     rw[if_neg hM]
     exact Ag1.nil W23
   ·have hyes:(p[j].1.add q[k'].1).ok:=by simpa using hyes
    have hmm:mulMon p[j].1 q[k'].1=p[j].1.add q[k'].1:=by unfold mulMon;rw[if_pos hyes]
    rw[hmm]
    obtain⟨_,c1,t1,u1,_,_,f1,r1⟩:=(hP.ext hE18).at (List.getElem?_eq_getElem hjl)
    obtain⟨_,c2,t2,u2,_,_,f2,r2⟩:=(hQ.ext hE18).at (List.getElem?_eq_getElem hkl)
    have hpre:Bd (k+k) (An8 (p.take j) q ++ Ev4 p[j] (q.take k') ++ [(p[j].1.add q[k'].1,p[j].2*q[k'].2)]):=by
     have hB':=hB
     rw[Kb8 hjl,←List.append_assoc] at hB'
     have:=hB'.left
     rw[Kl5 p[j] q (k'+1),Kh2 hkl] at this
     rw[←List.append_assoc,←List.append_assoc] at this
     exact this.left
    have hlen:=El2 (An8 (p.take j) q ++ Ev4 p[j] (q.take k'))
    have hll:(An8 (p.take j) q ++ Ev4 p[j] (q.take k')).length≤p.length*q.length:=by
     have:=congrArg List.length (Kb8 (q:=q) hjl)
     rw[Eb1] at this
     simp only[List.length_append] at this⊢
     have e:(Ev4 p[j] (q.take k')).length≤(Ev4 p[j] q).length:=by simp[Ev4];omega
     omega
    refine⟨i1,c1,t1,u1,f1,i2,c2,t2,u2,f2,Am6 r1 r2 (b1.sz _ (List.getElem_mem hjl)) (b2.sz _ (List.getElem_mem hkl)) (by omega) (by omega) fun c3 t3 u3 W31 hE31 h31=>⟨c3,t3,u3,rfl,?_⟩⟩
    refine Hd1 (m:=p[j].1.add q[k'].1) (hr'.ext (hE18.trans hE31)) h31 hyes hpre.left.norm.sz (hpre.right.sz (p[j].1.add q[k'].1,p[j].2*q[k'].2) (by simp)) (by omega) (by omega) fun s37 W36 hE36 h36=>⟨s37,rfl,by unfold I64;omega,⟨k'+1,by push_cast;rfl,by omega,hE10.trans ((hE18.trans hE31).trans hE36),?_,?_⟩,?_⟩
    ·intro b hb
     rw[Ce0 hkl] at hb
     rcases List.mem_append.1 hb with hb | hb
     ·exact hok' b hb
     ·simp at hb;subst hb;exact hyes
    ·rw[Kh2 hkl,←List.append_assoc,Hn2]
     exact h36
    ·show q.length-Int.toNat ((k':Int)+1)<q.length-Int.toNat (k':Int)
     omega
  ·intro a ha b hb
   rw[Ce0 hjl] at ha
   rcases List.mem_append.1 ha with ha | ha
   ·exact hok a ha b hb
   ·simp at ha;subst ha
    have:k'=q.length:=by omega
    subst this
    rw[List.take_length] at hok'
    exact hok' b hb
  ·have:k'=q.length:=by omega
   subst this
   rw[List.take_length] at hr'
   rw[Ce0 hjl,Dl0]
   exact hr'
  ·show p.length-Int.toNat ((j:Int)+1)<p.length-Int.toNat (j:Int)
   omega
 ·have:j=p.length:=by omega
  subst this
  rw[List.take_length] at hok
  rw[decide_eq_true hok]
 ·have:j=p.length:=by omega
  subst this
  rw[List.take_length] at hok hr
  unfold Fm8
  rw[if_pos hok]
  exact hr.ext hE59
theorem Ke0 {W0 W:PW} {M:Nat→Prop} {sp sq:Sl} {p q:List Tm} {k:Nat} {K:Value→PW→Prop} (h1:Ag1 231 142 W sp p) (h2:Ag1 231 142 W sq q) (b1:Bd k p) (b2:Bd k q) (hk:k≤50000000) (hp:p.length≤1073741824) (hq:q.length≤1073741824) (hpq:p.length*q.length≤1073741824) (kont: ∀(s':Sl) (W':PW),Ext W W'→(Ag1 231 142 W' s' (Fm8 p q))→K (.tuple ⟨[Sl.v s',.bool (decide (Ct4 p q))]⟩) W'):
  Aa1 Tryz.prog W0 M 151 [sp.v,sq.v] W K:=
 Aa2 (fun W' hE=>Kg0 (M:=fun _=>False) (h1.ext hE) (h2.ext hE) b1 b2 hk hp hq hpq) (fun W' v W'' hE hE' hP=>by
  obtain⟨s',rfl,h⟩:=hP
  exact kont s' W'' (hE.trans hE') h)
end Go.Proofs.YtokefihiadbkbaaGreatDoor
/- poly.Compose, cinctureref1.Compose. -/
namespace Go.Proofs.YtokefihiadbkbaaGreatDoor
open Go Go.SX
noncomputable def Kr9 (c:Option (List Tm)) (q:List Tm):Option (List Tm):=match c with
 | none=>none
 | some c=>if Ct4 c q then some (Ag2 (An8 c q)) else none
noncomputable def Ks2 (c:List Tm) (l:List (List Tm)):Option (List Tm):=l.foldl Kr9 (some c)
def Ks6 (q:Nat→List Tm) (e:Nat→Nat):Nat→List (List Tm)
 | 0=>[]
 | m+1=>Ks6 q e m ++ List.replicate (e m) (q m)
def ege (t:Tm) (i:Nat):Nat:=(An6 t.1 i).toNat
def cst (r:Rat):List Tm:=Ag2 [(⟨0,0,0⟩,r)]
noncomputable def Ks1 (q:Nat→List Tm) (t:Tm):Option (List Tm):=Ks2 (cst t.2) (Ks6 q (ege t) 3)
noncomputable def Kr8 (q:Nat→List Tm):List Tm→Option (List Tm)
 | []=>some []
 | t :: r=>match Ks1 q t,Kr8 q r with
  | some c,some d=>some (c ++ d)
  | _,_=>none
theorem Ks0 (l:List (List Tm)):l.foldl Kr9 none=none:=by
 induction l with
 | nil=>rfl
 | cons q r ih=>exact ih
theorem Kv9 (c:List Tm) (l:List (List Tm)) (q:List Tm):Ks2 c (l ++ [q])=Kr9 (Ks2 c l) q:=by simp[Ks2]
theorem Kx5 (c:List Tm) (l r:List (List Tm)) (h:Ks2 c l=none):Ks2 c (l ++ r)=none:=by
 unfold Ks2 at *
 rw[List.foldl_append,h,Ks0]
theorem Kx8 (q:Nat→List Tm) (l:List Tm) (t:Tm):Kr8 q (l ++ [t])=match Kr8 q l,Ks1 q t with
  | some d,some c=>some (d ++ c)
  | _,_=>none:=by
 induction l with
 | nil=>
  simp only[List.nil_append,Kr8]
  cases Ks1 q t<;>simp
 | cons u r ih=>
  simp only[List.cons_append,Kr8,ih]
  cases Ks1 q u<;>cases Kr8 q r<;>cases Ks1 q t<;>simp
theorem Ky6 {q:Nat→List Tm} {p:List Tm} {t:Tm} (ht:t∈p) (h:Ks1 q t=none):Kr8 q p=none:=by
 induction p with
 | nil=>simp at ht
 | cons u r ih=>
  rw[Kr8]
  rcases List.mem_cons.1 ht with rfl | ht
  ·rw[h]
  ·rw[ih ht]
   cases Ks1 q u<;>rfl
theorem Kx1 {q:Nat→List Tm} {e:Nat→Nat} {m:Nat} {x:List Tm} (h:x∈Ks6 q e m): ∃i,i<m∧x=q i:=by
 induction m with
 | zero=>simp[Ks6] at h
 | succ m ih=>
  rcases List.mem_append.1 h with h | h
  ·obtain⟨i,h1,h2⟩:=ih h
   exact⟨i,by omega,h2⟩
  ·exact⟨m,by omega,List.eq_of_mem_replicate h⟩
theorem Lb6 {k:Nat} {r:Rat} (h:Sz k r):Bd (k+3) (cst r)∧(cst r).length≤1:=⟨(Cq4 h).norm,El2 _⟩
theorem Kv5 (q:Nat→List Tm) {t:Tm} (h:t.1.ok):(Ks6 q (ege t) 3).length=t.1.deg.toNat:=by
 obtain⟨⟨h1,_⟩,⟨h2,_⟩,h3,_⟩:=h
 simp only[Ks6,List.nil_append,List.length_append,List.length_replicate,ege,An6,Mon.deg]
 simp
 omega
theorem Ku5 (q:Nat→List Tm) {t:Tm} {m n:Nat} (hm:m<3) (hn:n≤ege t m):(Ks6 q (ege t) m ++ List.replicate n (q m)).length≤(Ks6 q (ege t) 3).length:=by
 rcases(by omega:m=0∨m=1∨m=2) with rfl | rfl | rfl<;>simp[Ks6]<;>omega
def Lc0 (s0 s1 s2:Sl) (m:Nat):Sl:=if m=0 then s0 else if m=1 then s1 else s2
def Kt8 (q0 q1 q2:List Tm) (m:Nat):List Tm:=if m=0 then q0 else if m=1 then q1 else q2
theorem Ky9 (s0 s1 s2:Sl) {m:Nat} (hm:m<3):As9 [s0.v,s1.v,s2.v] (0+Int.toNat (m:Int)*1+0) [(Lc0 s0 s1 s2 m).v]:=by
 rcases(by omega:m=0∨m=1∨m=2) with rfl | rfl | rfl<;>exact⟨by simp,rfl⟩
theorem Kw5 {W:PW} {s0 s1 s2:Sl} {q0 q1 q2:List Tm} (h0:Ag1 231 142 W s0 q0) (h1:Ag1 231 142 W s1 q1) (h2:Ag1 231 142 W s2 q2) (m:Nat):Ag1 231 142 W (Lc0 s0 s1 s2 m) (Kt8 q0 q1 q2 m):=by
 unfold Lc0 Kt8
 (repeat' split)<;>assumption
theorem Kx2 {q:Nat→List Tm} {t:Tm} {m n:Nat} :Ks6 q (ege t) m ++ List.replicate (n+1) (q m)=Ks6 q (ege t) m ++ List.replicate n (q m) ++ [q m]:=by
 rw[List.replicate_succ',List.append_assoc]
theorem Ky8 {q:Nat→List Tm} {t:Tm} {m n:Nat} (hm:m<3) (hn:n≤ege t m) (h:Ks2 (cst t.2) (Ks6 q (ege t) m ++ List.replicate n (q m))=none):Ks1 q t=none:=by
 have key: ∃r,Ks6 q (ege t) 3=Ks6 q (ege t) m ++ List.replicate n (q m) ++ r:=by
  have hr:List.replicate (ege t m) (q m)=List.replicate n (q m) ++ List.replicate (ege t m-n) (q m):=by rw[List.replicate_append_replicate];congr 1;omega
  rcases(by omega:m=0∨m=1∨m=2) with rfl | rfl | rfl
  ·refine⟨List.replicate (ege t 0-n) (q 0) ++ (List.replicate (ege t 1) (q 1) ++ List.replicate (ege t 2) (q 2)),?_⟩
   simp only[Ks6,hr,List.nil_append,List.append_assoc]
  ·refine⟨List.replicate (ege t 1-n) (q 1) ++ List.replicate (ege t 2) (q 2),?_⟩
   simp only[Ks6,hr,List.nil_append,List.append_assoc]
  ·refine⟨List.replicate (ege t 2-n) (q 2),?_⟩
   simp only[Ks6,hr,List.nil_append,List.append_assoc]
 obtain⟨r,hr⟩:=key
 unfold Ks1
 rw[hr]
 exact Kx5 _ _ _ h
def cpO (W0:PW) (q:Nat→List Tm) (p:List Tm) (L:List PL) (W:PW):Prop:=match L with
 | [.row l,.val (.int .i64 i),_]=>∃(j:Nat) (acc:List Tm),i=(j:Int)∧j≤p.length∧Ext W0 W∧Kr8 q (p.take j)=some acc∧An5 (PT 231 W) l acc
 | _=>False
def cpI (W0:PW) (q:Nat→List Tm) (t:Tm) (L:List PL) (W:PW):Prop:=match L with
 | [_,.val (.int .i64 i),.cells [.slice A n c],_]=>∃(m:Nat) (d:List Tm),i=(m:Int)∧m≤3∧Ext W0 W∧Ks2 (cst t.2) (Ks6 q (ege t) m)=some d∧Ab0 231 138 W ⟨A,n,c⟩ d
 | _=>False
def crO (W0:PW) (q:Nat→List Tm) (p:List Tm) (L:List PL) (W:PW):Prop:=match L with
 | [.val (.slice A n c),.val (.int .i64 i)]=>∃(j:Nat) (acc:List Tm),i=(j:Int)∧j≤p.length∧Ext W0 W∧Kr8 q (p.take j)=some acc∧Ag1 231 142 W ⟨A,n,c⟩ (Ag2 acc)
 | _=>False
def crI (W0:PW) (q:Nat→List Tm) (t:Tm) (L:List PL) (W:PW):Prop:=match L with
 | [.val (.slice A n c),.val (.int .i64 i)]=>∃(m:Nat) (d:List Tm),i=(m:Int)∧m≤3∧Ext W0 W∧Ks2 (cst t.2) (Ks6 q (ege t) m)=some d∧Ag1 231 142 W ⟨A,n,c⟩ d
 | _=>False
def crK (W0:PW) (q:Nat→List Tm) (t:Tm) (m:Nat) (L:List PL) (W:PW):Prop:=match L with
 | [.val (.slice A n c),.val (.int .i64 i)]=>∃(k:Nat) (d:List Tm),i=(k:Int)∧k≤ege t m∧Ext W0 W∧Ks2 (cst t.2) (Ks6 q (ege t) m ++ List.replicate k (q m))=some d∧Ag1 231 142 W ⟨A,n,c⟩ d
 | _=>False
theorem Kz6 {W:PW} {s:Sl} {p:List Tm} (h:Ag1 231 142 W s p) {j k:Nat} {t:Tm} (hj:p[j]?=some t) (hk:k<3):Aa7 W s 6 j (0+Int.toNat (k:Int)*1) [.int .u8 (An6 t.1 k)]:=by
 obtain⟨xs,h1,h2⟩:=h
 obtain⟨x,hx,h0,b,s1,s2,rfl,hq⟩:=h2.get hj
 refine h1.part hx _ ?_
 rcases(by omega:k=0∨k=1∨k=2) with rfl | rfl | rfl<;>rfl
end Go.Proofs.YtokefihiadbkbaaGreatDoor
