/- cinctureref1.PolyParse, poly.Parse, book.Terms, law8.Of. -/
import Derived.Test.YtahohahjnhfedaaGreatW7
import Derived.Test.YtahohahjnhfedaaGreatLib3
import Derived.Test.YtahohahjnhfedaaGreatR11
import Derived.Test.YtahohahjnhfedaaGreatLib4
import Derived.Test.YtahohahjnhfedaaGreatR10
import Derived.Test.YtahohahjnhfedaaGreatW2
import Derived.Test.YtahohahjnhfedaaGreatW6
set_option linter.unusedVariables false
set_option linter.unusedSimpArgs false
set_option maxRecDepth 100000
namespace Go.Proofs.YtahohahjnhfedaaGreat
open Go Go.SX
def ppI (C:PW→List Value→Tm→Prop) (W0:PW) (L:List (Mon×ByteArray)) (l:List PL) (W:PW):Prop:=match l with
 | [.row xs,.val (.int .i64 i)]=>∃(j:Nat) (p:List Tm),i=(j:Int)∧j≤L.length∧Ext W0 W∧An5 (C W) xs p∧Af1 (L.take j) p
 | _=>False
theorem Fd6 {a b:Mon} (h:0≤a.cmp b):¬a.lt b:=fun hl=>by
 have:=Mon.Dm2.2 hl
 omega
theorem Em9 {a b:Mon} (h:¬0≤a.cmp b):a.lt b:=Mon.Dm2.1 (by omega)
theorem Bx6 {W0:PW} {M:Nat→Prop} {s:Sl} {L:List (Mon×ByteArray)} (h:Af3 W0 s L) (hl:L.length≤1099511627776) (hz: ∀t∈L,t.2.size≤1099511627776):
  Aa0 Tryz.prog 83 [s.v] W0 M fun v W'=>∃(s':Sl),v = .tuple ⟨[Sl.v s',.bool (Ai8 L).isSome]⟩∧Ag1 240 120 W' s' ((Ai8 L).getD []):=by
 apply Bf0
 have hn:=h.n
 have bad:Ai8 L=none→∀W':PW,∃s':Sl,(Value.tuple ⟨[.slice none 0 0,.bool false]⟩) = .tuple ⟨[Sl.v s',.bool (Ai8 L).isSome]⟩∧Ag1 240 120 W' s' ((Ai8 L).getD []):=fun h W'=>by
  rw[h]
  exact⟨⟨none,0,0⟩,rfl,Ag1.nil W'⟩
 refine⟨ppI (RT 240) W0 L,cnL L.length,⟨0,[],rfl,by omega,Ext.refl _,trivial,Af1.nil⟩,?_⟩
 rintro l3 i4 W5 ⟨j,p,rfl,hj,hE5,ha,hp⟩
 have hal:=ha.len
 have hpl:=hp.len
 rw[List.length_take] at hpl
 refine⟨fun hlt=>?_,fun hge s34 W35 hE35 hO _ W36 hE36=>⟨s34,?_,?_⟩⟩
 ·have hjl:j<L.length:=by omega
  have hL:=h.ext hE5
  have hib:=hL.inB (i:=(j:Int)) (by omega) (by omega)
  obtain⟨h0,_,_,e3⟩:=hL.at (List.getElem?_eq_getElem hjl)
  refine⟨hib,_,e3,An7 (hz _ (List.getElem_mem hjl)) fun b9 s10 s11 W8 hE8 h8=>⟨b9,s10,s11,_,rfl,fun hno W13 _=>bad (Af1.bad hjl fun q hq _=>by rw[hq] at hno;cases hno) _,fun hyes=>?_⟩⟩
  obtain⟨q,hq⟩: ∃q,Ab7 L[j].2=some q:=Option.isSome_iff_exists.1 (by simpa using hyes)
  rw[hq] at h8
  have h8:Ab6 240 W8 b9 s10 s11 q:=h8
  refine Aq7 h8.1 fun W15 hE15 _=>⟨_,rfl,fun h0' W17 _=>bad (Af1.bad hjl fun q' hq' hne=>by rw[hq] at hq';cases hq';exact absurd (Ds5.1 (Ds0.1 h0')) hne) _,fun hne=>?_⟩
  have hq0:q≠0:=fun e=>hne (Ds0.2 (Ds5.2 e))
  have hE:=hE8.trans hE15
  have hmu:L.length-Int.toNat ((j:Int)+1)<L.length-Int.toNat (j:Int):=by omega
  have hL15:=hL.ext hE
  obtain⟨_,_,e2,_⟩:=hL15.at (List.getElem?_eq_getElem hjl)
  refine⟨fun hj0=>?_,fun hj0=>⟨hib,_,_,_,e2,Ext.refl _,by simp;omega,Ext.refl _,by unfold I64;omega,⟨j+1,_,by push_cast;rfl,by omega,hE5.trans hE,(ha.mono fun _ _ h=>h.ext hE).snoc ⟨h0,b9,s10,s11,rfl,h8.ext hE15⟩,hp.snoc hjl hq hq0 fun k hk=>absurd hk (by omega)⟩,hmu⟩⟩
  have hj1:(((j:Int)-1).toNat)=j-1:=by omega
  have hjm:j-1<L.length:=by omega
  obtain⟨hm0,_,em,_⟩:=hL15.at (List.getElem?_eq_getElem hjm)
  refine⟨by unfold I64;omega,hL.inB (by omega) (by omega),_,_,_,by rw[hj1];exact em,hib,_,_,_,e2,Bx0 hm0 h0 fun W25 hE25 _=>⟨_,rfl,fun hge W27 _=>bad (Af1.bad hjl fun _ _ _=>⟨j-1,by omega,Fd6 hge⟩) _,fun hlt=>?_⟩⟩
  obtain⟨_,_,e2',_⟩:=(hL15.ext hE25).at (List.getElem?_eq_getElem hjl)
  refine⟨hib,_,_,_,e2',Ext.refl _,by simp;omega,Ext.refl _,by unfold I64;omega,⟨j+1,_,by push_cast;rfl,by omega,hE5.trans (hE.trans hE25),(ha.mono fun _ _ h=>h.ext (hE.trans hE25)).snoc ⟨h0,b9,s10,s11,rfl,h8.ext (hE15.trans hE25)⟩,hp.snoc hjl hq hq0 fun k hk=>?_⟩,hmu⟩
  have:k=j-1:=by omega
  subst this
  exact Em9 hlt
 ·have:j=L.length:=by omega
  subst this
  rw[hp.all];rfl
 ·have:j=L.length:=by omega
  subst this
  rw[hp.all]
  exact⟨_,(hO.ext hE36).row,ha.mono fun _ _ h=>h.ext (hE35.trans hE36)⟩
theorem Bg5 {W0 W:PW} {M:Nat→Prop} {s:Sl} {L:List (Mon×ByteArray)} {K:Value→PW→Prop} (h:Af3 W s L) (hl:L.length≤1099511627776) (hz: ∀t∈L,t.2.size≤1099511627776) (kont: ∀(s':Sl) (W':PW),Ext W W'→(Ag1 240 120 W' s' ((Ai8 L).getD []))→K (.tuple ⟨[Sl.v s',.bool (Ai8 L).isSome]⟩) W'):
  Aa1 Tryz.prog W0 M 83 [s.v] W K:=
 Aa2 (fun W' hE=>Bx6 (M:=fun _=>False) (h.ext hE) hl hz) (fun W' v W'' hE hE' hP=>by
  obtain⟨s',rfl,h⟩:=hP
  exact kont s' W'' (hE.trans hE') h)
noncomputable def erP (L:List (Mon×ByteArray)):Int:=if(Ai8 L).isSome then 0 else 2
def paI (n0:Nat) (W0:PW) (L:List (Mon×ByteArray)) (l:List PL) (W:PW):Prop:=match l with
 | [.val (.int .i64 i),_,.cells [.slice A n c]]=>∃(j:Nat) (xs:List (List Value)) (p:List Tm),i=(j:Int)∧j≤L.length∧Eo1 n0 W0 W∧Go.SX.Own W 196 6 ⟨A,n,c⟩ xs∧(∀g,(Value.slice A n c).ownBlock=some g→n0≤g)∧An5 (PT 240 W) xs p∧Af1 (L.take j) p
 | _=>False
theorem Dd0 {W:PW} {t:TypeId} {sz:Nat} :Go.SX.Own W t sz ⟨none,0,0⟩ []:=⟨⟨by simp,by simp,.inl ⟨rfl,rfl⟩⟩,fun g hg=>by simp[Sl.v,Value.ownBlock] at hg⟩
theorem Cy1 {W0:PW} {M:Nat→Prop} {s:Sl} {L:List (Mon×ByteArray)} (h:Af3 W0 s L) (hl:L.length≤1099511627776) (hz: ∀t∈L,t.2.size≤1099511627776):
  Aa0 Tryz.prog 85 [s.v] W0 M fun v W'=>∃(s':Sl),v = .tuple ⟨[.agg ⟨[Sl.v s']⟩,.int .i64 (erP L)]⟩∧Ab0 240 196 W' s' ((Ai8 L).getD []):=by
 apply Ca9
 have hn:=h.n
 have bad:Ai8 L=none→∀W':PW,∃s':Sl,(Value.tuple ⟨[.agg ⟨[.slice none 0 0]⟩,.int .i64 2]⟩) = .tuple ⟨[.agg ⟨[Sl.v s']⟩,.int .i64 (erP L)]⟩∧Ab0 240 196 W' s' ((Ai8 L).getD []):=fun h W'=>by
  unfold erP
  rw[h]
  exact⟨⟨none,0,0⟩,rfl,Ab0.nil W'⟩
 refine⟨paI W0.w.heap.size W0 L,fun l _=>match l with | [.val (.int .i64 i),_,_]=>L.length-i.toNat | _=>0,⟨0,[],[],rfl,by omega,Au9.refl _ _,Dd0,fun g hg=>by simp[Value.ownBlock] at hg,trivial,Af1.nil⟩,?_⟩
 rintro s3 s4 i5 W6 ⟨j,xs,p,rfl,hj,hEN,hO,hfr,ha,hp⟩
 have hO:Go.SX.Own W6 196 6 s4 xs:=hO
 have hfr: ∀g,s4.v.ownBlock=some g→W0.w.heap.size≤g:=hfr
 have hal:=ha.len
 have hpl:=hp.len
 rw[List.length_take] at hpl
 refine⟨fun hlt=>?_,fun hge W33 hE33=>⟨s4,?_,?_⟩⟩
 ·have hjl:j<L.length:=by omega
  have hL:=h.new hEN (Nat.le_refl _)
  have hib:=hL.inB (i:=(j:Int)) (by omega) (by omega)
  obtain⟨h0,e1,_,_⟩:=hL.at (List.getElem?_eq_getElem hjl)
  refine⟨hib,_,_,_,_,e1,As8 (hz _ (List.getElem_mem hjl)) fun s13 b14 s15 W12 hE12 h12=>⟨s13,b14,s15,_,rfl,fun hno W17 _=>bad (Af1.bad hjl fun q hq _=>by rw[hq] at hno;exact absurd rfl hno) _,fun hyes=>?_⟩⟩
  obtain⟨q,hq⟩: ∃q,Ab7 L[j].2=some q:=by
   cases hq:Ab7 L[j].2 with
   | none=>rw[hq] at hyes;exact absurd (by decide) hyes
   | some q=>exact⟨q,rfl⟩
  rw[hq] at h12
  have h12:Ab3 240 W12 s13 b14 s15 q:=h12
  refine Bk6 h12 (Aw6 hq).1 (by omega) fun W19 hE19 _=>⟨_,rfl,fun h0' W21 _=>bad (Af1.bad hjl fun q' hq' hne=>by rw[hq] at hq';cases hq';exact absurd ((Be6 _ _).1 h0') hne) _,fun hne=>?_⟩
  have hq0:q≠0:=fun e=>hne ((Be6 _ _).2 e)
  have hE:=hE12.trans hE19
  have hmu:L.length-Int.toNat ((j:Int)+1)<L.length-Int.toNat (j:Int):=by omega
  have hL19:=hL.ext hE
  have fin: ∀W,Ext W19 W→(∀k (hk:k+1=j),(L[k]'(by omega)).1.lt L[j].1)→Es7 W0 M 196 6 64 s4 [[.int .u8 L[j].1.x,.int .u8 L[j].1.y,.int .u8 L[j].1.z,s13.v,.bool b14,s15.v]] W fun s29 W30=>I64 ((j:Int)+1)∧paI W0.w.heap.size W0 L [.val (.int .i64 ((j:Int)+1)),.cells [s3.v],.cells [s29.v]] W30∧L.length-Int.toNat ((j:Int)+1)<L.length-Int.toNat (j:Int):=by
   intro W hEW hlt W' hE'
   have hE2:=(hE.trans hEW).trans hE'
   have hO':=hO.ext hE2
   refine⟨xs,hO',fun g hg=>.inr (hfr g hg),by simp;omega,fun s' W'' hX hO'' hob=>⟨by unfold I64;omega,⟨j+1,_,p ++ [(L[j].1,q)],by push_cast;rfl,by omega,(hEN.trans (hE2.toM _)).trans (hX.mono fun g hg=>hfr g hg),hO'',fun g hg=>?_,?_,hp.snoc hjl hq hq0 hlt⟩,hmu⟩⟩
   ·rcases hob g hg with h | h
    ·exact hfr g h
    ·exact Nat.le_trans (Nat.le_trans hEN.size hE2.size) h
   ·exact((ha.mono fun _ _ h=>PT.own hO' hX (by decide:240≠196) (h.ext hE2))).snoc ⟨h0,s13,b14,s15,rfl,Ab3.own hO' hX (by decide:240≠196) (h12.ext ((hE19.trans hEW).trans hE'))⟩
  refine⟨fun hj0=>?_,fun hj0=>fin W19 (Ext.refl _) fun k hk=>absurd hk (by omega)⟩
  have hj1:(((j:Int)-1).toNat)=j-1:=by omega
  have hjm:j-1<L.length:=by omega
  obtain⟨hm0,_,em,_⟩:=hL19.at (List.getElem?_eq_getElem hjm)
  refine⟨by unfold I64;omega,hL.inB (by omega) (by omega),_,_,_,by rw[hj1];exact em,Bk9 hm0 h0 fun W26 hE26 _=>⟨_,rfl,fun hge W28 _=>bad (Af1.bad hjl fun _ _ _=>⟨j-1,by omega,Fd6 hge⟩) _,fun hlt=>fin W26 hE26 fun k hk=>?_⟩⟩
  have:k=j-1:=by omega
  subst this
  exact Em9 hlt
 ·have:j=L.length:=by omega
  subst this
  unfold erP
  rw[hp.all];rfl
 ·have:j=L.length:=by omega
  subst this
  rw[hp.all]
  exact⟨_,(hO.ext hE33).row,ha.mono fun _ _ h=>h.ext hE33⟩
theorem Cc0 {W0 W:PW} {M:Nat→Prop} {s:Sl} {L:List (Mon×ByteArray)} {K:Value→PW→Prop} (h:Af3 W s L) (hl:L.length≤1099511627776) (hz: ∀t∈L,t.2.size≤1099511627776) (kont: ∀(s':Sl) (W':PW),Ext W W'→(Ab0 240 196 W' s' ((Ai8 L).getD []))→K (.tuple ⟨[.agg ⟨[Sl.v s']⟩,.int .i64 (erP L)]⟩) W'):
  Aa1 Tryz.prog W0 M 85 [s.v] W K:=
 Aa2 (fun W' hE=>Cy1 (M:=fun _=>False) (h.ext hE) hl hz) (fun W' v W'' hE hE' hP=>by
  obtain⟨s',rfl,h⟩:=hP
  exact kont s' W'' (hE.trans hE') h)
def Bp6 (L:List (Mon×ByteArray)) (most exp:Int):Prop:=(L.length:Int)≤most∧∀t∈L,t.2.size≤30∧t.1.x≤exp∧t.1.y≤exp∧t.1.z≤exp
theorem Db1 {W0:PW} {M:Nat→Prop} {s:Sl} {L:List (Mon×ByteArray)} {most exp:Int} (h:Af3 W0 s L) (hl:L.length≤1099511627776):
  Aa0 Tryz.prog 84 [s.v,.int .i64 most,.int .i64 exp] W0 M fun v W'=>∃(b:Bool),v = .bool b∧(b=true↔Bp6 L most exp):=by
 apply Bz5
 have hn:=h.n
 have bad:¬Bp6 L most exp→∃b:Bool,(Value.bool false) = .bool b∧(b=true↔Bp6 L most exp):=fun h=>⟨false,rfl,fun e=>(by cases e),fun hp=>absurd hp h⟩
 refine⟨fun hgt W1 _=>bad fun hp=>by have:=hp.1;omega,fun hle=>⟨fun l W=>match l with | [.val (.int .i64 i)]=>Ext W0 W∧∃j:Nat,i=(j:Int)∧j≤L.length∧∀t∈L.take j,t.2.size≤30∧t.1.x≤exp∧t.1.y≤exp∧t.1.z≤exp | _=>False,fun l _=>match l with | [.val (.int .i64 i)]=>L.length-i.toNat | _=>0,⟨Ext.refl _,0,rfl,by omega,fun t ht=>by simp at ht⟩,?_⟩⟩
 rintro i4 W5 ⟨hE,j,rfl,hj,hpre⟩
 refine⟨fun hlt=>?_,fun hge W14 _=>⟨true,rfl,fun _=>⟨by omega,fun t ht=>?_⟩,fun _=>rfl⟩⟩
 ·have hjl:j<L.length:=by omega
  have hL:=h.ext hE
  have hib:=hL.inB (i:=(j:Int)) (by omega) (by omega)
  have hm:=List.getElem_mem hjl
  obtain⟨xs,⟨_,hr⟩,ha⟩:=hL
  obtain⟨x,hx,h0,rfl⟩:=ha.get (List.getElem?_eq_getElem hjl)
  unfold Mon.ok at h0
  refine⟨hib,_,hr.part hx 3 rfl,fun hb W7 _=>bad fun hp=>by have:=hp.2 _ hm;omega,fun hb=>⟨hib,⟨by omega,by omega⟩,_,hr.part hx 0 rfl,by unfold I64;omega,fun hc W9 _=>bad fun hp=>by have:=hp.2 _ hm;omega,fun hc=>⟨hib,⟨by omega,by omega⟩,_,hr.part hx 1 rfl,by unfold I64;omega,fun hd W11 _=>bad fun hp=>by have:=hp.2 _ hm;omega,fun hd=>⟨hib,⟨by omega,by omega⟩,_,hr.part hx 2 rfl,by unfold I64;omega,fun he W13 _=>bad fun hp=>by have:=hp.2 _ hm;omega,fun he=>⟨by unfold I64;omega,⟨hE,j+1,by push_cast;rfl,by omega,fun t ht=>?_⟩,?_⟩⟩⟩⟩⟩
  ·rw[Ce0 hjl] at ht
   rcases List.mem_append.1 ht with ht | ht
   ·exact hpre t ht
   ·simp at ht
    subst ht
    exact⟨by omega,by omega,by omega,by omega⟩
  ·show L.length-Int.toNat ((j:Int)+1)<L.length-Int.toNat (j:Int)
   omega
 ·have:j=L.length:=by omega
  subst this
  rw[List.take_length] at hpre
  exact hpre t ht
theorem Cb1 {W0 W:PW} {M:Nat→Prop} {s:Sl} {L:List (Mon×ByteArray)} {most exp:Int} {K:Value→PW→Prop} (h:Af3 W s L) (hl:L.length≤1099511627776) (kont: ∀(b:Bool) (W':PW),Ext W W'→((b=true↔Bp6 L most exp))→K (.bool b) W'):
  Aa1 Tryz.prog W0 M 84 [s.v,.int .i64 most,.int .i64 exp] W K:=
 Aa2 (fun W' hE=>Db1 (M:=fun _=>False) (h.ext hE) hl) (fun W' v W'' hE hE' hP=>by
  obtain⟨b,rfl,h⟩:=hP
  exact kont b W'' (hE.trans hE') h)
def Ff1 (L:List (Mon×ByteArray)) (exp:Int) (p:List Tm):Prop:=Af1 L p∧Bp6 L 14 exp
theorem Ee7 {W0:PW} {M:Nat→Prop} {s:Sl} {L:List (Mon×ByteArray)} {exp:Int} (h:Af3 W0 s L) (hl:L.length≤1099511627776) (hz: ∀t∈L,t.2.size≤1099511627776):
  Aa0 Tryz.prog 27 [s.v,.int .i64 exp] W0 M fun v W'=>∃(s1:Sl),∃(s2:Sl),∃(b:Bool),v = .tuple ⟨[.agg ⟨[Sl.v s1]⟩,Sl.v s2,.bool b]⟩∧(b=true→∃p,Ff1 L exp p∧Ab0 240 196 W' s1 p∧Ag1 240 120 W' s2 p):=by
 apply Dg8
 have bad: ∀W':PW,∃(s1 s2:Sl) (b:Bool),(Value.tuple ⟨[.agg ⟨[.slice none 0 0]⟩,.slice none 0 0,.bool false]⟩) = .tuple ⟨[.agg ⟨[Sl.v s1]⟩,Sl.v s2,.bool b]⟩∧(b=true→∃p,Ff1 L exp p∧Ab0 240 196 W' s1 p∧Ag1 240 120 W' s2 p):=fun W'=>⟨⟨none,0,0⟩,⟨none,0,0⟩,false,rfl,fun e=>by cases e⟩
 refine Bg5 h hl hz fun s3 W2 hE2 h2=>⟨s3,_,rfl,fun _ W5 _=>bad W5,fun hyes=>Cb1 (h.ext hE2) hl fun b8 W7 hE7 hb=>⟨b8,rfl,fun _ W9 _=>bad W9,fun hb8=>Cc0 (h.ext (hE2.trans hE7)) hl hz fun s12 W11 hE11 h11=>⟨s12,_,rfl,fun W14 hE14=>⟨s12,s3,true,rfl,fun _=>?_⟩⟩⟩⟩
 obtain⟨p,hp⟩: ∃p,Ai8 L=some p:=Option.isSome_iff_exists.1 (by simpa using hyes)
 rw[hp] at h2 h11
 exact⟨p,⟨Eg3 hp,hb.1 (by simpa using hb8)⟩,h11.ext hE14,h2.ext ((hE7.trans hE11).trans hE14)⟩
theorem Dn6 {W0 W:PW} {M:Nat→Prop} {s:Sl} {L:List (Mon×ByteArray)} {exp:Int} {K:Value→PW→Prop} (h:Af3 W s L) (hl:L.length≤1099511627776) (hz: ∀t∈L,t.2.size≤1099511627776) (kont: ∀(s1:Sl) (s2:Sl) (b:Bool) (W':PW),Ext W W'→((b=true→∃p,Ff1 L exp p∧Ab0 240 196 W' s1 p∧Ag1 240 120 W' s2 p))→K (.tuple ⟨[.agg ⟨[Sl.v s1]⟩,Sl.v s2,.bool b]⟩) W'):
  Aa1 Tryz.prog W0 M 27 [s.v,.int .i64 exp] W K:=
 Aa2 (fun W' hE=>Ee7 (M:=fun _=>False) (h.ext hE) hl hz) (fun W' v W'' hE hE' hP=>by
  obtain⟨s1,s2,b,rfl,h⟩:=hP
  exact kont s1 s2 b W'' (hE.trans hE') h)
theorem Ff1.len {L:List (Mon×ByteArray)} {exp:Int} {p:List Tm} (h:Ff1 L exp p):p.length≤14:=by
 have h1:=h.1.len
 have h2:=h.2.1
 omega
theorem Ff1.bd {L:List (Mon×ByteArray)} {exp:Int} {p:List Tm} (h:Ff1 L exp p):Bd 56029 p:=by
 have:=h.len
 exact(Bd.Co7 h.1.sz).mono (by omega)
end Go.Proofs.YtahohahjnhfedaaGreat
/- Exponents up to a bound; products that fit. -/
namespace Go.Proofs.YtahohahjnhfedaaGreat
open Go Go.SX
theorem Gn4 {p q:List Tm} (h:Ct4 p q):Fm8 p q=Ag2 (An8 p q):=by unfold Fm8;rw[if_pos h]
end Go.Proofs.YtahohahjnhfedaaGreat
/- cincturelaw12.System: polynomials of texts. -/
namespace Go.Proofs.YtahohahjnhfedaaGreat
open Go Go.SX
abbrev Ps (W:PW) (s:Sl) (ps:List (List Tm)):Prop:=Gf4 240 196 W s ps
abbrev RPs (W:PW) (s:Sl) (ps:List (List Tm)):Prop:=Jz0 240 120 W s ps
def Kj9 (T:List (List (Mon×ByteArray))) (exp:Int) (ps:List (List Tm)):Prop:=An5 (fun l p=>Ff1 l exp p) T ps
theorem Kj9.at {T:List (List (Mon×ByteArray))} {exp:Int} {ps:List (List Tm)} (h:Kj9 T exp ps) {i:Nat} (hi:i<ps.length): ∃l,Ff1 l exp ps[i]∧T[i]?=some l:=by
 obtain⟨l,hl,ho⟩:=An5.get h (List.getElem?_eq_getElem hi)
 exact⟨l,ho,hl⟩
theorem Kj9.mem {T:List (List (Mon×ByteArray))} {exp:Int} {ps:List (List Tm)} (h:Kj9 T exp ps) {p:List Tm} (hp:p∈ps): ∃l,Ff1 l exp p:=by
 obtain⟨i,hi,rfl⟩:=List.mem_iff_getElem.1 hp
 obtain⟨l,ho,_⟩:=h.at hi
 exact⟨l,ho⟩
def Kq0 (n:Nat) (l:List PL) (_:PW):Nat:=match l with
 | [.val (.int .i64 i)]=>n-i.toNat
 | _=>0
def Kr2 (W0:PW) (T:List (List (Mon×ByteArray))) (exp:Int) (L:List PL) (W:PW):Prop:=match L with
 | [.row xs,.row ys,.val (.int .i64 i)]=>∃(j:Nat) (ps:List (List Tm)),i=(j:Int)∧j≤T.length∧Ext W0 W∧Kj9 (T.take j) exp ps∧An5 (Gx4 240 196 W) xs ps∧An5 (Ke9 240 120 W) ys ps
 | _=>False
theorem Kh1 {W0:PW} {M:Nat→Prop} {s:Sl} {T:List (List (Mon×ByteArray))} {exp:Int} (h:Jz1 W0 s T) (hz: ∀l∈T,l.length≤1099511627776∧∀t∈l,t.2.size≤1099511627776):
  Aa0 Tryz.prog 5 [s.v,.int .i64 exp] W0 M fun v W'=>∃(s1:Sl),∃(s2:Sl),∃(b:Bool),v = .tuple ⟨[Sl.v s1,Sl.v s2,.bool b]⟩∧(b=true→∃ps,Kj9 T exp ps∧T.length≤4∧Ps W' s1 ps∧RPs W' s2 ps):=by
 apply Kc1
 have hn:=h.n
 refine⟨fun _ W1 _=>⟨⟨none,0,0⟩,⟨none,0,0⟩,false,rfl,fun e=>by cases e⟩,fun h4=>⟨Kr2 W0 T exp,fun L _=>match L with | [_,_,.val (.int .i64 i)]=>T.length-i.toNat | _=>0,⟨0,[],rfl,Nat.zero_le _,Ext.refl _,trivial,trivial,trivial⟩,?_⟩⟩
 rintro l4 l5 i6 W7 ⟨j,ps,rfl,hj,hE,hof,ha,hb⟩
 have hal:=ha.len
 have hbl:=hb.len
 have hol:=An5.len hof
 rw[List.length_take] at hol
 refine⟨fun hlt=>?_,fun hge s15 W16 hE16 hO _ s17 W18 hE18 hO2 _ W19 hE19=>⟨s15,s17,true,rfl,fun _=>?_⟩⟩
 ·have hjl:j<T.length:=by omega
  have hT:=h.ext hE
  obtain⟨x,hx,hp⟩:=hT.at hjl
  obtain⟨z1,z2⟩:=hz _ (List.getElem_mem hjl)
  refine⟨hT.inB (by omega) (by omega),x,hx,Dn6 hp z1 z2 fun s11 s12 b13 W10 hE10 g=>⟨s11,s12,b13,rfl,fun _ W14 _=>⟨⟨none,0,0⟩,⟨none,0,0⟩,false,rfl,fun e=>(by cases e)⟩,fun hb13=>?_⟩⟩
  obtain⟨p,op,p1,p2⟩:=g (by simpa using hb13)
  refine⟨by simp only[List.length_cons,List.length_nil];omega,by simp only[List.length_cons,List.length_nil];omega,by unfold I64;omega,⟨j+1,ps ++ [p],by push_cast;rfl,by omega,hE.trans hE10,?_,(ha.mono fun _ _ h=>h.ext hE10).snoc ⟨s11,rfl,p1⟩,(hb.mono fun _ _ h=>h.ext hE10).snoc ⟨s12,rfl,p2⟩⟩,?_⟩
  ·have e:T.take (j+1)=T.take j ++ [T[j]]:=by rw[List.take_add_one,List.getElem?_eq_getElem hjl];rfl
   rw[e]
   exact An5.snoc hof op
  ·show T.length-Int.toNat ((j:Int)+1)<T.length-Int.toNat (j:Int)
   omega
 ·have:j=T.length:=by omega
  subst this
  rw[List.take_length] at hof
  exact⟨ps,hof,by omega,⟨l4,⟨_,((hO.ext hE18).ext hE19).row⟩,ha.mono fun _ _ h=>h.ext (hE16.trans (hE18.trans hE19))⟩,⟨l5,⟨_,(hO2.ext hE19).row⟩,hb.mono fun _ _ h=>h.ext (hE16.trans (hE18.trans hE19))⟩⟩
theorem Ke6 {W0 W:PW} {M:Nat→Prop} {s:Sl} {T:List (List (Mon×ByteArray))} {exp:Int} {K:Value→PW→Prop} (h:Jz1 W s T) (hz: ∀l∈T,l.length≤1099511627776∧∀t∈l,t.2.size≤1099511627776) (kont: ∀(s1:Sl) (s2:Sl) (b:Bool) (W':PW),Ext W W'→((b=true→∃ps,Kj9 T exp ps∧T.length≤4∧Ps W' s1 ps∧RPs W' s2 ps))→K (.tuple ⟨[Sl.v s1,Sl.v s2,.bool b]⟩) W'):
  Aa1 Tryz.prog W0 M 5 [s.v,.int .i64 exp] W K:=
 Aa2 (fun W' hE=>Kh1 (M:=fun _=>False) (h.ext hE) hz) (fun W' v W'' hE hE' hP=>by
  obtain⟨s1,s2,b,rfl,h⟩:=hP
  exact kont s1 s2 b W'' (hE.trans hE') h)
end Go.Proofs.YtahohahjnhfedaaGreat
/- poly.Diff, cinctureref1.Diff; cincturelaw8.PolyDiffs. -/
namespace Go.Proofs.YtahohahjnhfedaaGreat
open Go Go.SX
def Hj5 (m:Mon) (k:Nat):Mon:=if k=0 then⟨m.x-1,m.y,m.z⟩ else if k=1 then⟨m.x,m.y-1,m.z⟩ else⟨m.x,m.y,m.z-1⟩
def Hc2 (k:Nat) (t:Tm):List Tm:=if 0<An6 t.1 k then[(Hj5 t.1 k,t.2*((An6 t.1 k:Int):Rat))] else[]
def Hc1 (p:List Tm) (k:Nat):List Tm:=p.flatMap (Hc2 k)
def Hc3 (p:List Tm) (i:Int):List Tm:=if 0≤i∧i<3 then Ag2 (Hc1 p i.toNat) else[]
theorem Hc4 {p:List Tm} {j:Nat} (hj:j<p.length) (k:Nat):Hc1 (p.take (j+1)) k=Hc1 (p.take j) k ++ Hc2 k p[j]:=by
 rw[Ce0 hj]
 unfold Hc1
 rw[List.flatMap_append]
 rw[show List.flatMap (Hc2 k) [p[j]]=Hc2 k p[j] from by simp[List.flatMap]]
theorem Ho7 (k:Nat) (t:Tm):(Hc2 k t).length≤1:=by
 unfold Hc2
 split<;>simp
theorem Hd4 (p:List Tm) (k:Nat):(Hc1 p k).length≤p.length:=by
 induction p with
 | nil=>simp[Hc1]
 | cons t r ih=>
  have e:Hc1 (t :: r) k=Hc2 k t ++ Hc1 r k:=rfl
  have:=Ho7 k t
  rw[e]
  simp only[List.length_append,List.length_cons]
  omega
theorem Hl4 {m:Mon} {k:Nat} (h:m.ok) (hk:k<3) (hp:0<An6 m k):(Hj5 m k).ok:=by
 unfold Mon.ok at h
 unfold An6 at hp
 unfold Hj5
 rcases(by omega:k=0∨k=1∨k=2) with rfl | rfl | rfl
 ·simp at hp;exact⟨⟨by show 0≤m.x-1;omega,by show m.x-1≤255;omega⟩,h.2.1,h.2.2⟩
 ·simp at hp;exact⟨h.1,⟨by show 0≤m.y-1;omega,by show m.y-1≤255;omega⟩,h.2.2⟩
 ·simp at hp;exact⟨h.1,h.2.1,by show 0≤m.z-1;omega,by show m.z-1≤255;omega⟩
theorem Hg5 {l:Nat} {p:List Tm} (h:Bd l p) (ho:POk p) (k:Nat):Bd (l+1) (Hc1 p k):=by
 obtain⟨D,N,h1,h2,h3,h4⟩:=h
 have key: ∀{p:List Tm} {N:Nat},Fit D N p→POk p→Fit D (N*255) (Hc1 p k):=by
  intro p
  induction p with
  | nil=>intro N _ _;trivial
  | cons t r ih=>
   rintro N ⟨a,b,g1,g2,g3⟩ ho
   have e:Hc1 (t :: r) k=Hc2 k t ++ Hc1 r k:=rfl
   rw[e]
   have hr:=ih g3 fun x hx=>ho x (by simp[hx])
   have ht:Fit D (a*255) (Hc2 k t):=by
    unfold Hc2
    split
    ·have hk:=Dg9 (ho t (by simp)) k
     have h5:Ak3 1 255 ((An6 t.1 k:Int):Rat):=(Ak3.int (An6 t.1 k)).mono (by omega)
     have h6:=g2.mul h5
     rw[Nat.mul_one] at h6
     exact⟨a*255,0,by omega,h6,trivial⟩
    ·trivial
   have:=ht.append hr
   rw[←Nat.add_mul] at this
   exact this.mono (Nat.mul_le_mul_right _ g1)
 have h5:=Ae5 N 255
 have h6:nl 255≤1:=Bc6 (by decide)
 exact⟨D,N*255,key h1 ho,h2,by omega,by omega⟩
theorem Hq5 (m:Mon) {k:Nat} (hk:k<3) (r:List Value):As9 (.int .u8 m.x :: .int .u8 m.y :: .int .u8 m.z :: r) (0+Int.toNat (k:Int)*1+0) [.int .u8 (An6 m k)]:=by
 rcases(by omega:k=0∨k=1∨k=2) with rfl | rfl | rfl<;>exact⟨by simp,rfl⟩
theorem Hl0 {W0:PW} {M:Nat→Prop} {s:Sl} {p:List Tm} {i:Int} {l:Nat} (h:Ab0 240 196 W0 s p) (hB:Bd l p) (hl:l≤268435456) (hp:p.length≤1073741824):
  Aa0 Tryz.prog 157 [.agg ⟨[s.v]⟩,.int .i64 i] W0 M fun v W'=>∃(s':Sl),v = .agg ⟨[Sl.v s']⟩∧Ab0 240 196 W' s' (Hc3 p i):=by
 apply Hh0
 have hn:=h.n
 refine⟨fun h0 W1 _=>⟨⟨none,0,0⟩,rfl,?_⟩,fun h0=>⟨fun h3 W2 _=>⟨⟨none,0,0⟩,rfl,?_⟩,fun h3=>?_⟩⟩
 ·unfold Hc3;rw[if_neg (by omega)];exact Ab0.nil W1
 ·unfold Hc3;rw[if_neg (by omega)];exact Ab0.nil W2
 obtain⟨k,rfl⟩:=Int.eq_ofNat_of_zero_le (by omega:0≤i)
 have hk3:k<3:=by omega
 have hkr:(0:Int)≤(k:Int)∧(k:Int)<3:=⟨by omega,by omega⟩
 refine⟨fun L W=>match L with
  | [.row xs,.val (.int .i64 i)]=>∃j:Nat,i=(j:Int)∧j≤p.length∧Ext W0 W∧An5 (PT 240 W) xs (Hc1 (p.take j) k)
  | _=>False,cnL p.length,⟨0,rfl,by omega,Ext.refl _,trivial⟩,?_⟩
 rintro l5 i6 W7 ⟨j,rfl,hj,hE7,ha⟩
 have hal:=ha.len
 have hdl:=Hd4 (p.take j) k
 rw[List.length_take] at hdl
 refine⟨fun hlt=>?_,fun hge s46 W47 hE47 hO _=>?_⟩
 ·have hjl:j<p.length:=by omega
  have hP:=h.ext hE7
  obtain⟨h0',s1,b1,s2,e1,_,_,hr⟩:=hP.at (List.getElem?_eq_getElem hjl)
  have hek:=Dg9 h0' k
  have hmu:p.length-Int.toNat ((j:Int)+1)<p.length-Int.toNat (j:Int):=by omega
  have hbx:=Hq5 p[j].1 hk3 [s1.v,.bool b1,s2.v]
  have hw:IntKind.wrap .u8 (An6 p[j].1 k-1)=An6 p[j].1 k-1∨¬0<An6 p[j].1 k:=by
   by_cases h:0<An6 p[j].1 k
   ·exact .inl (Du1 (by omega) (by omega))
   ·exact .inr h
  refine⟨hP.inB (by omega) (by omega),_,_,_,s1,b1,s2,e1,hkr,_,hbx,fun hpos=>⟨hkr,_,hbx,hkr,by omega,⟨⟨trivial,fun e=>?_⟩,fun e=>?_⟩,fun e=>?_⟩,fun hz=>⟨by unfold I64;omega,⟨j+1,by push_cast;rfl,by omega,hE7,?_⟩,hmu⟩⟩
  case refine_4=>
   rw[Hc4 hjl]
   unfold Hc2
   rw[if_neg hz,List.append_nil]
   exact ha
  all_goals
   have hw':IntKind.wrap .u8 (An6 p[j].1 k-1)=An6 p[j].1 k-1:=hw.resolve_right (fun h=>h hpos)
   have hok:=Hl4 h0' hk3 hpos
   have hdt:Hc2 k p[j] = [(Hj5 p[j].1 k,p[j].2*((An6 p[j].1 k:Int):Rat))]:=by unfold Hc2;rw[if_pos hpos]
   have e':k=_:=e
   subst e'
   refine⟨by unfold I64;omega,Ay8 (z:=An6 p[j].1 _) (by unfold I64;omega) fun s18 b19 s20 W17 hE17 h17=>⟨s18,b19,s20,rfl,Ak9 (hr.ext hE17) h17 (hB.sz _ (List.getElem_mem hjl)) ((Ak3.int _).sz (by decide) (k:=l+1) (by rw[Ax0];omega) (Nat.le_trans (Ad1 (by omega:_≤255)) (Nat.le_trans (Bc6 (by decide:255<B^1)) (by omega)))) (by omega) (by omega) fun s23 b24 s25 W22 hE22 h22=>⟨s23,b24,s25,rfl,by simp;omega,by unfold I64;omega,⟨j+1,by push_cast;rfl,by omega,hE7.trans (hE17.trans hE22),?_⟩,hmu⟩⟩⟩
   rw[Hc4 hjl,hdt]
   refine(ha.mono fun _ _ h=>h.ext (hE17.trans hE22)).snoc ⟨hok,s23,b24,s25,?_,h22⟩
   rw[hw']
   rfl
 ·have:j=p.length:=by omega
  subst this
  rw[List.take_length] at ha
  have hdl:=Hd4 p k
  refine An2 (Bf5 hO.row (ha.mono fun _ _ h=>h.ext hE47)) (Hg5 hB h.ok k) (by omega) (by omega) fun s' W49 hE49 hp'=>⟨s',rfl,fun W51 hE51=>⟨s',rfl,?_⟩⟩
  unfold Hc3
  rw[if_pos hkr]
  exact hp'.ext hE51
theorem Hg6 {W0 W:PW} {M:Nat→Prop} {s:Sl} {p:List Tm} {i:Int} {l:Nat} {K:Value→PW→Prop} (h:Ab0 240 196 W s p) (hB:Bd l p) (hl:l≤268435456) (hp:p.length≤1073741824) (kont: ∀(s':Sl) (W':PW),Ext W W'→(Ab0 240 196 W' s' (Hc3 p i))→K (.agg ⟨[Sl.v s']⟩) W'):
  Aa1 Tryz.prog W0 M 157 [.agg ⟨[s.v]⟩,.int .i64 i] W K:=
 Aa2 (fun W' hE=>Hl0 (M:=fun _=>False) (h.ext hE) hB hl hp) (fun W' v W'' hE hE' hP=>by
  obtain⟨s',rfl,h⟩:=hP
  exact kont s' W'' (hE.trans hE') h)
theorem Hn9 {W0:PW} {M:Nat→Prop} {s:Sl} {p:List Tm} {i:Int} {l:Nat} (h:Ag1 240 120 W0 s p) (hB:Bd l p) (hl:l≤50000000) (hp:p.length≤1073741824):
  Aa0 Tryz.prog 119 [s.v,.int .i64 i] W0 M fun v W'=>∃(s':Sl),v=Sl.v s'∧Ag1 240 120 W' s' (Hc3 p i):=by
 apply Hh9
 have hn:=h.n
 refine⟨fun h0 W1 _=>⟨⟨none,0,0⟩,rfl,?_⟩,fun h0=>⟨fun h3 W2 _=>⟨⟨none,0,0⟩,rfl,?_⟩,fun h3=>?_⟩⟩
 ·unfold Hc3;rw[if_neg (by omega)];exact Ag1.nil W1
 ·unfold Hc3;rw[if_neg (by omega)];exact Ag1.nil W2
 obtain⟨k,rfl⟩:=Int.eq_ofNat_of_zero_le (by omega:0≤i)
 have hk3:k<3:=by omega
 have hkr:(0:Int)≤(k:Int)∧(k:Int)<3:=⟨by omega,by omega⟩
 refine⟨fun L W=>match L with
  | [.val (.slice A n c),.val (.int .i64 i)]=>∃j:Nat,i=(j:Int)∧j≤p.length∧Ext W0 W∧Ag1 240 120 W ⟨A,n,c⟩ (Ag2 (Hc1 (p.take j) k))
  | _=>False,cnL p.length,⟨0,rfl,by omega,Ext.refl _,Ag1.nil W0⟩,?_⟩
 rintro s5 i6 W7 ⟨j,rfl,hj,hE7,hr⟩
 have hr:Ag1 240 120 W7 s5 (Ag2 (Hc1 (p.take j) k)):=hr
 have hdl:=Hd4 (p.take j) k
 rw[List.length_take] at hdl
 have hpl:=El2 (Hc1 (p.take j) k)
 refine⟨fun hlt=>?_,fun hge W62 hE62=>⟨s5,rfl,?_⟩⟩
 ·have hjl:j<p.length:=by omega
  have hP:=h.ext hE7
  have hib:=hP.inB (i:=(j:Int)) (by omega) (by omega)
  obtain⟨h0',b1,s1,s2,_,e2,e3,hq⟩:=hP.at (List.getElem?_eq_getElem hjl)
  have hek:=Dg9 h0' k
  have hmu:p.length-Int.toNat ((j:Int)+1)<p.length-Int.toNat (j:Int):=by omega
  have hbx:=Hq5 p[j].1 hk3 []
  refine⟨hib,_,_,_,e2,hkr,_,hbx,fun hpos=>⟨hkr,_,hbx,by unfold I64;omega,hkr,_,hbx,hkr,by omega,⟨⟨trivial,fun e=>?_⟩,fun e=>?_⟩,fun e=>?_⟩,fun hz=>⟨by unfold I64;omega,⟨j+1,by push_cast;rfl,by omega,hE7,?_⟩,hmu⟩⟩
  case refine_4=>
   rw[Hc4 hjl]
   unfold Hc2
   rw[if_neg hz,List.append_nil]
   exact hr
  all_goals
   have hw':IntKind.wrap .u8 (An6 p[j].1 k-1)=An6 p[j].1 k-1:=Du1 (by omega) (by omega)
   have hok:=Hl4 h0' hk3 hpos
   have hdt:Hc2 k p[j] = [(Hj5 p[j].1 k,p[j].2*((An6 p[j].1 k:Int):Rat))]:=by unfold Hc2;rw[if_pos hpos]
   have hbd:=Hg5 (hB.take (j+1)) (fun t ht=>h.ok t (List.mem_of_mem_take ht)) k
   rw[Hc4 hjl,hdt] at hbd
   have hsz:Sz (l+1) ((An6 p[j].1 k:Int):Rat):=(Ak3.int _).sz (by decide) (by rw[Ax0];omega) (Nat.le_trans (Ad1 (by omega:_≤255)) (Nat.le_trans (Bc6 (by decide:255<B^1)) (by omega)))
   refine⟨hib,b1,s1,s2,e3,?_⟩
   refine Ak1 (z:=An6 p[j].1 k) (by unfold I64;omega) fun b19 s20 s21 W18 hE18 h18=>⟨b19,s20,s21,rfl,hE18,?_⟩
   refine Am6 (hq.ext hE18) h18 (hB.sz _ (List.getElem_mem hjl)) hsz (by omega) (by omega) fun b24 s25 s26 W23 hE23 h23=>⟨b24,s25,s26,rfl,?_⟩
   rw[hw']
   have hs2:=hbd.right.sz (Hj5 p[j].1 k,p[j].2*((An6 p[j].1 k:Int):Rat)) (by simp)
   have fin: ∀s29 W28,Ext W23 W28→Ag1 240 120 W28 s29 (Bg6 (Ag2 (Hc1 (p.take j) k)) (Hj5 p[j].1 k,p[j].2*((An6 p[j].1 k:Int):Rat)))→∃j':Nat,(j:Int)+1=(j':Int)∧j'≤p.length∧Ext W0 W28∧Ag1 240 120 W28 s29 (Ag2 (Hc1 (p.take j') k)):=fun s29 W28 hE28 h28=>⟨j+1,by push_cast;rfl,by omega,hE7.trans ((hE18.trans hE23).trans hE28),by rw[Hc4 hjl,hdt,Hn2];exact h28⟩
  ·have e':k=0:=e
   subst e'
   have hd:Hj5 p[j].1 0=⟨p[j].1.x-1,p[j].1.y,p[j].1.z⟩:=rfl
   have he:An6 p[j].1 0=p[j].1.x:=rfl
   rw[hd] at hok hs2 fin
   rw[he] at hs2 fin h23⊢
   rw[he] at hbd
   exact Hd1 (m:=⟨p[j].1.x-1,p[j].1.y,p[j].1.z⟩) (hr.ext (hE18.trans hE23)) h23 hok hbd.left.norm.sz hs2 (by omega) (by omega) fun s29 W28 hE28 h28=>⟨s29,rfl,by unfold I64;omega,fin s29 W28 hE28 h28,hmu⟩
  ·have e':k=1:=e
   subst e'
   have hd:Hj5 p[j].1 1=⟨p[j].1.x,p[j].1.y-1,p[j].1.z⟩:=rfl
   have he:An6 p[j].1 1=p[j].1.y:=rfl
   rw[hd] at hok hs2 fin
   rw[he] at hs2 fin h23⊢
   rw[he] at hbd
   exact Hd1 (m:=⟨p[j].1.x,p[j].1.y-1,p[j].1.z⟩) (hr.ext (hE18.trans hE23)) h23 hok hbd.left.norm.sz hs2 (by omega) (by omega) fun s29 W28 hE28 h28=>⟨s29,rfl,by unfold I64;omega,fin s29 W28 hE28 h28,hmu⟩
  ·have e':k=2:=e
   subst e'
   have hd:Hj5 p[j].1 2=⟨p[j].1.x,p[j].1.y,p[j].1.z-1⟩:=rfl
   have he:An6 p[j].1 2=p[j].1.z:=rfl
   rw[hd] at hok hs2 fin
   rw[he] at hs2 fin h23⊢
   rw[he] at hbd
   exact Hd1 (m:=⟨p[j].1.x,p[j].1.y,p[j].1.z-1⟩) (hr.ext (hE18.trans hE23)) h23 hok hbd.left.norm.sz hs2 (by omega) (by omega) fun s29 W28 hE28 h28=>⟨s29,rfl,by unfold I64;omega,fin s29 W28 hE28 h28,hmu⟩
 ·have:j=p.length:=by omega
  subst this
  rw[List.take_length] at hr
  unfold Hc3
  rw[if_pos hkr]
  exact hr.ext hE62
theorem Hj4 {W0 W:PW} {M:Nat→Prop} {s:Sl} {p:List Tm} {i:Int} {l:Nat} {K:Value→PW→Prop} (h:Ag1 240 120 W s p) (hB:Bd l p) (hl:l≤50000000) (hp:p.length≤1073741824) (kont: ∀(s':Sl) (W':PW),Ext W W'→(Ag1 240 120 W' s' (Hc3 p i))→K (Sl.v s') W'):
  Aa1 Tryz.prog W0 M 119 [s.v,.int .i64 i] W K:=
 Aa2 (fun W' hE=>Hn9 (M:=fun _=>False) (h.ext hE) hB hl hp) (fun W' v W'' hE hE' hP=>by
  obtain⟨s',rfl,h⟩:=hP
  exact kont s' W'' (hE.trans hE') h)
theorem Hg1 {l:Nat} {p:List Tm} (h:Bd l p) (ho:POk p) (i:Int):Bd (l+1) (Hc3 p i):=by
 unfold Hc3
 split
 ·exact(Hg5 h ho _).norm
 ·obtain⟨D,N,h1,h2,h3,h4⟩:=h
  exact⟨1,0,trivial,by decide,by rw[Ax0];omega,by rw[Ag9];omega⟩
theorem Hj1 (p:List Tm) (i:Int):(Hc3 p i).length≤p.length:=by
 unfold Hc3
 split
 ·exact Nat.le_trans (El2 _) (Hd4 p _)
 ·simp
end Go.Proofs.YtahohahjnhfedaaGreat
/- slices.Backward of bytes; mono.Vars. -/
namespace Go.Proofs.YtahohahjnhfedaaGreat
open Go Go.SX Go.RowKit Go.Shelf
attribute [local go_sem] Oper.semAt_some
def Fk6 (Bs:Nat) (v:Value) (b off:Nat) (zs:List Nat) (pre:List (Nat×Nat)) (W:World):Prop:=W.cell? ⟨Bs,0,none⟩=some v∧∀j,j<zs.length-pre.length→W.cell? ⟨b,off+j,none⟩=some (.int .u8 ((zs[j]?.getD 0:Nat):Int))
def Cy9 (x:Nat×Nat):Array Value:=#[.int .i64 (x.1:Int),.int .u8 (x.2:Int)]
set_option maxRecDepth 100000 in
set_option maxHeartbeats 2000000 in
theorem Ee1 (n:Nat) (hn:1≤n) (Bs b off cap:Nat) (zs:List Nat) (hreach:zs.length≤1099511627776):
  Bv9 Fence.wide n Tryz.prog 217 #[.pointer (some ⟨Bs,0,none⟩)] Cy9 (Fk6 Bs (.slice (some ⟨b,off,none⟩) zs.length cap) b off zs) (Fi6 zs) (fun xs=>xs=bks zs zs.length) (fun pre=>∃k,k<zs.length∧pre=bks zs (k+1)):=by
 intro l J Jx W hJ hY h0
 refine callsIn_of_wp Tryz.func217 rfl trivial ?_ rfl
 simp only[Tryz.ntmps217,List.size_toArray,List.length_cons,List.length_nil,Nat.reduceAdd,Nat.reduceSub,Array.replicate_succ,Array.replicate_zero,List.push_toArray,List.append_toArray,List.nil_append,List.cons_append]
 have hbox:W.cell? ⟨Bs,0,none⟩=some (.slice (some ⟨b,off,none⟩) zs.length cap):=(hJ _ _ h0).1
 gi_wp2
 gi_loopw [3,7,8,9,10,11,12,13,14,15,16,17,18] (fun i _ _ _ _ _ _ _ _ _ _ _ _ wr=>∃m:Nat,m≤zs.length∧i = .int .i64 ((m:Int)-1)∧J (bks zs (zs.length-m)) wr)
  (fun i _ _ _ _ _ _ _ _ _ _ _ _ _=>(intOf i+1).toNat)
 case atStart=>exact⟨zs.length,Nat.le_refl _,rfl,by simpa[bks] using h0⟩
 case round=>
  obtain⟨m,hm,rfl,hJs⟩:=hrel
  obtain⟨hbx,hmem⟩:=hJ _ _ hJs
  cases m with
  | zero=>
   gi_wp2
   go_end0
   exact⟨⟨_,rfl⟩,.inl ⟨_,rfl,by simpa using hJs⟩⟩
  | succ k=>
   have hk:k<zs.length:=by omega
   have hcx:wr.cell? ⟨b,off+k,none⟩=some (.int .u8 ((zs[k]?.getD 0:Nat):Int)):=hmem k (by rw[Ah8];omega)
   have e1:((k+1:Nat):Int)-1=(k:Int):=by omega
   have hx:bk zs (zs.length-(k+1))=(k,zs[k]?.getD 0):=by simp only[bk];rw[show zs.length-1-(zs.length-(k+1))=k by omega]
   obtain⟨fn,tmps,assign,body,hy,hR⟩:=hY _ (bk zs (zs.length-(k+1))) wr hJs ⟨by rw[Ah8];omega,by rw[Ah8],by rw[Ah8]⟩
   obtain⟨d,hd⟩: ∃d,zs[k]?.getD 0=d:=⟨_,rfl⟩
   rw[hd] at hcx hx
   rw[hx] at hy hR
   rw[e1]
   dsimp only[Cy9] at hy
   have hpre:bks zs (zs.length-(k+1)) ++ [(k,d)]=bks zs (zs.length-(k+1)+1):=by rw[Bo8,hx]
   gi_wp2
   refine hR.mono ?_
   rintro e W3 (⟨rfl,hJ3⟩ | ⟨rfl,hJx3⟩)
   ·rw[hpre,show zs.length-(k+1)+1=zs.length-k by omega] at hJ3
    gi_wp2
    go_roundw
    case rel=>exact⟨k,by omega,rfl,hJ3⟩
    case measure=>simp[intOf]
   ·rw[hpre] at hJx3
    gi_wp2
    refine bodyPost_ret (results_none rfl _ _ _) rfl ?_
    exact⟨⟨_,rfl⟩,.inr ⟨_,⟨_,by omega,rfl⟩,hJx3⟩⟩
set_option maxRecDepth 100000 in
set_option maxHeartbeats 2000000 in
theorem Cm4 (n:Nat) (hn:1≤n) (Bs:Nat) (A:Option Addr) (cap:Nat) (Mem:List (Nat×Nat)→World→Prop) (hMem: ∀pre W,Mem pre W→W.cell? ⟨Bs,0,none⟩=some (.slice A 0 cap)):
  Bv9 Fence.wide n Tryz.prog 217 #[.pointer (some ⟨Bs,0,none⟩)] Cy9 Mem (Fi6 []) (fun xs=>xs=bks [] 0) (fun pre=>∃k,k<0∧pre=bks [] (k+1)):=by
 intro l J Jx W hJ hY h0
 refine callsIn_of_wp Tryz.func217 rfl trivial ?_ rfl
 simp only[Tryz.ntmps217,List.size_toArray,List.length_cons,List.length_nil,Nat.reduceAdd,Nat.reduceSub,Array.replicate_succ,Array.replicate_zero,List.push_toArray,List.append_toArray,List.nil_append,List.cons_append]
 have hbox:W.cell? ⟨Bs,0,none⟩=some (.slice A 0 cap):=hMem _ _ (hJ _ _ h0)
 gi_wp2
 gi_loopw [3,7,8] (fun i _ _ wr=>i = .int .i64 (-1)∧J [] wr) (fun _ _ _ _=>0)
 case atStart=>exact⟨by simp,h0⟩
 case round=>
  obtain⟨rfl,hJs⟩:=hrel
  gi_wp2
  go_end0
  exact⟨⟨_,rfl⟩,.inl ⟨_,rfl,hJs⟩⟩
def Fw0 (Bs:Nat) (A:Option Addr) (cap:Nat) (zs:List Nat) (pre:List (Nat×Nat)) (W:World):Prop:=W.cell? ⟨Bs,0,none⟩=some (.slice A zs.length cap)∧∀b off,A=some ⟨b,off,none⟩→∀j,j<zs.length-pre.length→W.cell? ⟨b,off+j,none⟩=some (.int .u8 ((zs[j]?.getD 0:Nat):Int))
theorem Fb7 (n:Nat) (hn:1≤n) (Bs:Nat) (A:Option Addr) (cap:Nat) (zs:List Nat) (hreach:zs.length≤1099511627776) (hA:zs = []∨∃b off,A=some ⟨b,off,none⟩):
  Bv9 Fence.wide n Tryz.prog 217 #[.pointer (some ⟨Bs,0,none⟩)] Cy9 (Fw0 Bs A cap zs) (Fi6 zs) (fun xs=>xs=bks zs zs.length) (fun pre=>∃k,k<zs.length∧pre=bks zs (k+1)):=by
 rcases hA with rfl | ⟨b,off,rfl⟩
 ·exact Cm4 n hn Bs A cap _ fun pre W h=>h.1
 ·intro l J Jx W hJ hY h0
  exact Ee1 n hn Bs b off cap zs hreach l J Jx W (fun pre W' h=>⟨(hJ pre W' h).1,(hJ pre W' h).2 b off rfl⟩) hY h0
set_option maxHeartbeats 1000000 in
theorem Cz7 (n:Nat) (a:Option Addr) (len cap:Nat) (w:World):
  CallsIn Fence.wide n Tryz.prog 198 #[.slice a len cap] w fun e w'=>e = .returned (.func (.func 217) #[] #[.pointer (some ⟨w.heap.size,0,none⟩)])∧w'=w.alloc (.cells #[.slice a len cap] 270):=by
 refine callsIn_of_wp Tryz.func198 rfl trivial ?_ rfl
 simp only[Tryz.ntmps198,List.size_toArray,List.length_cons,List.length_nil,Nat.reduceAdd,Nat.reduceSub,Array.replicate_succ,Array.replicate_zero,List.push_toArray,List.append_toArray,List.nil_append,List.cons_append]
 gi_wp2
 go_ret
 exact⟨rfl,rfl⟩
def Dn7 (zs:List Nat):Nat:=if 0<zs[2]?.getD 0 then 3 else if 0<zs[1]?.getD 0 then 2 else if 0<zs[0]?.getD 0 then 1 else 0
set_option maxRecDepth 100000 in
set_option maxHeartbeats 4000000 in
theorem Ff2 (n:Nat) (hn:3≤n) (x y z:Nat) (w:World):
  CallsIn Fence.wide n Tryz.prog 160 #[.agg #[.int .u8 (x:Int),.int .u8 (y:Int),.int .u8 (z:Int)]] w fun e W'=>e = .returned (.int .i64 (Dn7 [x,y,z]:Nat))∧An0 w W':=by
 refine callsIn_of_wp_marks Tryz.func160 rfl trivial ?_ rfl
 simp only[Tryz.ntmps160,List.size_toArray,List.length_cons,List.length_nil,Nat.reduceAdd,Nat.reduceSub,Array.replicate_succ,Array.replicate_zero,List.push_toArray,List.append_toArray,List.nil_append,List.cons_append]
 gi_wp2
 refine⟨trivial,fun _=>by omega,(Cz7 (n-1) _ _ _ _).mono ?_⟩
 rintro e w' ⟨rfl,rfl⟩
 gi_wp2
 obtain⟨W4,hW4⟩: ∃W4,(((w.alloc (.cells #[.int .u8 (x:Int),.int .u8 (y:Int),.int .u8 (z:Int)] 118)).alloc (.cells #[.int .i64 0] 3)).alloc (.cells #[.slice (some ⟨w.heap.size,0,none⟩) 3 3] 270))=W4:=⟨_,rfl⟩
 have hsz:W4.heap.size=w.heap.size+1+1+1:=by rw[←hW4];simp
 have hB4:An0 w W4:=by rw[←hW4];exact⟨((((Below.refl _ w).alloc (Nat.le_refl _) _).alloc (by simp) _).alloc (by simp;omega) _),Nat.le_refl _⟩
 have bL:Boxed W4 (w.heap.size+1+1) 270 (.slice (some ⟨w.heap.size,0,none⟩) 3 3):=by
  rw[←hW4]
  have:=Boxed.new ((w.alloc (.cells #[.int .u8 (x:Int),.int .u8 (y:Int),.int .u8 (z:Int)] 118)).alloc (.cells #[.int .i64 0] 3)) 270 (.slice (some ⟨w.heap.size,0,none⟩) 3 3)
  simpa using this
 have bR:Boxed W4 (w.heap.size+1) 3 (.int .i64 0):=by
  rw[←hW4]
  have:=Boxed.new (w.alloc (.cells #[.int .u8 (x:Int),.int .u8 (y:Int),.int .u8 (z:Int)] 118)) 3 (.int .i64 0)
  simpa using this.alloc (.cells #[.slice (some ⟨w.heap.size,0,none⟩) 3 3] 270)
 have hX0:W4.heap[w.heap.size]?=some (.cells #[.int .u8 (x:Int),.int .u8 (y:Int),.int .u8 (z:Int)] 118):=by
  rw[←hW4]
  rw[Below.heap_alloc _ _ _ (by simp;omega),Below.heap_alloc _ _ _ (by simp)]
  exact World.alloc_heap_new w _
 have hX: ∀j,j<3→W4.cell? ⟨w.heap.size,0+j,none⟩=some (.int .u8 ((([x,y,z]:List Nat)[j]?.getD 0:Nat):Int)):=fun j hj=>by
  simp only[World.cell?,hX0]
  rcases(by omega:j=0∨j=1∨j=2) with rfl | rfl | rfl<;>rfl
 rw[hW4]
 refine As7 (α:=Nat×Nat) (n:=n) rfl (by omega) (gf:=217) (lb:=#[.pointer (some ⟨w.heap.size+1+1,0,none⟩)]) rfl trivial (enters_of Tryz.func217 (by kernel_rfl) rfl)
  (Fb7 (n-1) (by omega) (w.heap.size+1+1) (some ⟨w.heap.size,0,none⟩) 3 [x,y,z] (by simp) (.inr ⟨_,_,rfl⟩)) (fun _=>rfl)
  (fun pre W=>((∀p∈pre,p.2=0)∧W.cell? ⟨w.heap.size+1,0,none⟩=some (.int .i64 0)∧W.frozen? ⟨w.heap.size+1,0,none⟩=false∧(∀j,j<3→W.cell? ⟨w.heap.size,0+j,none⟩=some (.int .u8 ((([x,y,z]:List Nat)[j]?.getD 0:Nat):Int)))∧W.cell? ⟨w.heap.size+1+1,0,none⟩=some (.slice (some ⟨w.heap.size,0,none⟩) 3 3))∧An0 w W)
  (fun c pre W=>(c = .ret∧∃ini last,pre=ini ++ [last]∧(∀p∈ini,p.2=0)∧0<last.2∧W.cell? ⟨w.heap.size+1,0,none⟩=some (.int .i64 ((last.1:Int)+1)))∧An0 w W)
  ?_ ?_ ?_ ?_
  (fun v=>{tmps:=#[.agg #[.int .u8 (x:Int),.int .u8 (y:Int),.int .u8 (z:Int)],.pointer (some ⟨w.heap.size,0,none⟩),.pointer (some ⟨w.heap.size+1,0,none⟩),.int .i64 (v.1:Int),.int .u8 (v.2:Int),.slice (some ⟨w.heap.size,0,none⟩) 3 3,
    .func (.func 217) #[] #[.pointer (some ⟨w.heap.size+1+1,0,none⟩)],.int .i64 (v.1:Int),.int .u8 (v.2:Int),undef,undef,undef,undef],defers:=[] }) ?assign ?body ?done ?stop
 case assign=>
  intro l p W K hK
  simp only[Cy9]
  gi_wp2
  exact hK
 case body=>
  rintro l pre p W ⟨⟨hp,hcr,hfr,hcy,hcl⟩,hB⟩ ⟨hlen,hpre,hpx⟩
  have hi:p.1<3:=by rw[hpx];simp only[bk];simp;omega
  obtain⟨i,v⟩:=p
  dsimp only at *
  gi_wp2
  ·have hlt:0<v:=by first | assumption | omega
   exact⟨(KeepsOthers.setCell _ _ _).from _,⟨rfl,pre,(i,v),rfl,hp,hlt,World.cell?_setCell_same' _ _ _ (by rw[hcr];rfl)⟩,hB.setCell (p:=⟨w.heap.size+1,0,none⟩) (by show w.heap.size≤w.heap.size+1;omega) _⟩
  ·have h0:v=0:=by omega
   refine⟨KeepsFrom.refl _ _,trivial,⟨fun p hp'=>?_,hcr,hfr,hcy,hcl⟩,hB⟩
   rcases List.mem_append.1 hp' with h | h
   ·exact hp p h
   ·simp at h;subst h;exact h0
 case done=>
  rintro D ps W hD rfl ⟨⟨hne,hcr,hfr,hcy,hcl⟩,hB⟩ hK
  gi_wp2
  have hK':=(KeepsOthers.setCell W ⟨w.heap.size+1,0,none⟩ (.int .i64 0)).same D _ hK rfl
  refine⟨by simp,.inl ⟨_,_,rfl,run_takeDeferred hK',?_⟩⟩
  have hc5:=cell_kept (World.cell?_setCell_same' W ⟨w.heap.size+1,0,none⟩ (.int .i64 0) (by rw[hcr];rfl)) (grownBy_putObj' _ D (.deferred none)) (fun r e=>by cases e;exact⟨_,hK',rfl⟩)
  refine⟨.int .i64 0,?_,?_,(hB.setCell (p:=⟨w.heap.size+1,0,none⟩) (by show w.heap.size≤w.heap.size+1;omega) _).put (by omega) hK' rfl rfl⟩
  ·simp[results,Tryz.f160,go_sem,hc5]
  ·have hz: ∀k,k<3→([x,y,z]:List Nat)[3-1-k]?.getD 0=0:=fun k hk=>hne (bk [x,y,z] k) (List.mem_map.2 ⟨k,List.mem_range.2 (by simpa using hk),rfl⟩)
   have h0:=hz 0 (by omega)
   have h1:=hz 1 (by omega)
   have h2:=hz 2 (by omega)
   simp at h0 h1 h2
   simp[Dn7,h0,h1,h2]
 case stop=>
  rintro D c pre W hD ⟨k,hk,rfl⟩ ⟨⟨rfl,ini,last,e1,e2,e3,hcr⟩,hB⟩ hK
  gi_wp2
  refine⟨by simp,.inl ⟨_,_,rfl,run_takeDeferred hK,?_⟩⟩
  rw[Bo8] at e1
  obtain⟨rfl,e5⟩:=List.append_inj' e1 rfl
  have e6:last=bk [x,y,z] k:=by simpa using e5.symm
  subst e6
  have hBD:=hB.put (o':=.deferred none) (by omega) hK rfl rfl
  have hc5:=cell_kept hcr (grownBy_putObj' _ D (.deferred none)) (fun r e=>by cases e;exact⟨_,hK,rfl⟩)
  have hz: ∀j,j<k→([x,y,z]:List Nat)[3-1-j]?.getD 0=0:=fun j hj=>e2 (bk [x,y,z] j) (List.mem_map.2 ⟨j,List.mem_range.2 hj,rfl⟩)
  refine⟨.int .i64 (((bk [x,y,z] k).1:Int)+1),by simp[results,Tryz.f160,go_sem,hc5],?_,hBD⟩
  have hk3:k<3:=by simpa using hk
  rcases(by omega:k=0∨k=1∨k=2) with rfl | rfl | rfl
  ·have e3:0<z:=e3
   simp[Dn7,bk,e3]
  ·have h0:=hz 0 (by omega)
   have e3:0<y:=e3
   simp at h0
   simp[Dn7,bk,e3,h0]
  ·have h0:=hz 0 (by omega)
   have h1:=hz 1 (by omega)
   have e3:0<x:=e3
   simp at h0 h1
   simp[Dn7,bk,e3,h0,h1]
 ·exact Af7.and (Own.Ey9 (fun s A B row hs hg hr=>⟨hs.1,cell_kept hs.2.1 hg hr,(frozen_kept hs.2.1 hg hr).trans hs.2.2.1,fun j hj=>cell_kept (hs.2.2.2.1 j hj) hg hr,cell_kept hs.2.2.2.2 hg hr⟩) _) (Am0 (by omega))
 ·exact fun c=>Af7.and (Own.Ey9 (fun s A B row hs hg hr=>by
   obtain⟨hc,ini,last,e1,e2,e3,e4⟩:=hs
   exact⟨hc,ini,last,e1,e2,e3,cell_kept e4 hg hr⟩) _) (Am0 (by omega))
 ·rintro pre W ⟨⟨_,_,_,hcy,hcl⟩,hB⟩
  refine⟨hcl,fun b off hA j hj=>?_⟩
  cases hA
  exact hcy j (by simp at hj;omega)
 ·exact⟨⟨by simp,bR.cell,bR.frozen,hX,bL.cell⟩,hB4⟩
def Cx8 (m:Mon):Int:=if 0<m.z then 3 else if 0<m.y then 2 else if 0<m.x then 1 else 0
theorem Dj6 {W0:PW} {M:Nat→Prop} {m:Mon} (hm:m.ok):
  Aa0 Tryz.prog 160 [.agg ⟨[.int .u8 m.x,.int .u8 m.y,.int .u8 m.z]⟩] W0 M fun v W'=>v = .int .i64 (Cx8 m)∧True:=by
 refine⟨⟨_,Tryz.func160,rfl,rfl⟩,fun _=>?_⟩
 obtain⟨⟨x0,_⟩,⟨y0,_⟩,z0,_⟩:=hm
 obtain⟨mx,my,mz⟩:=m
 obtain⟨x,rfl⟩:=Int.eq_ofNat_of_zero_le x0
 obtain⟨y,rfl⟩:=Int.eq_ofNat_of_zero_le y0
 obtain⟨z,rfl⟩:=Int.eq_ofNat_of_zero_le z0
 have:=callsIn_wide.1 (Ff2 5 (by omega) x y z W0.w)
 have e:((Dn7 [x,y,z]:Nat):Int)=Cx8 ⟨x,y,z⟩:=by
  simp only[Dn7,Cx8]
  show((if 0<z then 3 else if 0<y then 2 else if 0<x then 1 else 0:Nat):Int)=_
  (repeat' split)<;>omega
 rw[e] at this
 exact Calls.mono this fun e w' ⟨he,hB⟩=>⟨_,he,Bd7 hB,rfl,trivial⟩
theorem Cj8 {W0 W:PW} {M:Nat→Prop} {m:Mon} {K:Value→PW→Prop} (hm:m.ok) (kont: ∀(W':PW),Ext W W'→(True)→K (.int .i64 (Cx8 m)) W'):
  Aa1 Tryz.prog W0 M 160 [.agg ⟨[.int .u8 m.x,.int .u8 m.y,.int .u8 m.z]⟩] W K:=
 Aa2 (fun W' hE=>Dj6 (M:=fun _=>False) hm) (fun W' v W'' hE hE' hP=>by
  obtain⟨rfl,h⟩:=hP
  exact kont W'' (hE.trans hE') h)
end Go.Proofs.YtahohahjnhfedaaGreat
/- poly.Degree, poly.Top. -/
namespace Go.Proofs.YtahohahjnhfedaaGreat
open Go Go.SX
def Fv8 (i:Int) (m:Mon):Int:=if 0≤i∧i<3 then An6 m i.toNat else 0
def Fw5 (W0:PW) (p:List Tm) (i:Int) (L:List PL) (W:PW):Prop:=match L with
 | [.val (.int .i64 a),.val (.int .i64 k)]=>∃j:Nat,k=(j:Int)∧j≤p.length∧Ext W0 W∧a=Fd0 (Fv8 i) 0 (p.take j)
 | _=>False
def Fv5 (p:List Tm) (L:List PL) (_:PW):Nat:=match L with
 | [_,.val (.int .i64 k)]=>p.length-k.toNat
 | _=>0
def Fw1 (W0:PW) (p:List Tm) (L:List PL) (W:PW):Prop:=match L with
 | [.val (.int .i64 a),.val (.int .i64 k)]=>∃j:Nat,k=(j:Int)∧j≤p.length∧Ext W0 W∧a=Fd0 Cx8 0 (p.take j)
 | _=>False
theorem Dd3 {W0:PW} {M:Nat→Prop} {s:Sl} {p:List Tm} (h:Ab0 240 196 W0 s p) (hl:p.length≤1099511627776):
  Aa0 Tryz.prog 105 [.agg ⟨[s.v]⟩] W0 M fun v W'=>v = .int .i64 (Fd0 Cx8 0 p)∧True:=by
 apply Cn0
 have hn:=h.n
 refine⟨Fw1 W0 p,Fv5 p,⟨0,rfl,by omega,Ext.refl _,rfl⟩,?_⟩
 rintro i3 i4 W5 ⟨j,rfl,hj,hE,rfl⟩
 refine⟨fun hlt=>?_,fun hge W13 _=>⟨?_,trivial⟩⟩
 ·have hjl:j<p.length:=by omega
  have hP:=h.ext hE
  obtain⟨k0,c1,d1,c2,e1,_,_,hr⟩:=hP.at (List.getElem?_eq_getElem hjl)
  have hmu:p.length-Int.toNat ((j:Int)+1)<p.length-Int.toNat (j:Int):=by omega
  refine⟨hP.inB (by omega) (by omega),_,_,_,c1,d1,c2,e1,Cj8 k0 fun W13 hE13 _=>⟨_,rfl,by unfold I64;omega,⟨j+1,by push_cast;rfl,by omega,hE.trans hE13,by rw[Ce0 hjl,Em4]⟩,hmu⟩⟩
 ·have:j=p.length:=by omega
  subst this
  rw[List.take_length]
theorem Co3 {W0 W:PW} {M:Nat→Prop} {s:Sl} {p:List Tm} {K:Value→PW→Prop} (h:Ab0 240 196 W s p) (hl:p.length≤1099511627776) (kont: ∀(W':PW),Ext W W'→(True)→K (.int .i64 (Fd0 Cx8 0 p)) W'):
  Aa1 Tryz.prog W0 M 105 [.agg ⟨[s.v]⟩] W K:=
 Aa2 (fun W' hE=>Dd3 (M:=fun _=>False) (h.ext hE) hl) (fun W' v W'' hE hE' hP=>by
  obtain⟨rfl,h⟩:=hP
  exact kont W'' (hE.trans hE') h)
end Go.Proofs.YtahohahjnhfedaaGreat
/- poly.Same. -/
namespace Go.Proofs.YtahohahjnhfedaaGreat
open Go Go.SX
end Go.Proofs.YtahohahjnhfedaaGreat
/- cinctureref1: PolyAdd, PolyScale, PolySub, Var, Const, PolySame. -/
namespace Go.Proofs.YtahohahjnhfedaaGreat
open Go Go.SX
theorem Jv6 {W0:PW} {M:Nat→Prop} {sp sq:Sl} {p q:List Tm} {k:Nat} (h1:Ag1 240 120 W0 sp p) (h2:Ag1 240 120 W0 sq q) (g1:Av6 p) (b1:Bd k p) (b2:Bd k q) (hk:k≤40000000) (hp:p.length≤536870912) (hq:q.length≤536870912):
  Aa0 Tryz.prog 120 [sp.v,sq.v] W0 M fun v W'=>∃(s':Sl),v=Sl.v s'∧Ag1 240 120 W' s' (Ag2 (p ++ q)):=by
 apply Jv1
 have n2:=h2.n
 refine⟨fun L W=>match L with
  | [.val (.slice A n c),.val (.int .i64 i)]=>∃j:Nat,i=(j:Int)∧j≤q.length∧Ext W0 W∧Ag1 240 120 W ⟨A,n,c⟩ (Ag2 (p ++ q.take j))
  | _=>False,cnL q.length,⟨0,rfl,by omega,Ext.refl _,by rw[List.take_zero,List.append_nil,Jw8 g1];exact h1⟩,?_⟩
 rintro s3 i4 W5 ⟨j,rfl,hj,hE5,hp5⟩
 have hp5:Ag1 240 120 W5 s3 (Ag2 (p ++ q.take j)):=hp5
 refine⟨fun hlt=>?_,fun hge W15 hE15=>⟨s3,rfl,?_⟩⟩
 ·have hjl:j<q.length:=by omega
  obtain⟨h0,c1,s1,s2,e1,_,_,hr⟩:=(h2.ext hE5).at (List.getElem?_eq_getElem hjl)
  have hlen:=El2 (p ++ q.take j)
  rw[List.length_append,List.length_take] at hlen
  refine⟨(h2.ext hE5).inB (by omega) (by omega),_,_,_,c1,s1,s2,e1,Hd1 (m:=q[j].1) hp5 hr h0 ((b1.append (b2.take j)).norm.sz) ((b2.sz _ (List.getElem_mem hjl)).mono (by omega)) (by omega) (by omega) fun s' W13 hE13 h13=>⟨s',rfl,by unfold I64;omega,⟨j+1,by push_cast;rfl,by omega,hE5.trans hE13,?_⟩,?_⟩⟩
  ·rw[Ce0 hjl,←List.append_assoc,Hn2]
   exact h13
  ·show q.length-Int.toNat ((j:Int)+1)<q.length-Int.toNat (j:Int)
   omega
 ·have:j=q.length:=by omega
  subst this
  rw[List.take_length] at hp5
  exact hp5.ext hE15
theorem Jv3 {W0 W:PW} {M:Nat→Prop} {sp sq:Sl} {p q:List Tm} {k:Nat} {K:Value→PW→Prop} (h1:Ag1 240 120 W sp p) (h2:Ag1 240 120 W sq q) (g1:Av6 p) (b1:Bd k p) (b2:Bd k q) (hk:k≤40000000) (hp:p.length≤536870912) (hq:q.length≤536870912) (kont: ∀(s':Sl) (W':PW),Ext W W'→(Ag1 240 120 W' s' (Ag2 (p ++ q)))→K (Sl.v s') W'):
  Aa1 Tryz.prog W0 M 120 [sp.v,sq.v] W K:=
 Aa2 (fun W' hE=>Jv6 (M:=fun _=>False) (h1.ext hE) (h2.ext hE) g1 b1 b2 hk hp hq) (fun W' v W'' hE hE' hP=>by
  obtain⟨s',rfl,h⟩:=hP
  exact kont s' W'' (hE.trans hE') h)
theorem Km6 {W0:PW} {M:Nat→Prop} {i:Int} :
  Aa0 Tryz.prog 78 [.int .i64 i] W0 M fun v W'=>∃(s':Sl),v=Sl.v s'∧Ag1 240 120 W' s' (Dc6 i):=by
 apply Kh5
 refine⟨fun h W1 hE=>⟨⟨none,0,0⟩,rfl,?_⟩,fun h=>⟨fun h' W2 hE=>⟨⟨none,0,0⟩,rfl,?_⟩,fun h'=>⟨⟨by omega,by omega⟩,by omega,⟨⟨trivial,fun e=>?_⟩,fun e=>?_⟩,fun e=>?_⟩⟩⟩
 ·unfold Dc6;rw[if_neg (by omega)];exact Ag1.nil W1
 ·unfold Dc6;rw[if_neg (by omega)];exact Ag1.nil W2
 ·have hv:Dc6 i = [(Da3 0,((1:Int):Rat))]:=by unfold Dc6;rw[if_pos (by omega),e];rfl
  rw[hv]
  exact Ak1 (z:=1) (by unfold I64;omega) fun b5 s6 s7 W4 hE4 h4=>⟨b5,s6,s7,rfl,fun s8 W9 hE9 hO _ W10 hE10=>⟨s8,rfl,_,(hO.ext hE10).row,⟨(by decide:(Da3 0).ok),b5,s6,s7,rfl,h4.ext (hE9.trans hE10)⟩,trivial⟩⟩
 ·have hv:Dc6 i = [(Da3 1,((1:Int):Rat))]:=by unfold Dc6;rw[if_pos (by omega),e];rfl
  rw[hv]
  exact Ak1 (z:=1) (by unfold I64;omega) fun b5 s6 s7 W4 hE4 h4=>⟨b5,s6,s7,rfl,fun s8 W9 hE9 hO _ W10 hE10=>⟨s8,rfl,_,(hO.ext hE10).row,⟨(by decide:(Da3 1).ok),b5,s6,s7,rfl,h4.ext (hE9.trans hE10)⟩,trivial⟩⟩
 ·have hv:Dc6 i = [(Da3 2,((1:Int):Rat))]:=by unfold Dc6;rw[if_pos (by omega),e];rfl
  rw[hv]
  exact Ak1 (z:=1) (by unfold I64;omega) fun b5 s6 s7 W4 hE4 h4=>⟨b5,s6,s7,rfl,fun s8 W9 hE9 hO _ W10 hE10=>⟨s8,rfl,_,(hO.ext hE10).row,⟨(by decide:(Da3 2).ok),b5,s6,s7,rfl,h4.ext (hE9.trans hE10)⟩,trivial⟩⟩
theorem Kj4 {W0 W:PW} {M:Nat→Prop} {i:Int} {K:Value→PW→Prop} (kont: ∀(s':Sl) (W':PW),Ext W W'→(Ag1 240 120 W' s' (Dc6 i))→K (Sl.v s') W'):
  Aa1 Tryz.prog W0 M 78 [.int .i64 i] W K:=
 Aa2 (fun W' hE=>Km6 (M:=fun _=>False) ) (fun W' v W'' hE hE' hP=>by
  obtain⟨s',rfl,h⟩:=hP
  exact kont s' W'' (hE.trans hE') h)
theorem Kj7 {W0:PW} {M:Nat→Prop} {s t:Sl} {b:Bool} {q:Rat} {k:Nat} (h:Ab6 240 W0 b s t q) (hq:Sz k q) (hk:k≤100000000):
  Aa0 Tryz.prog 34 [.agg ⟨[.bool b,s.v,t.v]⟩] W0 M fun v W'=>∃(s':Sl),v=Sl.v s'∧Ag1 240 120 W' s' (Ag2 [(⟨0,0,0⟩,q)]):=by
 apply Ke4
 exact Hd1 (sp:=⟨none,0,0⟩) (m:=⟨0,0,0⟩) (Ag1.nil W0) h (by decide) (fun t ht=>by simp at ht) hq hk (by simp) fun s' W2 hE2 h2=>⟨s',rfl,fun W4 hE4=>⟨s',rfl,h2.ext hE4⟩⟩
theorem Kf1 {W0 W:PW} {M:Nat→Prop} {s t:Sl} {b:Bool} {q:Rat} {k:Nat} {K:Value→PW→Prop} (h:Ab6 240 W b s t q) (hq:Sz k q) (hk:k≤100000000) (kont: ∀(s':Sl) (W':PW),Ext W W'→(Ag1 240 120 W' s' (Ag2 [(⟨0,0,0⟩,q)]))→K (Sl.v s') W'):
  Aa1 Tryz.prog W0 M 34 [.agg ⟨[.bool b,s.v,t.v]⟩] W K:=
 Aa2 (fun W' hE=>Kj7 (M:=fun _=>False) (h.ext hE) hq hk) (fun W' v W'' hE hE' hP=>by
  obtain⟨s',rfl,h⟩:=hP
  exact kont s' W'' (hE.trans hE') h)
end Go.Proofs.YtahohahjnhfedaaGreat
