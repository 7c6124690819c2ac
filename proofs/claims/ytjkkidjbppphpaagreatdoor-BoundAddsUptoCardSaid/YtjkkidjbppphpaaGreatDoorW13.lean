/- cinctureref1: Degree, MonoCmp, MonoMul; put, PolyOf. -/
import Derived.Test.YtjkkidjbppphpaaGreatDoorW11
import Derived.Test.YtjkkidjbppphpaaGreatDoorW10
import Derived.Test.YtjkkidjbppphpaaGreatDoorR9
import Derived.Test.YtjkkidjbppphpaaGreatDoorW12
import Derived.Test.YtjkkidjbppphpaaGreatDoorLib3
set_option linter.unusedVariables false
set_option linter.unusedSimpArgs false
set_option maxRecDepth 100000
namespace Go.Proofs.YtjkkidjbppphpaaGreatDoor
open Go Go.SX
theorem Da6 {W0:PW} {M:Nat→Prop} {m:Mon} (hm:m.ok):
  Aa0 Tryz.prog 217 [.agg ⟨[.int .u8 m.x,.int .u8 m.y,.int .u8 m.z]⟩] W0 M fun v W'=>v = .int .i64 m.deg∧True:=by
 apply Bs4
 unfold Mon.ok at hm
 exact⟨⟨by omega,by omega⟩,by unfold I64;omega,⟨by omega,by omega⟩,by unfold I64;omega,by unfold I64;omega,⟨by omega,by omega⟩,by unfold I64;omega,by unfold I64;omega,fun W1 _=>⟨rfl,trivial⟩⟩
theorem Al9 {W0 W:PW} {M:Nat→Prop} {m:Mon} {K:Value→PW→Prop} (hm:m.ok) (kont: ∀(W':PW),Ext W W'→(True)→K (.int .i64 m.deg) W'):
  Aa1 Tryz.prog W0 M 217 [.agg ⟨[.int .u8 m.x,.int .u8 m.y,.int .u8 m.z]⟩] W K:=
 Aa2 (fun W' hE=>Da6 (M:=fun _=>False) hm) (fun W' v W'' hE hE' hP=>by
  obtain⟨rfl,h⟩:=hP
  exact kont W'' (hE.trans hE') h)
theorem Ck7 {W0:PW} {M:Nat→Prop} {a b:Mon} (ha:a.ok) (hb:b.ok):
  Aa0 Tryz.prog 160 [.agg ⟨[.int .u8 a.x,.int .u8 a.y,.int .u8 a.z]⟩,.agg ⟨[.int .u8 b.x,.int .u8 b.y,.int .u8 b.z]⟩] W0 M fun v W'=>v = .int .i64 (a.cmp b)∧True:=by
 apply Bn9
 refine Al9 ha fun W2 _ _=>⟨_,rfl,Al9 hb fun W5 hE5 _=>⟨_,rfl,fun hne=>?_,fun heq=>?_⟩⟩
 ·refine Al9 ha fun W8 _ _=>⟨_,rfl,Al9 hb fun W11 _ _=>⟨_,rfl,fun h W13 _=>⟨?_,trivial⟩,fun h W14 _=>⟨?_,trivial⟩⟩⟩
  ·rw[Ch0];unfold As4;rw[if_pos h];simp
  ·rw[Ch0];unfold As4;rw[if_neg h,if_neg hne];simp
 ·have hdeg:a.deg=b.deg:=by omega
  have hcm:a.cmp b=Ey8 a b:=by rw[Ch0];unfold As4;simp[hdeg]
  rw[hcm]
  refine⟨fun l W=>match l with | [.val (.int .i64 i)]=>∃k:Nat,i=(k:Int)∧k≤3∧∀j,j<k→An6 a j=An6 b j | _=>False,fun l _=>match l with | [.val (.int .i64 i)]=>3-i.toNat | _=>0,⟨0,rfl,by omega,fun j hj=>by omega⟩,?_⟩
  rintro i17 W18 ⟨k,rfl,hk,hj⟩
  refine⟨fun hlt=>?_,fun hge W25 _=>⟨?_,trivial⟩⟩
  ·have hk3:k<3:=by omega
   have hr:(0:Int)≤(k:Int)∧(k:Int)<3:=⟨by omega,by omega⟩
   have ba:=Aw0 a hk3 _ _ _ rfl rfl rfl
   have bb:=Aw0 b hk3 _ _ _ rfl rfl rfl
   refine⟨hr,_,ba,hr,_,bb,fun h W21 _=>⟨?_,trivial⟩,fun h=>⟨hr,_,ba,hr,_,bb,fun h' W24 _=>⟨?_,trivial⟩,fun h'=>⟨by unfold I64;omega,⟨k+1,by push_cast;rfl,by omega,fun j hjk=>?_⟩,?_⟩⟩⟩
   ·rw[Dh1 hk3 hj (by omega)];unfold As4;rw[if_pos h]
   ·rw[Dh1 hk3 hj (by omega)];unfold As4;rw[if_neg h,if_neg (by omega)]
   ·by_cases e:j=k
    ·subst e;omega
    ·exact hj j (by omega)
   ·show 3-Int.toNat ((k:Int)+1)<3-Int.toNat (k:Int)
    omega
  ·have:k=3:=by omega
   subst this
   rw[Eq5 hj]
theorem Bx0 {W0 W:PW} {M:Nat→Prop} {a b:Mon} {K:Value→PW→Prop} (ha:a.ok) (hb:b.ok) (kont: ∀(W':PW),Ext W W'→(True)→K (.int .i64 (a.cmp b)) W'):
  Aa1 Tryz.prog W0 M 160 [.agg ⟨[.int .u8 a.x,.int .u8 a.y,.int .u8 a.z]⟩,.agg ⟨[.int .u8 b.x,.int .u8 b.y,.int .u8 b.z]⟩] W K:=
 Aa2 (fun W' hE=>Ck7 (M:=fun _=>False) ha hb) (fun W' v W'' hE hE' hP=>by
  obtain⟨rfl,h⟩:=hP
  exact kont W'' (hE.trans hE') h)
end Go.Proofs.YtjkkidjbppphpaaGreatDoor
/- cinctureref1: put, PolyOf. -/
namespace Go.Proofs.YtjkkidjbppphpaaGreatDoor
open Go Go.SX
theorem Ce0 {α:Type} {l:List α} {j:Nat} (h:j<l.length):l.take (j+1)=l.take j ++ [l[j]]:=by
 rw[List.take_add_one,List.getElem?_eq_getElem h];rfl
theorem Ds0 {z:Int} :By8 z=0↔z=0:=by
 unfold By8
 split
 ·constructor<;>intro h<;>omega
 ·split
  ·simp_all
  ·constructor<;>intro h<;>omega
theorem Ds5 {q:Rat} :q.num=0↔q=0:=Rat.num_eq_zero
end Go.Proofs.YtjkkidjbppphpaaGreatDoor
/- cinctureref1: PolyOf, PolyPlain; poly.Plain; book.SameTerms, law8.Is. -/
namespace Go.Proofs.YtjkkidjbppphpaaGreatDoor
open Go Go.SX
def cnL (n:Nat) (l:List PL) (W:PW):Nat:=match l with
 | [_,.val (.int .i64 i)]=>n-i.toNat
 | _=>0
end Go.Proofs.YtjkkidjbppphpaaGreatDoor
/- cincturelaw8.alive. -/
namespace Go.Proofs.YtjkkidjbppphpaaGreatDoor
open Go Go.SX
theorem Fn8:Sz 1 (-1:Rat):=(Sz.one (Nat.le_refl 1)).neg
theorem Fl0:Sz 1 (1:Rat):=Sz.one (Nat.le_refl 1)
theorem En2:Bd 7 (Dc6 0):=(Cq4 (m:=Da3 0) Fl0).mono (by decide)
end Go.Proofs.YtjkkidjbppphpaaGreatDoor
/- cinctureref1.PolyParse, poly.Parse, book.Terms, law8.Of. -/
namespace Go.Proofs.YtjkkidjbppphpaaGreatDoor
open Go Go.SX
def ppI (C:PW→List Value→Tm→Prop) (W0:PW) (L:List (Mon×ByteArray)) (l:List PL) (W:PW):Prop:=match l with
 | [.row xs,.val (.int .i64 i)]=>∃(j:Nat) (p:List Tm),i=(j:Int)∧j≤L.length∧Ext W0 W∧An5 (C W) xs p∧Af1 (L.take j) p
 | _=>False
theorem Fd6 {a b:Mon} (h:0≤a.cmp b):¬a.lt b:=fun hl=>by
 have:=Mon.Dm2.2 hl
 omega
theorem Em9 {a b:Mon} (h:¬0≤a.cmp b):a.lt b:=Mon.Dm2.1 (by omega)
theorem Bx6 {W0:PW} {M:Nat→Prop} {s:Sl} {L:List (Mon×ByteArray)} (h:Af3 W0 s L) (hl:L.length≤1099511627776) (hz: ∀t∈L,t.2.size≤1099511627776):
  Aa0 Tryz.prog 74 [s.v] W0 M fun v W'=>∃(s':Sl),v = .tuple ⟨[Sl.v s',.bool (Ai8 L).isSome]⟩∧Ag1 284 170 W' s' ((Ai8 L).getD []):=by
 apply Bf0
 have hn:=h.n
 have bad:Ai8 L=none→∀W':PW,∃s':Sl,(Value.tuple ⟨[.slice none 0 0,.bool false]⟩) = .tuple ⟨[Sl.v s',.bool (Ai8 L).isSome]⟩∧Ag1 284 170 W' s' ((Ai8 L).getD []):=fun h W'=>by
  rw[h]
  exact⟨⟨none,0,0⟩,rfl,Ag1.nil W'⟩
 refine⟨ppI (RT 284) W0 L,cnL L.length,⟨0,[],rfl,by omega,Ext.refl _,trivial,Af1.nil⟩,?_⟩
 rintro l3 i4 W5 ⟨j,p,rfl,hj,hE5,ha,hp⟩
 have hal:=ha.len
 have hpl:=hp.len
 rw[List.length_take] at hpl
 refine⟨fun hlt=>?_,fun hge s34 W35 hE35 hO _ W36 hE36=>⟨s34,?_,?_⟩⟩
 ·have hjl:j<L.length:=by omega
  have hL:=h.ext hE5
  have hib:=hL.inB (i:=(j:Int)) (by omega) (by omega)
  obtain⟨h0,_,_,e3⟩:=hL.at (List.getElem?_eq_getElem hjl)
  refine⟨hib,_,e3,An7 (hz _ (List.getElem_mem hjl)) fun b9 s10 s11 W8 hE8 h8=>⟨b9,s10,s11,_,rfl,fun hno W13 _=>bad (Af1.bad hjl fun q hq _=>by rw[hq] at hno;cases hno) _,fun hyes=>?_⟩⟩
  obtain⟨q,hq⟩: ∃q,Ab7 L[j].2=some q:=Option.isSome_iff_exists.1 (by simpa using hyes)
  rw[hq] at h8
  have h8:Ab6 284 W8 b9 s10 s11 q:=h8
  refine Aq7 h8.1 fun W15 hE15 _=>⟨_,rfl,fun h0' W17 _=>bad (Af1.bad hjl fun q' hq' hne=>by rw[hq] at hq';cases hq';exact absurd (Ds5.1 (Ds0.1 h0')) hne) _,fun hne=>?_⟩
  have hq0:q≠0:=fun e=>hne (Ds0.2 (Ds5.2 e))
  have hE:=hE8.trans hE15
  have hmu:L.length-Int.toNat ((j:Int)+1)<L.length-Int.toNat (j:Int):=by omega
  have hL15:=hL.ext hE
  obtain⟨_,_,e2,_⟩:=hL15.at (List.getElem?_eq_getElem hjl)
  refine⟨fun hj0=>?_,fun hj0=>⟨hib,_,_,_,e2,Ext.refl _,by simp;omega,Ext.refl _,by unfold I64;omega,⟨j+1,_,by push_cast;rfl,by omega,hE5.trans hE,(ha.mono fun _ _ h=>h.ext hE).snoc ⟨h0,b9,s10,s11,rfl,h8.ext hE15⟩,hp.snoc hjl hq hq0 fun k hk=>absurd hk (by omega)⟩,hmu⟩⟩
  have hj1:(((j:Int)-1).toNat)=j-1:=by omega
  have hjm:j-1<L.length:=by omega
  obtain⟨hm0,_,em,_⟩:=hL15.at (List.getElem?_eq_getElem hjm)
  refine⟨by unfold I64;omega,hL.inB (by omega) (by omega),_,_,_,by rw[hj1];exact em,hib,_,_,_,e2,Bx0 hm0 h0 fun W25 hE25 _=>⟨_,rfl,fun hge W27 _=>bad (Af1.bad hjl fun _ _ _=>⟨j-1,by omega,Fd6 hge⟩) _,fun hlt=>?_⟩⟩
  obtain⟨_,_,e2',_⟩:=(hL15.ext hE25).at (List.getElem?_eq_getElem hjl)
  refine⟨hib,_,_,_,e2',Ext.refl _,by simp;omega,Ext.refl _,by unfold I64;omega,⟨j+1,_,by push_cast;rfl,by omega,hE5.trans (hE.trans hE25),(ha.mono fun _ _ h=>h.ext (hE.trans hE25)).snoc ⟨h0,b9,s10,s11,rfl,h8.ext (hE15.trans hE25)⟩,hp.snoc hjl hq hq0 fun k hk=>?_⟩,hmu⟩
  have:k=j-1:=by omega
  subst this
  exact Em9 hlt
 ·have:j=L.length:=by omega
  subst this
  rw[hp.all];rfl
 ·have:j=L.length:=by omega
  subst this
  rw[hp.all]
  exact⟨_,(hO.ext hE36).row,ha.mono fun _ _ h=>h.ext (hE35.trans hE36)⟩
theorem Bg5 {W0 W:PW} {M:Nat→Prop} {s:Sl} {L:List (Mon×ByteArray)} {K:Value→PW→Prop} (h:Af3 W s L) (hl:L.length≤1099511627776) (hz: ∀t∈L,t.2.size≤1099511627776) (kont: ∀(s':Sl) (W':PW),Ext W W'→(Ag1 284 170 W' s' ((Ai8 L).getD []))→K (.tuple ⟨[Sl.v s',.bool (Ai8 L).isSome]⟩) W'):
  Aa1 Tryz.prog W0 M 74 [s.v] W K:=
 Aa2 (fun W' hE=>Bx6 (M:=fun _=>False) (h.ext hE) hl hz) (fun W' v W'' hE hE' hP=>by
  obtain⟨s',rfl,h⟩:=hP
  exact kont s' W'' (hE.trans hE') h)
noncomputable def erP (L:List (Mon×ByteArray)):Int:=if(Ai8 L).isSome then 0 else 2
def paI (n0:Nat) (W0:PW) (L:List (Mon×ByteArray)) (l:List PL) (W:PW):Prop:=match l with
 | [.val (.int .i64 i),_,.cells [.slice A n c]]=>∃(j:Nat) (xs:List (List Value)) (p:List Tm),i=(j:Int)∧j≤L.length∧Eo1 n0 W0 W∧Go.SX.Own W 165 6 ⟨A,n,c⟩ xs∧(∀g,(Value.slice A n c).ownBlock=some g→n0≤g)∧An5 (PT 284 W) xs p∧Af1 (L.take j) p
 | _=>False
theorem Dd0 {W:PW} {t:TypeId} {sz:Nat} :Go.SX.Own W t sz ⟨none,0,0⟩ []:=⟨⟨by simp,by simp,.inl ⟨rfl,rfl⟩⟩,fun g hg=>by simp[Sl.v,Value.ownBlock] at hg⟩
theorem Cy1 {W0:PW} {M:Nat→Prop} {s:Sl} {L:List (Mon×ByteArray)} (h:Af3 W0 s L) (hl:L.length≤1099511627776) (hz: ∀t∈L,t.2.size≤1099511627776):
  Aa0 Tryz.prog 76 [s.v] W0 M fun v W'=>∃(s':Sl),v = .tuple ⟨[.agg ⟨[Sl.v s']⟩,.int .i64 (erP L)]⟩∧Ab0 284 165 W' s' ((Ai8 L).getD []):=by
 apply Ca9
 have hn:=h.n
 have bad:Ai8 L=none→∀W':PW,∃s':Sl,(Value.tuple ⟨[.agg ⟨[.slice none 0 0]⟩,.int .i64 2]⟩) = .tuple ⟨[.agg ⟨[Sl.v s']⟩,.int .i64 (erP L)]⟩∧Ab0 284 165 W' s' ((Ai8 L).getD []):=fun h W'=>by
  unfold erP
  rw[h]
  exact⟨⟨none,0,0⟩,rfl,Ab0.nil W'⟩
 refine⟨paI W0.w.heap.size W0 L,fun l _=>match l with | [.val (.int .i64 i),_,_]=>L.length-i.toNat | _=>0,⟨0,[],[],rfl,by omega,Au9.refl _ _,Dd0,fun g hg=>by simp[Value.ownBlock] at hg,trivial,Af1.nil⟩,?_⟩
 rintro s3 s4 i5 W6 ⟨j,xs,p,rfl,hj,hEN,hO,hfr,ha,hp⟩
 have hO:Go.SX.Own W6 165 6 s4 xs:=hO
 have hfr: ∀g,s4.v.ownBlock=some g→W0.w.heap.size≤g:=hfr
 have hal:=ha.len
 have hpl:=hp.len
 rw[List.length_take] at hpl
 refine⟨fun hlt=>?_,fun hge W33 hE33=>⟨s4,?_,?_⟩⟩
 ·have hjl:j<L.length:=by omega
  have hL:=h.new hEN (Nat.le_refl _)
  have hib:=hL.inB (i:=(j:Int)) (by omega) (by omega)
  obtain⟨h0,e1,_,_⟩:=hL.at (List.getElem?_eq_getElem hjl)
  refine⟨hib,_,_,_,_,e1,As8 (hz _ (List.getElem_mem hjl)) fun s13 b14 s15 W12 hE12 h12=>⟨s13,b14,s15,_,rfl,fun hno W17 _=>bad (Af1.bad hjl fun q hq _=>by rw[hq] at hno;exact absurd rfl hno) _,fun hyes=>?_⟩⟩
  obtain⟨q,hq⟩: ∃q,Ab7 L[j].2=some q:=by
   cases hq:Ab7 L[j].2 with
   | none=>rw[hq] at hyes;exact absurd (by decide) hyes
   | some q=>exact⟨q,rfl⟩
  rw[hq] at h12
  have h12:Ab3 284 W12 s13 b14 s15 q:=h12
  refine Bk6 h12 (Aw6 hq).1 (by omega) fun W19 hE19 _=>⟨_,rfl,fun h0' W21 _=>bad (Af1.bad hjl fun q' hq' hne=>by rw[hq] at hq';cases hq';exact absurd ((Be6 _ _).1 h0') hne) _,fun hne=>?_⟩
  have hq0:q≠0:=fun e=>hne ((Be6 _ _).2 e)
  have hE:=hE12.trans hE19
  have hmu:L.length-Int.toNat ((j:Int)+1)<L.length-Int.toNat (j:Int):=by omega
  have hL19:=hL.ext hE
  have fin: ∀W,Ext W19 W→(∀k (hk:k+1=j),(L[k]'(by omega)).1.lt L[j].1)→Es7 W0 M 165 6 64 s4 [[.int .u8 L[j].1.x,.int .u8 L[j].1.y,.int .u8 L[j].1.z,s13.v,.bool b14,s15.v]] W fun s29 W30=>I64 ((j:Int)+1)∧paI W0.w.heap.size W0 L [.val (.int .i64 ((j:Int)+1)),.cells [s3.v],.cells [s29.v]] W30∧L.length-Int.toNat ((j:Int)+1)<L.length-Int.toNat (j:Int):=by
   intro W hEW hlt W' hE'
   have hE2:=(hE.trans hEW).trans hE'
   have hO':=hO.ext hE2
   refine⟨xs,hO',fun g hg=>.inr (hfr g hg),by simp;omega,fun s' W'' hX hO'' hob=>⟨by unfold I64;omega,⟨j+1,_,p ++ [(L[j].1,q)],by push_cast;rfl,by omega,(hEN.trans (hE2.toM _)).trans (hX.mono fun g hg=>hfr g hg),hO'',fun g hg=>?_,?_,hp.snoc hjl hq hq0 hlt⟩,hmu⟩⟩
   ·rcases hob g hg with h | h
    ·exact hfr g h
    ·exact Nat.le_trans (Nat.le_trans hEN.size hE2.size) h
   ·exact((ha.mono fun _ _ h=>PT.own hO' hX (by decide:284≠165) (h.ext hE2))).snoc ⟨h0,s13,b14,s15,rfl,Ab3.own hO' hX (by decide:284≠165) (h12.ext ((hE19.trans hEW).trans hE'))⟩
  refine⟨fun hj0=>?_,fun hj0=>fin W19 (Ext.refl _) fun k hk=>absurd hk (by omega)⟩
  have hj1:(((j:Int)-1).toNat)=j-1:=by omega
  have hjm:j-1<L.length:=by omega
  obtain⟨hm0,_,em,_⟩:=hL19.at (List.getElem?_eq_getElem hjm)
  refine⟨by unfold I64;omega,hL.inB (by omega) (by omega),_,_,_,by rw[hj1];exact em,Bk9 hm0 h0 fun W26 hE26 _=>⟨_,rfl,fun hge W28 _=>bad (Af1.bad hjl fun _ _ _=>⟨j-1,by omega,Fd6 hge⟩) _,fun hlt=>fin W26 hE26 fun k hk=>?_⟩⟩
  have:k=j-1:=by omega
  subst this
  exact Em9 hlt
 ·have:j=L.length:=by omega
  subst this
  unfold erP
  rw[hp.all];rfl
 ·have:j=L.length:=by omega
  subst this
  rw[hp.all]
  exact⟨_,(hO.ext hE33).row,ha.mono fun _ _ h=>h.ext hE33⟩
theorem Cc0 {W0 W:PW} {M:Nat→Prop} {s:Sl} {L:List (Mon×ByteArray)} {K:Value→PW→Prop} (h:Af3 W s L) (hl:L.length≤1099511627776) (hz: ∀t∈L,t.2.size≤1099511627776) (kont: ∀(s':Sl) (W':PW),Ext W W'→(Ab0 284 165 W' s' ((Ai8 L).getD []))→K (.tuple ⟨[.agg ⟨[Sl.v s']⟩,.int .i64 (erP L)]⟩) W'):
  Aa1 Tryz.prog W0 M 76 [s.v] W K:=
 Aa2 (fun W' hE=>Cy1 (M:=fun _=>False) (h.ext hE) hl hz) (fun W' v W'' hE hE' hP=>by
  obtain⟨s',rfl,h⟩:=hP
  exact kont s' W'' (hE.trans hE') h)
def Bp6 (L:List (Mon×ByteArray)) (most exp:Int):Prop:=(L.length:Int)≤most∧∀t∈L,t.2.size≤30∧t.1.x≤exp∧t.1.y≤exp∧t.1.z≤exp
theorem Db1 {W0:PW} {M:Nat→Prop} {s:Sl} {L:List (Mon×ByteArray)} {most exp:Int} (h:Af3 W0 s L) (hl:L.length≤1099511627776):
  Aa0 Tryz.prog 75 [s.v,.int .i64 most,.int .i64 exp] W0 M fun v W'=>∃(b:Bool),v = .bool b∧(b=true↔Bp6 L most exp):=by
 apply Bz5
 have hn:=h.n
 have bad:¬Bp6 L most exp→∃b:Bool,(Value.bool false) = .bool b∧(b=true↔Bp6 L most exp):=fun h=>⟨false,rfl,fun e=>(by cases e),fun hp=>absurd hp h⟩
 refine⟨fun hgt W1 _=>bad fun hp=>by have:=hp.1;omega,fun hle=>⟨fun l W=>match l with | [.val (.int .i64 i)]=>Ext W0 W∧∃j:Nat,i=(j:Int)∧j≤L.length∧∀t∈L.take j,t.2.size≤30∧t.1.x≤exp∧t.1.y≤exp∧t.1.z≤exp | _=>False,fun l _=>match l with | [.val (.int .i64 i)]=>L.length-i.toNat | _=>0,⟨Ext.refl _,0,rfl,by omega,fun t ht=>by simp at ht⟩,?_⟩⟩
 rintro i4 W5 ⟨hE,j,rfl,hj,hpre⟩
 refine⟨fun hlt=>?_,fun hge W14 _=>⟨true,rfl,fun _=>⟨by omega,fun t ht=>?_⟩,fun _=>rfl⟩⟩
 ·have hjl:j<L.length:=by omega
  have hL:=h.ext hE
  have hib:=hL.inB (i:=(j:Int)) (by omega) (by omega)
  have hm:=List.getElem_mem hjl
  obtain⟨xs,⟨_,hr⟩,ha⟩:=hL
  obtain⟨x,hx,h0,rfl⟩:=ha.get (List.getElem?_eq_getElem hjl)
  unfold Mon.ok at h0
  refine⟨hib,_,hr.part hx 3 rfl,fun hb W7 _=>bad fun hp=>by have:=hp.2 _ hm;omega,fun hb=>⟨hib,⟨by omega,by omega⟩,_,hr.part hx 0 rfl,by unfold I64;omega,fun hc W9 _=>bad fun hp=>by have:=hp.2 _ hm;omega,fun hc=>⟨hib,⟨by omega,by omega⟩,_,hr.part hx 1 rfl,by unfold I64;omega,fun hd W11 _=>bad fun hp=>by have:=hp.2 _ hm;omega,fun hd=>⟨hib,⟨by omega,by omega⟩,_,hr.part hx 2 rfl,by unfold I64;omega,fun he W13 _=>bad fun hp=>by have:=hp.2 _ hm;omega,fun he=>⟨by unfold I64;omega,⟨hE,j+1,by push_cast;rfl,by omega,fun t ht=>?_⟩,?_⟩⟩⟩⟩⟩
  ·rw[Ce0 hjl] at ht
   rcases List.mem_append.1 ht with ht | ht
   ·exact hpre t ht
   ·simp at ht
    subst ht
    exact⟨by omega,by omega,by omega,by omega⟩
  ·show L.length-Int.toNat ((j:Int)+1)<L.length-Int.toNat (j:Int)
   omega
 ·have:j=L.length:=by omega
  subst this
  rw[List.take_length] at hpre
  exact hpre t ht
theorem Cb1 {W0 W:PW} {M:Nat→Prop} {s:Sl} {L:List (Mon×ByteArray)} {most exp:Int} {K:Value→PW→Prop} (h:Af3 W s L) (hl:L.length≤1099511627776) (kont: ∀(b:Bool) (W':PW),Ext W W'→((b=true↔Bp6 L most exp))→K (.bool b) W'):
  Aa1 Tryz.prog W0 M 75 [s.v,.int .i64 most,.int .i64 exp] W K:=
 Aa2 (fun W' hE=>Db1 (M:=fun _=>False) (h.ext hE) hl) (fun W' v W'' hE hE' hP=>by
  obtain⟨b,rfl,h⟩:=hP
  exact kont b W'' (hE.trans hE') h)
def Ff1 (L:List (Mon×ByteArray)) (exp:Int) (p:List Tm):Prop:=Af1 L p∧Bp6 L 14 exp
theorem Ee7 {W0:PW} {M:Nat→Prop} {s:Sl} {L:List (Mon×ByteArray)} {exp:Int} (h:Af3 W0 s L) (hl:L.length≤1099511627776) (hz: ∀t∈L,t.2.size≤1099511627776):
  Aa0 Tryz.prog 15 [s.v,.int .i64 exp] W0 M fun v W'=>∃(s1:Sl),∃(s2:Sl),∃(b:Bool),v = .tuple ⟨[.agg ⟨[Sl.v s1]⟩,Sl.v s2,.bool b]⟩∧(b=true→∃p,Ff1 L exp p∧Ab0 284 165 W' s1 p∧Ag1 284 170 W' s2 p):=by
 apply Dg8
 have bad: ∀W':PW,∃(s1 s2:Sl) (b:Bool),(Value.tuple ⟨[.agg ⟨[.slice none 0 0]⟩,.slice none 0 0,.bool false]⟩) = .tuple ⟨[.agg ⟨[Sl.v s1]⟩,Sl.v s2,.bool b]⟩∧(b=true→∃p,Ff1 L exp p∧Ab0 284 165 W' s1 p∧Ag1 284 170 W' s2 p):=fun W'=>⟨⟨none,0,0⟩,⟨none,0,0⟩,false,rfl,fun e=>by cases e⟩
 refine Bg5 h hl hz fun s3 W2 hE2 h2=>⟨s3,_,rfl,fun _ W5 _=>bad W5,fun hyes=>Cb1 (h.ext hE2) hl fun b8 W7 hE7 hb=>⟨b8,rfl,fun _ W9 _=>bad W9,fun hb8=>Cc0 (h.ext (hE2.trans hE7)) hl hz fun s12 W11 hE11 h11=>⟨s12,_,rfl,fun W14 hE14=>⟨s12,s3,true,rfl,fun _=>?_⟩⟩⟩⟩
 obtain⟨p,hp⟩: ∃p,Ai8 L=some p:=Option.isSome_iff_exists.1 (by simpa using hyes)
 rw[hp] at h2 h11
 exact⟨p,⟨Eg3 hp,hb.1 (by simpa using hb8)⟩,h11.ext hE14,h2.ext ((hE7.trans hE11).trans hE14)⟩
theorem Dn6 {W0 W:PW} {M:Nat→Prop} {s:Sl} {L:List (Mon×ByteArray)} {exp:Int} {K:Value→PW→Prop} (h:Af3 W s L) (hl:L.length≤1099511627776) (hz: ∀t∈L,t.2.size≤1099511627776) (kont: ∀(s1:Sl) (s2:Sl) (b:Bool) (W':PW),Ext W W'→((b=true→∃p,Ff1 L exp p∧Ab0 284 165 W' s1 p∧Ag1 284 170 W' s2 p))→K (.tuple ⟨[.agg ⟨[Sl.v s1]⟩,Sl.v s2,.bool b]⟩) W'):
  Aa1 Tryz.prog W0 M 15 [s.v,.int .i64 exp] W K:=
 Aa2 (fun W' hE=>Ee7 (M:=fun _=>False) (h.ext hE) hl hz) (fun W' v W'' hE hE' hP=>by
  obtain⟨s1,s2,b,rfl,h⟩:=hP
  exact kont s1 s2 b W'' (hE.trans hE') h)
theorem Ff1.len {L:List (Mon×ByteArray)} {exp:Int} {p:List Tm} (h:Ff1 L exp p):p.length≤14:=by
 have h1:=h.1.len
 have h2:=h.2.1
 omega
end Go.Proofs.YtjkkidjbppphpaaGreatDoor
