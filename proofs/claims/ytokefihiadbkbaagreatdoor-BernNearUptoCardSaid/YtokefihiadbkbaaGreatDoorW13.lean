/- box.Parse; the reference's; cincturelaw6.Of. -/
import Derived.Test.YtokefihiadbkbaaGreatDoorW12
import Derived.Test.YtokefihiadbkbaaGreatDoorLib4
import Derived.Test.YtokefihiadbkbaaGreatDoorW9
import Derived.Test.YtokefihiadbkbaaGreatDoorW7
import Derived.Test.YtokefihiadbkbaaGreatDoorW11
import Derived.Test.YtokefihiadbkbaaGreatDoorW6
import Derived.Test.YtokefihiadbkbaaGreatDoorR19
set_option linter.unusedVariables false
set_option linter.unusedSimpArgs false
set_option maxRecDepth 100000
namespace Go.Proofs.YtokefihiadbkbaaGreatDoor
open Go Go.SX
theorem Fi3 {a b:ByteArray} :IvS 4000 ((spP a b).getD (0,0)):=by
 cases e:spP a b with
 | none=>exact⟨Sz.zero (by omega),Sz.zero (by omega)⟩
 | some x=>
  obtain⟨p1,p2,p3⟩:=Dp3 e
  exact⟨(Aw6 p1).1,(Aw6 p2).1⟩
theorem Eb3 {W0:PW} {M:Nat→Prop} {a b:ByteArray} (hT:Ac6 W0) (ha:a.size≤1099511627776) (hb:b.size≤1099511627776):
  Aa0 Tryz.prog 122 [.agg ⟨[.string a,.string b]⟩] W0 M fun v W'=>∃(l:List Value),∃(i:Int),∃(x:Iv),v = .tuple ⟨[.agg ⟨l⟩,.int .i64 i]⟩∧SpV 231 W' l x∧(i=0→spP a b=some x∧x.1<x.2)∧(∀y,spP a b=some y→y.1<y.2→y.1.den=1→y.2.den=1→i=0):=by
 apply Cq0
 refine Az3 ha hb fun l e W2 hE2 ⟨h2,he⟩=>?_
 obtain⟨s3,b4,s5,s6,b7,s8,rfl,q1,q2⟩:=h2
 have hz:=@Fi3 a b
 refine⟨s3,b4,s5,s6,b7,s8,e,rfl,?_⟩
 refine Bx3 (hT.ext hE2) q1 hz.1 fun s12 b13 i14 b15 W11 hE11 ok1=>⟨s12,b13,i14,b15,rfl,?_⟩
 refine Bx3 (hT.ext (hE2.trans hE11)) (q2.ext hE11) hz.2 fun s18 b19 i20 b21 W17 hE17 ok2=>⟨s18,b19,i20,b21,rfl,fun hne W22 _=>⟨_,e,(0,0),rfl,SpV.zero W22,fun h=>absurd h hne,fun y hy _ _ _=>absurd (he.2 (by rw[hy];rfl)) hne⟩,fun h0=>?_⟩
 have E:=hE11.trans hE17
 refine Aj2 (q1.ext E) (q2.ext E) hz.1 hz.2 (by omega) (by omega) fun W24 hE24 _=>⟨_,rfl,fun hc W26 _=>⟨_,1,(0,0),rfl,SpV.zero W26,fun h=>by omega,fun y hy hlt _ _=>by rw[hy] at hc;exact absurd (El9.1 hc) (Rat.not_le.2 hlt)⟩,fun hc=>⟨fun h1 W27 _=>⟨_,2,(0,0),rfl,SpV.zero W27,fun h=>by omega,fun y hy _ d1 _=>by rw[hy] at ok1;rw[ok1 d1] at h1;exact absurd h1 (by decide)⟩,fun _=>⟨fun h2 W28 _=>⟨_,2,(0,0),rfl,SpV.zero W28,fun h=>by omega,fun y hy _ _ d2=>by rw[hy] at ok2;rw[ok2 d2] at h2;exact absurd h2 (by decide)⟩,fun _ W29 hE29=>?_⟩⟩⟩
 obtain⟨x,hx⟩:=Option.isSome_iff_exists.1 (he.1 (Decidable.not_not.1 h0))
 rw[hx] at q1 q2 hc
 have hc:¬0≤Co4 x.1 x.2:=hc
 have E2:=E.trans (hE24.trans hE29)
 exact⟨_,0,x,rfl,⟨s3,b4,s5,s6,b7,s8,rfl,q1.ext E2,q2.ext E2⟩,fun _=>⟨hx,At6.1 (by omega)⟩,fun _ _ _ _ _=>rfl⟩
theorem Cq6 {W0 W:PW} {M:Nat→Prop} {a b:ByteArray} {K:Value→PW→Prop} (hT:Ac6 W) (ha:a.size≤1099511627776) (hb:b.size≤1099511627776) (kont: ∀(l:List Value) (i:Int) (x:Iv) (W':PW),Ext W W'→(SpV 231 W' l x∧(i=0→spP a b=some x∧x.1<x.2)∧(∀y,spP a b=some y→y.1<y.2→y.1.den=1→y.2.den=1→i=0))→K (.tuple ⟨[.agg ⟨l⟩,.int .i64 i]⟩) W'):
  Aa1 Tryz.prog W0 M 122 [.agg ⟨[.string a,.string b]⟩] W K:=
 Aa2 (fun W' hE=>Eb3 (M:=fun _=>False) (hT.ext hE) ha hb) (fun W' v W'' hE hE' hP=>by
  obtain⟨l,i,x,rfl,h⟩:=hP
  exact kont l i x W'' (hE.trans hE') h)
def bxI (W0:PW) (Lt:List (ByteArray×ByteArray)) (L:List PL) (W:PW):Prop:=match L with
 | [.row l,.val (.int .i64 z)]=>∃(j:Nat) (m:List Iv),z=(j:Int)∧j≤Lt.length∧Ext W0 W∧m.length=j∧An5 (SpV 231 W) l m∧(∀i (hi:i<m.length) (hi':i<Lt.length),spP Lt[i].1 Lt[i].2=some m[i])∧∀x∈m,x.1<x.2
 | _=>False
def Gf1 (W0:PW) (Lt:List (ByteArray×ByteArray)) (L:List PL) (W:PW):Prop:=match L with
 | [.row l,.val (.int .i64 z)]=>∃(j:Nat) (m:List Iv),z=(j:Int)∧j≤Lt.length∧Ext W0 W∧m.length=j∧An5 (Ah6 231 W) l m∧(∀i (hi:i<m.length) (hi':i<Lt.length),spP Lt[i].1 Lt[i].2=some m[i])
 | _=>False
def cnD (n:Nat) (L:List PL) (_:PW):Nat:=match L with
 | [_,.val (.int .i64 z)]=>n-z.toNat
 | _=>0
theorem Bs7.ext {W W':PW} {s:Sl} {L:List (ByteArray×ByteArray)} (h:Bs7 W s L) (hE:Ext W W'):Bs7 W' s L:=let⟨ty,h⟩:=h;⟨ty,h.ext hE⟩
theorem Bs7.n {W:PW} {s:Sl} {L:List (ByteArray×ByteArray)} (h:Bs7 W s L):s.n=L.length:=let⟨ty,h⟩:=h;by have:=h.1;rwa [List.length_map] at this
theorem Bs7.inB {W:PW} {s:Sl} {L:List (ByteArray×ByteArray)} (h:Bs7 W s L) {i:Int} (h0:0≤i) (h1:i<(L.length:Int)):SX.inB s i:=let⟨ty,h⟩:=h;Row.inB h h0 (by rw[List.length_map];exact h1)
theorem Bs7.part {W:PW} {s:Sl} {L:List (ByteArray×ByteArray)} (h:Bs7 W s L) {i:Nat} (hi:i<L.length) (off:Nat) {m:List Value} (hm:((prc L[i]).drop off).take m.length=m):Aa7 W s 2 i off m:=let⟨ty,h⟩:=h;Row.part h (x:=prc L[i]) (by rw[List.getElem?_map,List.getElem?_eq_getElem hi];rfl) off hm
theorem Fc1 {m:List Iv} {x:Iv} {Lt:List (ByteArray×ByteArray)} (h: ∀i (hi:i<m.length) (hi':i<Lt.length),spP Lt[i].1 Lt[i].2=some m[i]) (hl:m.length<Lt.length) (hx:spP Lt[m.length].1 Lt[m.length].2=some x): ∀i (hi:i<(m ++ [x]).length) (hi':i<Lt.length),spP Lt[i].1 Lt[i].2=some (m ++ [x])[i]:=fun i hi hi'=>by
 by_cases e:i<m.length
 ·rw[List.getElem_append_left e]
  exact h i e hi'
 ·have:i=m.length:=by simp at hi;omega
  subst this
  rw[List.getElem_concat_length rfl]
  exact hx
def Br9 (Lt:List (ByteArray×ByteArray)):Prop:=1≤Lt.length∧Lt.length≤3∧∀t∈Lt,∃y,spP t.1 t.2=some y∧y.1<y.2∧y.1.den=1∧y.2.den=1
theorem Dd2 {W0:PW} {M:Nat→Prop} {s:Sl} {Lt:List (ByteArray×ByteArray)} (hT:Ac6 W0) (h:Bs7 W0 s Lt) (hl:Lt.length≤1099511627776) (hz: ∀t∈Lt,t.1.size≤1099511627776∧t.2.size≤1099511627776):
  Aa0 Tryz.prog 55 [s.v] W0 M fun v W'=>∃(s':Sl),∃(i:Int),∃(bs:List Iv),v = .tuple ⟨[Sl.v s',.int .i64 i]⟩∧Bc3 231 W' s' bs∧(i=0→Cn7 bs∧bs.length=Lt.length∧∀i (hi:i<bs.length) (hi':i<Lt.length),spP Lt[i].1 Lt[i].2=some bs[i])∧(i≠0→bs = [])∧(Br9 Lt→i=0):=by
 apply Ci3
 have hn:=h.n
 have bad: ∀(c:Int),c≠0→¬Br9 Lt→∀W':PW,∃(s':Sl) (i:Int) (bs:List Iv),(Value.tuple ⟨[.slice none 0 0,.int .i64 c]⟩) = .tuple ⟨[Sl.v s',.int .i64 i]⟩∧Bc3 231 W' s' bs∧(i=0→Cn7 bs∧bs.length=Lt.length∧∀i (hi:i<bs.length) (hi':i<Lt.length),spP Lt[i].1 Lt[i].2=some bs[i])∧(i≠0→bs = [])∧(Br9 Lt→i=0):=
  fun c hc hg W'=>⟨⟨none,0,0⟩,c,[],rfl,Dr1.nil W',fun e=>absurd e hc,fun _=>rfl,fun g=>absurd g hg⟩
 refine⟨fun h W1 _=>bad 1 (by omega) (fun g=>by have:=g.1;omega) W1,fun h1=>⟨fun h W2 _=>bad 1 (by omega) (fun g=>by have:=g.2.1;omega) W2,fun h3=>?_⟩⟩
 refine⟨bxI W0 Lt,cnD Lt.length,⟨0,[],rfl,Nat.zero_le _,Ext.refl _,rfl,trivial,fun i hi=>by simp at hi,fun x hx=>(by cases hx)⟩,?_⟩
 rintro l5 i6 W7 ⟨j,m,rfl,hj,hE7,hml,ha,hp,hlt⟩
 have hal:=ha.len
 refine⟨fun hlt'=>?_,fun hge s20 W21 hE21 hO21 _ W22 hE22=>⟨s20,0,m,rfl,⟨l5,⟨_,hO21.row.ext hE22⟩,ha.mono fun _ _ h=>h.ext (hE21.trans hE22)⟩,fun _=>⟨⟨by omega,hlt⟩,by omega,hp⟩,fun e=>absurd rfl e,fun _=>rfl⟩⟩
 have hjl:j<Lt.length:=by omega
 have h7:=h.ext hE7
 obtain⟨z1,z2⟩:=hz _ (List.getElem_mem hjl)
 refine⟨h7.inB (by omega) (by omega),Lt[j].1,Lt[j].2,h7.part hjl 0 rfl,?_⟩
 refine Cq6 (hT.ext hE7) z1 z2 fun l e x W11 hE11 ⟨hx,he,hgo⟩=>?_
 obtain⟨s12,b13,s14,s15,b16,s17,rfl,q1,q2⟩:=hx
 refine⟨s12,b13,s14,s15,b16,s17,e,rfl,fun hne W19 _=>bad e hne (fun g=>by obtain⟨y,y1,y2,y3,y4⟩:=g.2.2 _ (List.getElem_mem hjl);exact hne (hgo y y1 y2 y3 y4)) W19,fun h0=>?_⟩
 obtain⟨k1,k2⟩:=he (Decidable.not_not.1 h0)
 subst hml
 refine⟨by simp only[List.length_cons,List.length_nil];omega,by unfold I64;omega,⟨m.length+1,m ++ [x],by push_cast;rfl,by omega,hE7.trans hE11,by simp,(ha.mono fun _ _ h=>h.ext hE11).append ⟨⟨s12,b13,s14,s15,b16,s17,rfl,q1,q2⟩,trivial⟩,Fc1 hp hjl k1,fun y hy=>?_⟩,?_⟩
 ·rcases List.mem_append.1 hy with hy | hy
  ·exact hlt y hy
  ·rw[List.mem_singleton.1 hy];exact k2
 ·show Lt.length-Int.toNat ((m.length:Int)+1)<Lt.length-Int.toNat (m.length:Int)
  omega
theorem Cg0 {W0 W:PW} {M:Nat→Prop} {s:Sl} {Lt:List (ByteArray×ByteArray)} {K:Value→PW→Prop} (hT:Ac6 W) (h:Bs7 W s Lt) (hl:Lt.length≤1099511627776) (hz: ∀t∈Lt,t.1.size≤1099511627776∧t.2.size≤1099511627776) (kont: ∀(s':Sl) (i:Int) (bs:List Iv) (W':PW),Ext W W'→(Bc3 231 W' s' bs∧(i=0→Cn7 bs∧bs.length=Lt.length∧∀i (hi:i<bs.length) (hi':i<Lt.length),spP Lt[i].1 Lt[i].2=some bs[i])∧(i≠0→bs = [])∧(Br9 Lt→i=0))→K (.tuple ⟨[Sl.v s',.int .i64 i]⟩) W'):
  Aa1 Tryz.prog W0 M 55 [s.v] W K:=
 Aa2 (fun W' hE=>Dd2 (M:=fun _=>False) (hT.ext hE) (h.ext hE) hl hz) (fun W' v W'' hE hE' hP=>by
  obtain⟨s',i,bs,rfl,h⟩:=hP
  exact kont s' i bs W'' (hE.trans hE') h)
theorem Gd2 {W0:PW} {M:Nat→Prop} {s:Sl} {x n:Nat} (h:Aa6 231 W0 s x) (hn:n≤1000000):
  Aa0 Tryz.prog 208 [s.v,.int .i64 (n:Int)] W0 M fun v W'=>∃(i:Int),v = .int .u32 i∧True:=by
 apply Ga8
 have hsn:=h.n
 have e1:Int.tdiv (n:Int) 32=((n/32:Nat):Int):=rfl
 have e2:Int.tmod (n:Int) 32=((n%32:Nat):Int):=rfl
 have e3:IntKind.wrap .i64 (Int.tdiv (n:Int) 32)=((n/32:Nat):Int):=by rw[e1];exact wrap_i64 (by unfold I64;omega)
 have e4:IntKind.wrap .u64 (Int.tmod (n:Int) 32)=((n%32:Nat):Int):=by rw[e2];exact wrap64 (by omega) (by omega)
 unfold Ga7
 rw[e3,e4]
 refine⟨fun hneg=>by omega,fun _=>⟨by decide,fun _ W2 _=>⟨_,rfl,trivial⟩,fun hlt=>?_⟩⟩
 have hll:(dg x).length=nl x:=rfl
 have hil:n/32<(dg x).length:=by omega
 refine⟨by decide,Ad4.inB h (by omega) (by omega),_,Ad4.at h hil,by decide,⟨by omega,?_⟩,fun W4 _=>⟨_,rfl,trivial⟩⟩
 show((n%32:Nat):Int)≤32
 omega
theorem Gb2 {W0 W:PW} {M:Nat→Prop} {s:Sl} {x n:Nat} {K:Value→PW→Prop} (h:Aa6 231 W s x) (hn:n≤1000000) (kont: ∀(i:Int) (W':PW),Ext W W'→(True)→K (.int .u32 i) W'):
  Aa1 Tryz.prog W0 M 208 [s.v,.int .i64 (n:Int)] W K:=
 Aa2 (fun W' hE=>Gd2 (M:=fun _=>False) (h.ext hE) hn) (fun W' v W'' hE hE' hP=>by
  obtain⟨i,rfl,h⟩:=hP
  exact kont i W'' (hE.trans hE') h)
theorem Ga9 {W0:PW} {M:Nat→Prop} {s:Sl} {x:Nat} (h:Aa6 231 W0 s x) (hx:nl x≤30000):
  Aa0 Tryz.prog 180 [s.v] W0 M fun v W'=>∃(i:Int),v = .int .i64 i∧(0≤i∧i≤960000):=by
 apply Fy7
 have hn:=h.n
 refine⟨fun L W=>match L with | [.val (.int .i64 z)]=>∃j:Nat,z=(j:Int)∧j≤32*nl x∧Ext W0 W | _=>False,(fun L _=>match L with | [.val (.int .i64 z)]=>32*nl x-z.toNat | _=>0),⟨0,rfl,Nat.zero_le _,Ext.refl _⟩,?_⟩
 rintro i3 W4 ⟨j,rfl,hj,hE4⟩
 refine⟨by unfold I64;omega,fun hlt=>?_,fun _ W9 _=>⟨_,rfl,by omega,by omega⟩⟩
 refine Gb2 (h.ext hE4) (by omega) fun i7 W6 hE6 _=>⟨i7,rfl,fun _=>⟨by unfold I64;omega,⟨j+1,by push_cast;rfl,by omega,hE4.trans hE6⟩,?_⟩,fun _ W8 _=>⟨_,rfl,by omega,by omega⟩⟩
 show 32*nl x-Int.toNat ((j:Int)+1)<32*nl x-Int.toNat (j:Int)
 omega
theorem Fz6 {W0 W:PW} {M:Nat→Prop} {s:Sl} {x:Nat} {K:Value→PW→Prop} (h:Aa6 231 W s x) (hx:nl x≤30000) (kont: ∀(i:Int) (W':PW),Ext W W'→((0≤i∧i≤960000))→K (.int .i64 i) W'):
  Aa1 Tryz.prog W0 M 180 [s.v] W K:=
 Aa2 (fun W' hE=>Ga9 (M:=fun _=>False) (h.ext hE) hx) (fun W' v W'' hE hE' hP=>by
  obtain⟨i,rfl,h⟩:=hP
  exact kont i W'' (hE.trans hE') h)
theorem Fz9 {W0:PW} {M:Nat→Prop} {b:Bool} {s t:Sl} {q:Rat} (h:Ab6 231 W0 b s t q) (hq:Sz 4000 q):
  Aa0 Tryz.prog 121 [.agg ⟨[.bool b,s.v,t.v]⟩] W0 M fun v W'=>∃(ok:Bool),v = .bool ok∧True:=by
 apply Fy0
 have hd:nl q.den≤4000:=hq.2
 have hbl:=Dm3 q.den
 refine Ag4 h fun s3 W2 hE2 h2=>⟨s3,rfl,Fz6 h2 (by omega) fun i6 W5 hE5 hi=>⟨i6,rfl,Ag4 (h.ext (hE2.trans hE5)) fun s9 W8 hE8 h8=>⟨s9,rfl,Bj8 h8 (by omega) fun W11 hE11 _=>⟨_,rfl,by unfold I64;omega,fun W13 _=>⟨_,rfl,trivial⟩⟩⟩⟩⟩
theorem Fx3 {W0 W:PW} {M:Nat→Prop} {b:Bool} {s t:Sl} {q:Rat} {K:Value→PW→Prop} (h:Ab6 231 W b s t q) (hq:Sz 4000 q) (kont: ∀(ok:Bool) (W':PW),Ext W W'→(True)→K (.bool ok) W'):
  Aa1 Tryz.prog W0 M 121 [.agg ⟨[.bool b,s.v,t.v]⟩] W K:=
 Aa2 (fun W' hE=>Fz9 (M:=fun _=>False) (h.ext hE) hq) (fun W' v W'' hE hE' hP=>by
  obtain⟨ok,rfl,h⟩:=hP
  exact kont ok W'' (hE.trans hE') h)
theorem Fy9 {W0:PW} {M:Nat→Prop} {s:Sl} {Lt:List (ByteArray×ByteArray)} (h:Bs7 W0 s Lt) (hl:Lt.length≤1099511627776) (hz: ∀t∈Lt,t.1.size≤1099511627776∧t.2.size≤1099511627776):
  Aa0 Tryz.prog 54 [s.v] W0 M fun v W'=>∃(s':Sl),∃(i:Int),∃(bs:List Iv),v = .tuple ⟨[Sl.v s',.int .i64 i]⟩∧Fx4 231 W' s' bs∧(i=0→bs.length=Lt.length∧1≤bs.length∧∀i (hi:i<bs.length) (hi':i<Lt.length),spP Lt[i].1 Lt[i].2=some bs[i]):=by
 apply Fx6
 have hn:=h.n
 have bad: ∀(c:Int),c≠0→∀W':PW,∃(s':Sl) (i:Int) (bs:List Iv),(Value.tuple ⟨[.slice none 0 0,.int .i64 c]⟩) = .tuple ⟨[Sl.v s',.int .i64 i]⟩∧Fx4 231 W' s' bs∧(i=0→bs.length=Lt.length∧1≤bs.length∧∀i (hi:i<bs.length) (hi':i<Lt.length),spP Lt[i].1 Lt[i].2=some bs[i]):=
  fun c hc W'=>⟨⟨none,0,0⟩,c,[],rfl,Dr1.nil W',fun e=>absurd e hc⟩
 refine⟨fun _ W1 _=>bad 1 (by omega) W1,fun h1=>⟨fun _ W2 _=>bad 1 (by omega) W2,fun h3=>?_⟩⟩
 refine⟨Gf1 W0 Lt,cnD Lt.length,⟨0,[],rfl,Nat.zero_le _,Ext.refl _,rfl,trivial,fun i hi=>by simp at hi⟩,?_⟩
 rintro l5 i6 W7 ⟨j,m,rfl,hj,hE7,hml,ha,hp⟩
 have hal:=ha.len
 refine⟨fun hlt'=>?_,fun hge s20 W21 hE21 hO21 _ W22 hE22=>⟨s20,0,m,rfl,⟨l5,⟨_,hO21.row.ext hE22⟩,ha.mono fun _ _ h=>h.ext (hE21.trans hE22)⟩,fun _=>⟨by omega,by omega,hp⟩⟩⟩
 have hjl:j<Lt.length:=by omega
 have h7:=h.ext hE7
 obtain⟨z1,z2⟩:=hz _ (List.getElem_mem hjl)
 refine⟨h7.inB (by omega) (by omega),Lt[j].1,Lt[j].2,h7.part hjl 0 rfl,?_⟩
 refine Bh8 z1 z2 fun l e W11 hE11 ⟨hx,he⟩=>?_
 obtain⟨b12,s13,s14,b15,s16,s17,rfl,q1,q2⟩:=hx
 have hzi:=@Fi3 Lt[j].1 Lt[j].2
 refine⟨b12,s13,s14,b15,s16,s17,e,rfl,fun hne W19 _=>bad e hne W19,fun h0=>?_⟩
 obtain⟨x,hx⟩:=Option.isSome_iff_exists.1 (he.1 (Decidable.not_not.1 h0))
 refine Ar1 q1 q2 hzi.1 hzi.2 (by omega) (by omega) fun W21 hE21 _=>⟨_,rfl,fun _ W23 _=>bad 1 (by omega) W23,fun _=>?_⟩
 refine Fx3 (q1.ext hE21) hzi.1 fun b26 W25 hE25 _=>⟨b26,rfl,fun _ W27 _=>bad 2 (by omega) W27,fun _=>?_⟩
 refine Fx3 (q2.ext (hE21.trans hE25)) hzi.2 fun b30 W29 hE29 _=>⟨b30,rfl,fun _ W31 _=>bad 2 (by omega) W31,fun _=>?_⟩
 rw[hx] at q1 q2
 have E:=hE21.trans (hE25.trans hE29)
 subst hml
 refine⟨by simp only[List.length_cons,List.length_nil];omega,by unfold I64;omega,⟨m.length+1,m ++ [x],by push_cast;rfl,by omega,hE7.trans (hE11.trans E),by simp,(ha.mono fun _ _ h=>h.ext (hE11.trans E)).append ⟨⟨b12,s13,s14,b15,s16,s17,rfl,q1.ext E,q2.ext E⟩,trivial⟩,Fc1 hp hjl hx⟩,?_⟩
 show Lt.length-Int.toNat ((m.length:Int)+1)<Lt.length-Int.toNat (m.length:Int)
 omega
theorem Fx9 {W0 W:PW} {M:Nat→Prop} {s:Sl} {Lt:List (ByteArray×ByteArray)} {K:Value→PW→Prop} (h:Bs7 W s Lt) (hl:Lt.length≤1099511627776) (hz: ∀t∈Lt,t.1.size≤1099511627776∧t.2.size≤1099511627776) (kont: ∀(s':Sl) (i:Int) (bs:List Iv) (W':PW),Ext W W'→(Fx4 231 W' s' bs∧(i=0→bs.length=Lt.length∧1≤bs.length∧∀i (hi:i<bs.length) (hi':i<Lt.length),spP Lt[i].1 Lt[i].2=some bs[i]))→K (.tuple ⟨[Sl.v s',.int .i64 i]⟩) W'):
  Aa1 Tryz.prog W0 M 54 [s.v] W K:=
 Aa2 (fun W' hE=>Fy9 (M:=fun _=>False) (h.ext hE) hl hz) (fun W' v W'' hE hE' hP=>by
  obtain⟨s',i,bs,rfl,h⟩:=hP
  exact kont s' i bs W'' (hE.trans hE') h)
theorem Ga5 {W0:PW} {M:Nat→Prop} {s:Sl} {Lt:List (ByteArray×ByteArray)} {n:Int} (h:Bs7 W0 s Lt) (hl:Lt.length≤1099511627776):
  Aa0 Tryz.prog 22 [s.v,.int .i64 n] W0 M fun v W'=>∃(b:Bool),v = .bool b∧(b=true→∀t∈Lt,t.1.size≤30∧t.2.size≤30):=by
 apply Fy6
 have hn:=h.n
 have bad: ∀W':PW,∃b:Bool,(Value.bool false) = .bool b∧(b=true→∀t∈Lt,t.1.size≤30∧t.2.size≤30):=fun W'=>⟨false,rfl,fun e=>by cases e⟩
 refine⟨fun _ W1 _=>bad W1,fun _=>⟨fun L W=>match L with | [.val (.int .i64 z)]=>∃j:Nat,z=(j:Int)∧j≤Lt.length∧Ext W0 W∧∀t∈Lt.take j,t.1.size≤30∧t.2.size≤30 | _=>False,(fun L _=>match L with | [.val (.int .i64 z)]=>Lt.length-z.toNat | _=>0),⟨0,rfl,Nat.zero_le _,Ext.refl _,fun t ht=>by simp at ht⟩,?_⟩⟩
 rintro i4 W5 ⟨j,rfl,hj,hE5,hall⟩
 have h5:=h.ext hE5
 refine⟨fun hlt=>?_,fun hge W10 _=>⟨true,rfl,fun _=>?_⟩⟩
 ·have hjl:j<Lt.length:=by omega
  have hib:=h5.inB (i:=(j:Int)) (by omega) (by omega)
  refine⟨hib,Lt[j].1,h5.part hjl 0 rfl,fun _ W7 _=>bad W7,fun h1=>⟨hib,Lt[j].2,h5.part hjl 1 rfl,fun _ W9 _=>bad W9,fun h2=>⟨by unfold I64;omega,⟨j+1,by push_cast;rfl,by omega,hE5,fun t ht=>?_⟩,?_⟩⟩⟩
  ·rw[List.take_succ_eq_append_getElem hjl] at ht
   rcases List.mem_append.1 ht with ht | ht
   ·exact hall t ht
   ·rw[List.mem_singleton.1 ht];omega
  ·show Lt.length-Int.toNat ((j:Int)+1)<Lt.length-Int.toNat (j:Int)
   omega
 ·have:j=Lt.length:=by omega
  subst this
  rwa [List.take_length] at hall
theorem Fy8 {W0 W:PW} {M:Nat→Prop} {s:Sl} {Lt:List (ByteArray×ByteArray)} {n:Int} {K:Value→PW→Prop} (h:Bs7 W s Lt) (hl:Lt.length≤1099511627776) (kont: ∀(b:Bool) (W':PW),Ext W W'→((b=true→∀t∈Lt,t.1.size≤30∧t.2.size≤30))→K (.bool b) W'):
  Aa1 Tryz.prog W0 M 22 [s.v,.int .i64 n] W K:=
 Aa2 (fun W' hE=>Ga5 (M:=fun _=>False) (h.ext hE) hl) (fun W' v W'' hE hE' hP=>by
  obtain⟨b,rfl,h⟩:=hP
  exact kont b W'' (hE.trans hE') h)
theorem Eu1 {bs bs':List Iv} {Lt:List (ByteArray×ByteArray)} (h:bs.length=Lt.length) (h':bs'.length=Lt.length) (k: ∀i (hi:i<bs.length) (hi':i<Lt.length),spP Lt[i].1 Lt[i].2=some bs[i]) (k': ∀i (hi:i<bs'.length) (hi':i<Lt.length),spP Lt[i].1 Lt[i].2=some bs'[i]):bs=bs':=by
 refine List.ext_getElem (by omega) fun i h1 h2=>?_
 have a:=k i h1 (by omega)
 rw[k' i h2 (by omega)] at a
 exact(Option.some.inj a).symm
theorem Gd5 {bs:List Iv} {Lt:List (ByteArray×ByteArray)} (h:bs.length=Lt.length) (k: ∀i (hi:i<bs.length) (hi':i<Lt.length),spP Lt[i].1 Lt[i].2=some bs[i]) (hs: ∀t∈Lt,t.1.size≤30∧t.2.size≤30): ∀x∈bs,IvS 4 x:=fun x hx=>by
 obtain⟨i,hi,rfl⟩:=List.getElem_of_mem hx
 obtain⟨p1,p2,_⟩:=Dp3 (k i hi (by omega))
 have:=hs _ (List.getElem_mem (l:=Lt) (n:=i) (by omega))
 exact⟨Ct3 p1 this.1,Ct3 p2 this.2⟩
theorem Gd4 {W0:PW} {M:Nat→Prop} {s:Sl} {Lt:List (ByteArray×ByteArray)} (hT:Ac6 W0) (h:Bs7 W0 s Lt) (hl:Lt.length≤1099511627776) (hz: ∀t∈Lt,t.1.size≤1099511627776∧t.2.size≤1099511627776):
  Aa0 Tryz.prog 11 [s.v] W0 M fun v W'=>∃(s1:Sl),∃(s2:Sl),∃(ok:Bool),v = .tuple ⟨[Sl.v s1,Sl.v s2,.bool ok]⟩∧(ok=true→∃bs:List Iv,Bc3 231 W' s1 bs∧Fx4 231 W' s2 bs∧Cn7 bs∧∀x∈bs,IvS 4 x):=by
 apply Gb5
 have bad: ∀W':PW,∃(s1 s2:Sl) (ok:Bool),(Value.tuple ⟨[.slice none 0 0,.slice none 0 0,.bool false]⟩) = .tuple ⟨[Sl.v s1,Sl.v s2,.bool ok]⟩∧(ok=true→∃bs:List Iv,Bc3 231 W' s1 bs∧Fx4 231 W' s2 bs∧Cn7 bs∧∀x∈bs,IvS 4 x):=fun W'=>⟨⟨none,0,0⟩,⟨none,0,0⟩,false,rfl,fun e=>by cases e⟩
 refine Fy8 h hl fun b3 W2 hE2 h30=>⟨b3,rfl,fun _ W4 _=>bad W4,fun hb3=>?_⟩
 refine Fx9 (h.ext hE2) hl hz fun s7 i8 bs' W6 hE6 ⟨r1,r2⟩=>⟨s7,i8,rfl,fun _ W9 _=>bad W9,fun h0=>?_⟩
 have E:=hE2.trans hE6
 refine Cg0 (hT.ext E) (h.ext E) hl hz fun s12 i13 bs W11 hE11 ⟨q1,q2,q3,_⟩=>⟨s12,i13,rfl,fun W14 hE14=>⟨s12,s7,_,rfl,fun hok=>?_⟩⟩
 obtain⟨k1,k2,k3⟩:=r2 (Decidable.not_not.1 h0)
 have n1:=q1.n
 have n2:=r1.n
 have hlen:s12.n=s7.n:=by have:=of_decide_eq_true hok;omega
 by_cases hi:i13=0
 ·obtain⟨m1,m2,m3⟩:=q2 hi
  have e:=Eu1 m2 k1 m3 k3
  subst e
  exact⟨bs,q1.ext hE14,r1.ext (hE11.trans hE14),m1,Gd5 m2 m3 (h30 (by simpa using hb3))⟩
 ·have:=q3 hi
  subst this
  simp at n1
  omega
theorem Gb4 {W0 W:PW} {M:Nat→Prop} {s:Sl} {Lt:List (ByteArray×ByteArray)} {K:Value→PW→Prop} (hT:Ac6 W) (h:Bs7 W s Lt) (hl:Lt.length≤1099511627776) (hz: ∀t∈Lt,t.1.size≤1099511627776∧t.2.size≤1099511627776) (kont: ∀(s1:Sl) (s2:Sl) (ok:Bool) (W':PW),Ext W W'→((ok=true→∃bs:List Iv,Bc3 231 W' s1 bs∧Fx4 231 W' s2 bs∧Cn7 bs∧∀x∈bs,IvS 4 x))→K (.tuple ⟨[Sl.v s1,Sl.v s2,.bool ok]⟩) W'):
  Aa1 Tryz.prog W0 M 11 [s.v] W K:=
 Aa2 (fun W' hE=>Gd4 (M:=fun _=>False) (hT.ext hE) (h.ext hE) hl hz) (fun W' v W'' hE hE' hP=>by
  obtain⟨s1,s2,ok,rfl,h⟩:=hP
  exact kont s1 s2 ok W'' (hE.trans hE') h)
end Go.Proofs.YtokefihiadbkbaaGreatDoor
/- cincturelaw8.PolyLeibniz. -/
namespace Go.Proofs.YtokefihiadbkbaaGreatDoor
open Go Go.SX
end Go.Proofs.YtokefihiadbkbaaGreatDoor
/- cincturelaw9.alive, Inside. -/
namespace Go.Proofs.YtokefihiadbkbaaGreatDoor
open Go Go.SX
def b9a:ByteArray:=⟨⟨[48]⟩⟩
def b9b:ByteArray:=⟨⟨[49]⟩⟩
theorem Er6:Ab7 b9a=some 0:=by
 have h1:Ak5 b9a=none:=by decide
 have h2:Ac3 b9a=some 0:=by decide
 unfold Ab7
 rw[h1,h2];rfl
theorem Ed8:Ab7 b9b=some 1:=by
 have h1:Ak5 b9b=none:=by decide
 have h2:Ac3 b9b=some 1:=by decide
 unfold Ab7
 rw[h1,h2];rfl
theorem Fn4:spP b9a b9b=some (0,1):=by
 unfold spP
 rw[Er6,Ed8]
 rfl
def pr9:List (ByteArray×ByteArray):=[(b9a,b9b)]
theorem Ev3:Br9 pr9:=⟨by decide,by decide,fun t ht=>by
 rw[List.mem_singleton.1 ht]
 exact⟨(0,1),Fn4,by decide +kernel,by decide +kernel,by decide +kernel⟩⟩
def al9:List Tm:=[(⟨1,0,0⟩,-1),(⟨2,0,0⟩,1)]
theorem Fj2:Ct4 (Dc6 0) (Dc6 0):=by decide +kernel
theorem Fj1:Ag2 ([(⟨2,0,0⟩,1)] ++ pmap (Dc6 0) (-1))=al9:=by decide +kernel
theorem Da2:An3 al9 [(0,1)]:=by decide +kernel
theorem Fm7:Bd 7 al9:=by
 refine(Bd.Co7 (k:=1) ?_).mono (by decide)
 intro t ht
 simp only[al9,List.mem_cons,List.not_mem_nil,or_false] at ht
 rcases ht with rfl | rfl
 ·exact Fn8
 ·exact Fl0
theorem Fh8:Fm8 (Dc6 0) (Dc6 0) = [(⟨2,0,0⟩,1)]:=by decide +kernel
theorem Fg2:Bd 7 [(⟨2,0,0⟩,1)]:=(Cq4 (m:=⟨2,0,0⟩) Fl0).mono (by decide)
theorem Fj8:BxN 7 1 al9 [(0,1)] where
 bd:=Fm7
 sd x hx:=by rw[List.mem_singleton.1 hx];exact⟨Sz.zero (Nat.le_refl 1),Fl0⟩
 ok t ht:=by
  simp only[al9,List.mem_cons,List.not_mem_nil,or_false] at ht
  rcases ht with rfl | rfl<;>decide
 len:=by decide
 k1:=by decide
 m1:=by decide
 bl:=by decide
end Go.Proofs.YtokefihiadbkbaaGreatDoor
/- law10: alive, tops. -/
namespace Go.Proofs.YtokefihiadbkbaaGreatDoor
open Go Go.SX
theorem Ip3:Ie8 al9 [((0:Rat),(1:Rat))].length = [2]:=by decide +kernel
theorem Ix3:Ii7 al9 [((0:Rat),(1:Rat))]:=⟨Da2,by rw[Ip3];decide +kernel⟩
def Iz2:Nat→Rat:=Iw7 [2] [((0:Rat),(1:Rat))] (ten [2] al9 2) 1
theorem Jc2:Iz2 0=0:=by decide +kernel
theorem Jc1:Iz2 1 = -1/2:=by decide +kernel
theorem Jc8:Iz2 2=0:=by decide +kernel
theorem Jd9:Ed0 (-1/2)=⟨#[45,49,47,50]⟩:=by decide +kernel
theorem Jd6:Sz 1 (-1/2:Rat):=⟨by decide +kernel,by decide +kernel⟩
theorem Im1 {W0:PW} {M:Nat→Prop} (hT:Ac6 W0):
  Aa0 Tryz.prog 13 [] W0 M fun v W'=>v = .bool true∧True:=by
 apply Ii2
 intro s1 W2 hE2 hO1 _
 refine Cg0 (Lt:=pr9) (hT.ext hE2) ⟨_,hO1.row⟩ (by decide) (by decide) fun s5 i6 bs W4 hE4 ⟨q1,q2,_,q4⟩=>⟨s5,i6,rfl,?_⟩
 have hi:=q4 Ev3
 obtain⟨k1,k2,k3⟩:=q2 hi
 have hbs:bs = [(0,1)]:=by
  refine Eu1 k2 rfl k3 fun i h1 h2=>?_
  have:i=0:=by have:i<1:=h1;omega
  subst this
  exact Fn4
 subst hbs
 refine Cr4 (i:=0) fun s9 W8 hE8 h8=>⟨s9,rfl,?_⟩
 refine Ct0 h8 h8 En2 En2 (by omega) (by decide) (by decide) (by decide) fun s12 W11 hE11 h11=>⟨s12,_,rfl,?_⟩
 rw[Fh8] at h11
 refine Db2 h11 (h8.ext hE11) Fg2 En2 (by omega) (by decide) (by decide) fun s16 W15 hE15 h15=>⟨s16,rfl,?_⟩
 rw[Fj1] at h15
 refine Ik5 h15 (q1.ext (hE8.trans (hE11.trans hE15))) Fj8 (by omega) fun s19 W18 hE18 h18=>⟨s19,_,rfl,?_⟩
 rw[if_pos Ix3,Ip3] at h18
 have h18:Gv6 231 42 W18 s19 3 Iz2:=h18
 have hn:=h18.n
 refine⟨fun _=>⟨fun _=>⟨fun _=>⟨fun h3=>?_,fun h3=>absurd (show((s19.n:Nat):Int)=3 by omega) h3⟩,fun e=>absurd e (by rw[decide_eq_true Ix3];decide)⟩,fun e=>absurd e (by rw[decide_eq_true Fj2];decide)⟩,fun e=>absurd hi e⟩
 obtain⟨s21,b22,s23,e0,g0⟩:=h18.at (i:=0) (by omega)
 rw[Jc2] at g0
 refine⟨h18.inB (by omega) (by omega),s21,b22,s23,e0,Bk6 g0 (Sz.zero (Nat.le_refl 1)) (by omega) fun W25 hE25 _=>⟨_,rfl,fun _=>?_,fun e=>absurd (Hv6.2 rfl) e⟩⟩
 obtain⟨s27,b28,s29,e1,g1⟩:=(h18.ext hE25).at (i:=1) (by omega)
 rw[Jc1] at g1
 refine⟨h18.inB (by omega) (by omega),s27,b28,s29,e1,Dc4 g1 Jd6 (by omega) fun W31 hE31 _=>⟨_,rfl,fun _=>?_,fun e=>absurd Jd9 e⟩⟩
 obtain⟨s33,b34,s35,e2,g2⟩:=(h18.ext (hE25.trans hE31)).at (i:=2) (by omega)
 rw[Jc8] at g2
 exact⟨h18.inB (by omega) (by omega),s33,b34,s35,e2,Bk6 g2 (Sz.zero (Nat.le_refl 1)) (by omega) fun W37 hE37 _=>⟨_,rfl,fun W39 _=>⟨congrArg Value.bool (decide_eq_true (Hv6.2 rfl)),trivial⟩⟩⟩
theorem Ii9 {W0 W:PW} {M:Nat→Prop} {K:Value→PW→Prop} (hT:Ac6 W) (kont: ∀(W':PW),Ext W W'→(True)→K (.bool true) W'):
  Aa1 Tryz.prog W0 M 13 [] W K:=
 Aa2 (fun W' hE=>Im1 (M:=fun _=>False) (hT.ext hE)) (fun W' v W'' hE hE' hP=>by
  obtain⟨rfl,h⟩:=hP
  exact kont W'' (hE.trans hE') h)
end Go.Proofs.YtokefihiadbkbaaGreatDoor
/- cincturebook.Within, cincturelaw9.Inside: what they come to. -/
namespace Go.Proofs.YtokefihiadbkbaaGreatDoor
open Go Go.SX
end Go.Proofs.YtokefihiadbkbaaGreatDoor
/- What the rows of chapter 10 share. -/
namespace Go.Proofs.YtokefihiadbkbaaGreatDoor
open Go Go.SX
theorem Jo4 {e:Int} {p:List Tm} (h:Gk4 e p) (he:0≤e) {t:Tm} (ht:t∈p) (i:Int):Fv8 i t.1≤e:=by
 obtain⟨_,h1,h2,h3⟩:=h t ht
 unfold Fv8 An6
 (repeat' split)<;>omega
theorem Jn5 {e:Int} {p:List Tm} (h:Gk4 e p) (he:0≤e) (i:Int):0≤Fd0 (Fv8 i) 0 p∧Fd0 (Fv8 i) 0 p≤e:=⟨(Hv3 (w:=Fv8 i) (n:=0) (p:=p)).1,Hx0 he fun t ht=>Jo4 h he ht i⟩
theorem Jp2 {e:Int} {p:List Tm} {bs:List Iv} (h:Gk4 e p) (he:0≤e) (he2:e≤16) (hB:Cn7 bs):Ie1 (Ie8 p bs.length):=by
 refine⟨fun z hz=>?_,by rw[Io1];exact hB.1.1,by rw[Io1];exact hB.1.2⟩
 obtain⟨i,_,rfl⟩:=List.mem_map.1 hz
 have:=Jn5 h he (i:Int)
 omega
theorem Jp6 {p:List Tm} {bs:List Iv} {k m:Nat} (hz:BxN k m p bs) (h:Ii7 p bs):IvS (k+1200000) (Jo0 (Jk3 p bs) (stN (Ie8 p bs.length) bs.length)):=Jl2 (Jj3 hz h (Jk0 p bs)) _ fun _ hi=>Jj3 hz h hi
end Go.Proofs.YtokefihiadbkbaaGreatDoor
/- Values of sums, of multiples, of variables: plain law. -/
namespace Go.Proofs.YtokefihiadbkbaaGreatDoor
open Go Go.SX
theorem Gw0 (u:Pt) (p q:List Tm):atQ u (p ++ q)=atQ u p+atQ u q:=by rw[Gf3,Gf3,Gf3,Gl3]
theorem Gy3 (u:Pt) (p:List Tm) (r:Rat):atQ u (pmap p r)=r*atQ u p:=by rw[Gf3,Gf3];exact Gs4 _ r p
theorem Gn5 (u:Pt) (p:List Tm):atQ u (Ag2 p)=atQ u p:=by rw[Gf3,Gf3,Gi6]
theorem Gz3 (u:Pt) {i:Nat} (hi:i<3):atQ u (Dc6 (i:Int))=u.get i:=by
 have e:Dc6 (i:Int) = [(Da3 i,1)]:=by unfold Dc6;rw[if_pos ⟨by omega,by omega⟩,Int.toNat_natCast]
 rw[e]
 show 0+1*u.get 0^(An6 (Da3 i) 0).toNat*u.get 1^(An6 (Da3 i) 1).toNat*u.get 2^(An6 (Da3 i) 2).toNat=u.get i
 rcases(by omega:i=0∨i=1∨i=2) with rfl | rfl | rfl
 ·show 0+1*u.get 0^1*u.get 1^0*u.get 2^0=u.get 0
  simp only[Rat.pow_zero,Rat.pow_succ]
  grind
 ·show 0+1*u.get 0^0*u.get 1^1*u.get 2^0=u.get 1
  simp only[Rat.pow_zero,Rat.pow_succ]
  grind
 ·show 0+1*u.get 0^0*u.get 1^0*u.get 2^1=u.get 2
  simp only[Rat.pow_zero,Rat.pow_succ]
  grind
end Go.Proofs.YtokefihiadbkbaaGreatDoor
/- A polynomial of degree 1 on a box: plain law. -/
namespace Go.Proofs.YtokefihiadbkbaaGreatDoor
open Go Go.SX
theorem Hy1 (x:Iv):Cb5 x (0,0)=x:=Prod.ext (Rat.add_zero _) (Rat.add_zero _)
theorem Hy2 (x:Iv):Cb5 (0,0) x=x:=Prod.ext (Rat.zero_add _) (Rat.zero_add _)
theorem Hz8 (x y z:Iv):Cb5 (Cb5 x y) z=Cb5 x (Cb5 y z):=Prod.ext (Rat.add_assoc _ _ _) (Rat.add_assoc _ _ _)
theorem Ia7 (x y z:Iv):Cb5 x (Cb5 y z)=Cb5 y (Cb5 x z):=Prod.ext (Rat.add_left_comm _ _ _) (Rat.add_left_comm _ _ _)
def Ib5 (l:Nat→Iv) (p:List Tm):List Mon→Iv
 | []=>(0,0)
 | m :: ms=>Cb5 (Ci9 l (m,Aj5 p m) 3) (Ib5 l p ms)
theorem Ia2 (l:Nat→Iv): ∀ms:List Mon,Ib5 l [] ms=(0,0)
 | []=>rfl
 | m :: ms=>by rw[Ib5,Ia2 l ms,Hv2 l (t:=(m,Aj5 [] m)) rfl];exact Hy1 _
theorem Hz7 (l:Nat→Iv) {t:Tm} {r:List Tm} (h0:Aj5 r t.1=0): ∀{ms:List Mon} (_:ms.Nodup),Ib5 l (t :: r) ms=if t.1∈ms then Cb5 (Ci9 l t 3) (Ib5 l r ms) else Ib5 l r ms
 | [],_=>by rw[if_neg (by simp)];rfl
 | m :: ms,hn=>by
  obtain⟨h1,h2⟩:=List.nodup_cons.1 hn
  have ih:=Hz7 l h0 h2
  rw[Ib5,Ib5,ih,Aj5]
  by_cases e:t.1=m
  ·subst e
   rw[if_pos rfl,if_neg h1,if_pos (by simp),h0,Rat.add_zero,Hv2 l (t:=(t.1,0)) rfl,Hy2]
  ·rw[if_neg e,Rat.zero_add]
   by_cases hm:t.1∈ms
   ·rw[if_pos hm,if_pos (by simp[hm]),Ia7]
   ·rw[if_neg hm,if_neg (by simp[hm,e])]
theorem Hz5 (l:Nat→Iv): ∀{p:List Tm} (_:Av6 p) {ms:List Mon} (_:ms.Nodup) (_: ∀t∈p,t.1∈ms),ovS l p=Ib5 l p ms
 | [],_,ms,_,_=>(Ia2 l ms).symm
 | t :: r,h,ms,hn,hm=>by
  have hs:=List.pairwise_cons.1 h.srt
  have h0:=Av5 (l:=r) (m:=t.1) fun x hx e=>Mon.Eg6 (hs.1 x hx) e.symm
  rw[ovS,Hz5 l h.tail hn (fun u hu=>hm u (by simp[hu])),Hz7 l h0 hn,if_pos (hm t (by simp))]
def Hy3 (w:Pt):Nat→List Tm
 | 0=>[]
 | j+1=>Ag2 (Hy3 w j ++ Ag2 (pmap (Dc6 (j:Int)) (w.get j)))
theorem Hy6 (w:Pt): ∀n,Av6 (Hy3 w n)
 | 0=>Av6.nil
 | n+1=>Ce8 _
theorem Ia0 (w:Pt): ∀n,n≤3→(Hy3 w n).length≤n
 | 0,_=>Nat.le_refl _
 | n+1,h=>by
  have h1:=El2 (Hy3 w n ++ Ag2 (pmap (Dc6 (n:Int)) (w.get n)))
  have h2:=El2 (pmap (Dc6 (n:Int)) (w.get n))
  have h3:=Ia0 w n (by omega)
  have e:(Dc6 (n:Int)).length=1:=by unfold Dc6;rw[if_pos ⟨by omega,by omega⟩];rfl
  rw[Ew2,e] at h2
  rw[List.length_append] at h1
  rw[Hy3]
  omega
theorem Ic3 (i:Nat):(Da3 i).ok:=by unfold Da3 Mon.ok;(repeat' split)<;>decide
theorem Hy8 (w:Pt): ∀n,n≤3→∀t∈Hy3 w n,∃i,i<n∧t.1=Da3 i
 | 0,_,t,ht=>by cases ht
 | n+1,h,t,ht=>by
  obtain⟨u,hu,e⟩:=Gu2 ht
  rcases List.mem_append.1 hu with hu | hu
  ·obtain⟨i,hi,e2⟩:=Hy8 w n (by omega) u hu
   exact⟨i,by omega,e.trans e2⟩
  ·obtain⟨v,hv,e2⟩:=Gu2 hu
   have e3:Dc6 (n:Int) = [(Da3 n,1)]:=by unfold Dc6;rw[if_pos ⟨by omega,by omega⟩,Int.toNat_natCast]
   rw[e3] at hv
   have:v=(Da3 n,1*w.get n):=by simpa[pmap] using hv
   exact⟨n,by omega,by rw[e,e2,this]⟩
theorem Ib3 (w:Pt) {n:Nat} (hn:n≤3):POk (Hy3 w n):=fun t ht=>by
 obtain⟨i,_,e⟩:=Hy8 w n hn t ht
 rw[e]
 exact Ic3 i
theorem Ib2 {w:Pt} (hw: ∀i,Sz 3 (w.get i)): ∀n,Bd (1+12*n) (Hy3 w n)
 | 0=>⟨1,0,trivial,by decide,by rw[Ax0];omega,by rw[Ag9];omega⟩
 | n+1=>by
  have hv:Bd 4 (Dc6 (n:Int)):=by
   unfold Dc6
   split
   ·exact Cq4 (Sz.one (Nat.le_refl 1))
   ·exact⟨1,0,trivial,by decide,by rw[Ax0];omega,by rw[Ag9];omega⟩
  exact((Ib2 hw n).append (Bd.pmap hv (hw n)).norm).norm.mono (by omega)
theorem Ib7 {i j:Nat} (hi:i<3) (hj:j<3) (h:Da3 i=Da3 j):i=j:=by
 rcases(by omega:i=0∨i=1∨i=2) with rfl | rfl | rfl<;>rcases(by omega:j=0∨j=1∨j=2) with rfl | rfl | rfl<;>first | rfl | exact absurd h (by decide)
def lco (w:Pt) (n i:Nat):Rat:=if i<n then w.get i else 0
theorem Hy5 (w:Pt): ∀n,n≤3→∀i,i<3→Aj5 (Hy3 w n) (Da3 i)=lco w n i
 | 0,_,i,_=>by unfold lco;rw[if_neg (by omega)];rfl
 | n+1,h,i,hi=>by
  rw[Hy3,Bh2,Au2,Bh2,Hy5 w n (by omega) i hi]
  have e3:Dc6 (n:Int) = [(Da3 n,1)]:=by unfold Dc6;rw[if_pos ⟨by omega,by omega⟩,Int.toNat_natCast]
  rw[e3]
  show lco w n i+((if Da3 n=Da3 i then 1*w.get n else 0)+0)=lco w (n+1) i
  unfold lco
  by_cases e:i=n
  ·subst e
   rw[if_neg (by omega),if_pos rfl,if_pos (by omega)]
   grind
  ·rw[if_neg (c:=Da3 n=Da3 i) fun h'=>e (Ib7 (by omega) hi h').symm]
   by_cases h2:i<n
   ·rw[if_pos h2,if_pos (by omega)];grind
   ·rw[if_neg h2,if_neg (by omega)];grind
theorem Hy7 (x:Iv) (r:Rat):Ay9 (Eb6 r) x=De8 x r:=by
 simp only[Ay9,Bu9,Ag0,De8,Eb6,Prod.mk.injEq]
 rw[Rat.mul_comm r,Rat.mul_comm r]
 unfold Az9 Au7
 constructor<;>grind
theorem Hz1 {x:Iv} (h:x.1≤x.2):Ai3 x 1=x:=by
 unfold Ai3
 rw[if_neg (by omega)]
 unfold Ag0
 rw[show x.1^1=x.1 by rw[Rat.pow_succ,Rat.pow_zero,Rat.one_mul],show x.2^1=x.2 by rw[Rat.pow_succ,Rat.pow_zero,Rat.one_mul],(Ht1 h).1,(Ht1 h).2]
theorem Hz2 {x:Iv} (h:x.1≤x.2):De8 x 1=x:=by rw[Ht2 (by decide +kernel) h,Rat.mul_one,Rat.mul_one]
theorem Hz9 {l:Nat→Iv} (h: ∀i,(l i).1≤(l i).2) (c:Rat) {i:Nat} (hi:i<3):Ci9 l (Da3 i,c) 3=De8 (l i) c:=by
 rw[Ht4]
 congr 1
 rcases(by omega:i=0∨i=1∨i=2) with rfl | rfl | rfl
 ·show Ay9 (Eb6 1) (Ai3 (l 0) 1)=l 0
  rw[Hz1 (h 0),Hy7,Hz2 (h 0)]
 ·show Ay9 (Eb6 1) (Ai3 (l 1) 1)=l 1
  rw[Hz1 (h 1),Hy7,Hz2 (h 1)]
 ·show Ay9 (Eb6 1) (Ai3 (l 2) 1)=l 2
  rw[Hz1 (h 2),Hy7,Hz2 (h 2)]
def scS (w:Pt) (l:Nat→Iv):Nat→Iv
 | 0=>(0,0)
 | j+1=>Cb5 (scS w l j) (De8 (l j) (w.get j))
theorem Ia4 {l:Nat→Iv} (h: ∀i,(l i).1≤(l i).2) (w:Pt) {n:Nat} (hn:n≤3):Aq8 l (Hy3 w n)=scS w l n:=by
 rw[Gc3,Hz5 l (Hy6 w n) (ms:=[Da3 0,Da3 1,Da3 2]) (by decide) fun t ht=>by
  obtain⟨i,hi,e⟩:=Hy8 w n hn t ht
  rw[e]
  rcases(by omega:i=0∨i=1∨i=2) with rfl | rfl | rfl<;>simp]
 simp only[Ib5]
 rw[Hy5 w n hn 0 (by omega),Hy5 w n hn 1 (by omega),Hy5 w n hn 2 (by omega),Hz9 h _ (by omega),Hz9 h _ (by omega),Hz9 h _ (by omega),Hy1]
 unfold lco
 rcases(by omega:n=0∨n=1∨n=2∨n=3) with rfl | rfl | rfl | rfl
 ·simp only[scS,Hu5,Hy1,Nat.not_lt_zero,if_false]
 ·rw[if_pos (by omega),if_neg (by omega),if_neg (by omega)]
  simp only[scS,Hu5,Hy1,Hy2]
 ·rw[if_pos (by omega),if_pos (by omega),if_neg (by omega)]
  simp only[scS,Hu5,Hy1,Hy2]
 ·rw[if_pos (by omega),if_pos (by omega),if_pos (by omega)]
  simp only[scS,Hy2,Hz8]
theorem Id0 (u w:Pt): ∀n,n≤3→atQ u (Hy3 w (n+1))=atQ u (Hy3 w n)+w.get n*u.get n∨n=3
 | n,h=>by
  by_cases e:n=3
  ·exact .inr e
  ·refine .inl ?_
   rw[Hy3,Gn5,Gw0,Gn5,Gy3,Gz3 u (by omega)]
def Ia6 (u w:Pt):Nat→Rat
 | 0=>0
 | j+1=>Ia6 u w j+w.get j*u.get j
theorem Hz6 (u w:Pt): ∀n,n≤3→atQ u (Hy3 w n)=Ia6 u w n
 | 0,_=>rfl
 | n+1,h=>by
  rcases Id0 u w n (by omega) with e | e
  ·rw[e,Hz6 u w n (by omega),Ia6]
  ·omega
def loC (w:Pt) (l:Nat→Iv) (k:Nat):Rat:=if w.get k<0 then(l k).2 else(l k).1
def hiC (w:Pt) (l:Nat→Iv) (k:Nat):Rat:=if w.get k<0 then(l k).1 else(l k).2
theorem Ic5 {l:Nat→Iv} (h: ∀i,(l i).1≤(l i).2) (w:Pt) {u v:Pt} : ∀n,(∀i,i<n→u.get i=loC w l i∧v.get i=hiC w l i)→Ia6 u w n=(scS w l n).1∧Ia6 v w n=(scS w l n).2
 | 0,_=>⟨rfl,rfl⟩
 | n+1,hc=>by
  obtain⟨h1,h2⟩:=Ic5 h w n fun i hi=>hc i (by omega)
  obtain⟨e1,e2⟩:=hc n (by omega)
  rw[Ia6,Ia6,h1,h2,e1,e2,scS]
  unfold loC hiC
  by_cases hw:w.get n<0
  ·rw[if_pos hw,if_pos hw,Ht3 (Rat.le_of_lt hw) (h n)]
   exact⟨by show _=(scS w l n).1+(l n).2*w.get n;grind,by show _=(scS w l n).2+(l n).1*w.get n;grind⟩
  ·rw[if_neg hw,if_neg hw,Ht2 (Rat.not_lt.1 hw) (h n)]
   exact⟨by show _=(scS w l n).1+(l n).1*w.get n;grind,by show _=(scS w l n).2+(l n).2*w.get n;grind⟩
end Go.Proofs.YtokefihiadbkbaaGreatDoor
