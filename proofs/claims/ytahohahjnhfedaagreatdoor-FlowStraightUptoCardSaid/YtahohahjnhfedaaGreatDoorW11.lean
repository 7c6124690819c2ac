/- box.Parse; the reference's; cincturelaw6.Of. -/
import Derived.Test.YtahohahjnhfedaaGreatDoorW10
import Derived.Test.YtahohahjnhfedaaGreatDoorLib4
import Derived.Test.YtahohahjnhfedaaGreatDoorW8
import Derived.Test.YtahohahjnhfedaaGreatDoorCards
import Derived.Test.YtahohahjnhfedaaGreatDoorTie
import Derived.Deep.DeepHandedRow
import Derived.Lib.LaidTab
set_option linter.unusedVariables false
set_option linter.unusedSimpArgs false
set_option maxRecDepth 100000
namespace Go.Proofs.YtahohahjnhfedaaGreatDoor
open Go Go.SX
theorem Fi3 {a b:ByteArray} :IvS 4000 ((spP a b).getD (0,0)):=by
 cases e:spP a b with
 | none=>exact⟨Sz.zero (by omega),Sz.zero (by omega)⟩
 | some x=>
  obtain⟨p1,p2,p3⟩:=Dp3 e
  exact⟨(Aw6 p1).1,(Aw6 p2).1⟩
theorem Eb3 {W0:PW} {M:Nat→Prop} {a b:ByteArray} (hT:Ac6 W0) (ha:a.size≤1099511627776) (hb:b.size≤1099511627776):
  Aa0 Tryz.prog 50 [.agg ⟨[.string a,.string b]⟩] W0 M fun v W'=>∃(l:List Value),∃(i:Int),∃(x:Iv),v = .tuple ⟨[.agg ⟨l⟩,.int .i64 i]⟩∧SpV 141 W' l x∧(i=0→spP a b=some x∧x.1<x.2)∧(∀y,spP a b=some y→y.1<y.2→y.1.den=1→y.2.den=1→i=0):=by
 apply Cq0
 refine Az3 ha hb fun l e W2 hE2 ⟨h2,he⟩=>?_
 obtain⟨s3,b4,s5,s6,b7,s8,rfl,q1,q2⟩:=h2
 have hz:=@Fi3 a b
 refine⟨s3,b4,s5,s6,b7,s8,e,rfl,?_⟩
 refine Bx3 (hT.ext hE2) q1 hz.1 fun s12 b13 i14 b15 W11 hE11 ok1=>⟨s12,b13,i14,b15,rfl,?_⟩
 refine Bx3 (hT.ext (hE2.trans hE11)) (q2.ext hE11) hz.2 fun s18 b19 i20 b21 W17 hE17 ok2=>⟨s18,b19,i20,b21,rfl,fun hne W22 _=>⟨_,e,(0,0),rfl,SpV.zero W22,fun h=>absurd h hne,fun y hy _ _ _=>absurd (he.2 (by rw[hy];rfl)) hne⟩,fun h0=>?_⟩
 have E:=hE11.trans hE17
 refine Aj2 (q1.ext E) (q2.ext E) hz.1 hz.2 (by omega) (by omega) fun W24 hE24 _=>⟨_,rfl,fun hc W26 _=>⟨_,1,(0,0),rfl,SpV.zero W26,fun h=>by omega,fun y hy hlt _ _=>by rw[hy] at hc;exact absurd (El9.1 hc) (Rat.not_le.2 hlt)⟩,fun hc=>⟨fun h1 W27 _=>⟨_,2,(0,0),rfl,SpV.zero W27,fun h=>by omega,fun y hy _ d1 _=>by rw[hy] at ok1;rw[ok1 d1] at h1;exact absurd h1 (by decide)⟩,fun _=>⟨fun h2 W28 _=>⟨_,2,(0,0),rfl,SpV.zero W28,fun h=>by omega,fun y hy _ _ d2=>by rw[hy] at ok2;rw[ok2 d2] at h2;exact absurd h2 (by decide)⟩,fun _ W29 hE29=>?_⟩⟩⟩
 obtain⟨x,hx⟩:=Option.isSome_iff_exists.1 (he.1 (Decidable.not_not.1 h0))
 rw[hx] at q1 q2 hc
 have hc:¬0≤Co4 x.1 x.2:=hc
 have E2:=E.trans (hE24.trans hE29)
 exact⟨_,0,x,rfl,⟨s3,b4,s5,s6,b7,s8,rfl,q1.ext E2,q2.ext E2⟩,fun _=>⟨hx,At6.1 (by omega)⟩,fun _ _ _ _ _=>rfl⟩
theorem Cq6 {W0 W:PW} {M:Nat→Prop} {a b:ByteArray} {K:Value→PW→Prop} (hT:Ac6 W) (ha:a.size≤1099511627776) (hb:b.size≤1099511627776) (kont: ∀(l:List Value) (i:Int) (x:Iv) (W':PW),Ext W W'→(SpV 141 W' l x∧(i=0→spP a b=some x∧x.1<x.2)∧(∀y,spP a b=some y→y.1<y.2→y.1.den=1→y.2.den=1→i=0))→K (.tuple ⟨[.agg ⟨l⟩,.int .i64 i]⟩) W'):
  Aa1 Tryz.prog W0 M 50 [.agg ⟨[.string a,.string b]⟩] W K:=
 Aa2 (fun W' hE=>Eb3 (M:=fun _=>False) (hT.ext hE) ha hb) (fun W' v W'' hE hE' hP=>by
  obtain⟨l,i,x,rfl,h⟩:=hP
  exact kont l i x W'' (hE.trans hE') h)
def bxI (W0:PW) (Lt:List (ByteArray×ByteArray)) (L:List PL) (W:PW):Prop:=match L with
 | [.row l,.val (.int .i64 z)]=>∃(j:Nat) (m:List Iv),z=(j:Int)∧j≤Lt.length∧Ext W0 W∧m.length=j∧An5 (SpV 141 W) l m∧(∀i (hi:i<m.length) (hi':i<Lt.length),spP Lt[i].1 Lt[i].2=some m[i])∧∀x∈m,x.1<x.2
 | _=>False
def Gf1 (W0:PW) (Lt:List (ByteArray×ByteArray)) (L:List PL) (W:PW):Prop:=match L with
 | [.row l,.val (.int .i64 z)]=>∃(j:Nat) (m:List Iv),z=(j:Int)∧j≤Lt.length∧Ext W0 W∧m.length=j∧An5 (Ah6 141 W) l m∧(∀i (hi:i<m.length) (hi':i<Lt.length),spP Lt[i].1 Lt[i].2=some m[i])
 | _=>False
def cnD (n:Nat) (L:List PL) (_:PW):Nat:=match L with
 | [_,.val (.int .i64 z)]=>n-z.toNat
 | _=>0
theorem Bs7.ext {W W':PW} {s:Sl} {L:List (ByteArray×ByteArray)} (h:Bs7 W s L) (hE:Ext W W'):Bs7 W' s L:=let⟨ty,h⟩:=h;⟨ty,h.ext hE⟩
theorem Bs7.n {W:PW} {s:Sl} {L:List (ByteArray×ByteArray)} (h:Bs7 W s L):s.n=L.length:=let⟨ty,h⟩:=h;by have:=h.1;rwa [List.length_map] at this
theorem Bs7.inB {W:PW} {s:Sl} {L:List (ByteArray×ByteArray)} (h:Bs7 W s L) {i:Int} (h0:0≤i) (h1:i<(L.length:Int)):SX.inB s i:=let⟨ty,h⟩:=h;Row.inB h h0 (by rw[List.length_map];exact h1)
theorem Bs7.part {W:PW} {s:Sl} {L:List (ByteArray×ByteArray)} (h:Bs7 W s L) {i:Nat} (hi:i<L.length) (off:Nat) {m:List Value} (hm:((prc L[i]).drop off).take m.length=m):Aa7 W s 2 i off m:=let⟨ty,h⟩:=h;Row.part h (x:=prc L[i]) (by rw[List.getElem?_map,List.getElem?_eq_getElem hi];rfl) off hm
theorem Fc1 {m:List Iv} {x:Iv} {Lt:List (ByteArray×ByteArray)} (h: ∀i (hi:i<m.length) (hi':i<Lt.length),spP Lt[i].1 Lt[i].2=some m[i]) (hl:m.length<Lt.length) (hx:spP Lt[m.length].1 Lt[m.length].2=some x): ∀i (hi:i<(m ++ [x]).length) (hi':i<Lt.length),spP Lt[i].1 Lt[i].2=some (m ++ [x])[i]:=fun i hi hi'=>by
 by_cases e:i<m.length
 ·rw[List.getElem_append_left e]
  exact h i e hi'
 ·have:i=m.length:=by simp at hi;omega
  subst this
  rw[List.getElem_concat_length rfl]
  exact hx
def Br9 (Lt:List (ByteArray×ByteArray)):Prop:=1≤Lt.length∧Lt.length≤3∧∀t∈Lt,∃y,spP t.1 t.2=some y∧y.1<y.2∧y.1.den=1∧y.2.den=1
theorem Dd2 {W0:PW} {M:Nat→Prop} {s:Sl} {Lt:List (ByteArray×ByteArray)} (hT:Ac6 W0) (h:Bs7 W0 s Lt) (hl:Lt.length≤1099511627776) (hz: ∀t∈Lt,t.1.size≤1099511627776∧t.2.size≤1099511627776):
  Aa0 Tryz.prog 18 [s.v] W0 M fun v W'=>∃(s':Sl),∃(i:Int),∃(bs:List Iv),v = .tuple ⟨[Sl.v s',.int .i64 i]⟩∧Bc3 141 W' s' bs∧(i=0→Cn7 bs∧bs.length=Lt.length∧∀i (hi:i<bs.length) (hi':i<Lt.length),spP Lt[i].1 Lt[i].2=some bs[i])∧(i≠0→bs = [])∧(Br9 Lt→i=0):=by
 apply Ci3
 have hn:=h.n
 have bad: ∀(c:Int),c≠0→¬Br9 Lt→∀W':PW,∃(s':Sl) (i:Int) (bs:List Iv),(Value.tuple ⟨[.slice none 0 0,.int .i64 c]⟩) = .tuple ⟨[Sl.v s',.int .i64 i]⟩∧Bc3 141 W' s' bs∧(i=0→Cn7 bs∧bs.length=Lt.length∧∀i (hi:i<bs.length) (hi':i<Lt.length),spP Lt[i].1 Lt[i].2=some bs[i])∧(i≠0→bs = [])∧(Br9 Lt→i=0):=
  fun c hc hg W'=>⟨⟨none,0,0⟩,c,[],rfl,Dr1.nil W',fun e=>absurd e hc,fun _=>rfl,fun g=>absurd g hg⟩
 refine⟨fun h W1 _=>bad 1 (by omega) (fun g=>by have:=g.1;omega) W1,fun h1=>⟨fun h W2 _=>bad 1 (by omega) (fun g=>by have:=g.2.1;omega) W2,fun h3=>?_⟩⟩
 refine⟨bxI W0 Lt,cnD Lt.length,⟨0,[],rfl,Nat.zero_le _,Ext.refl _,rfl,trivial,fun i hi=>by simp at hi,fun x hx=>(by cases hx)⟩,?_⟩
 rintro l5 i6 W7 ⟨j,m,rfl,hj,hE7,hml,ha,hp,hlt⟩
 have hal:=ha.len
 refine⟨fun hlt'=>?_,fun hge s20 W21 hE21 hO21 _ W22 hE22=>⟨s20,0,m,rfl,⟨l5,⟨_,hO21.row.ext hE22⟩,ha.mono fun _ _ h=>h.ext (hE21.trans hE22)⟩,fun _=>⟨⟨by omega,hlt⟩,by omega,hp⟩,fun e=>absurd rfl e,fun _=>rfl⟩⟩
 have hjl:j<Lt.length:=by omega
 have h7:=h.ext hE7
 obtain⟨z1,z2⟩:=hz _ (List.getElem_mem hjl)
 refine⟨h7.inB (by omega) (by omega),Lt[j].1,Lt[j].2,h7.part hjl 0 rfl,?_⟩
 refine Cq6 (hT.ext hE7) z1 z2 fun l e x W11 hE11 ⟨hx,he,hgo⟩=>?_
 obtain⟨s12,b13,s14,s15,b16,s17,rfl,q1,q2⟩:=hx
 refine⟨s12,b13,s14,s15,b16,s17,e,rfl,fun hne W19 _=>bad e hne (fun g=>by obtain⟨y,y1,y2,y3,y4⟩:=g.2.2 _ (List.getElem_mem hjl);exact hne (hgo y y1 y2 y3 y4)) W19,fun h0=>?_⟩
 obtain⟨k1,k2⟩:=he (Decidable.not_not.1 h0)
 subst hml
 refine⟨by simp only[List.length_cons,List.length_nil];omega,by unfold I64;omega,⟨m.length+1,m ++ [x],by push_cast;rfl,by omega,hE7.trans hE11,by simp,(ha.mono fun _ _ h=>h.ext hE11).append ⟨⟨s12,b13,s14,s15,b16,s17,rfl,q1,q2⟩,trivial⟩,Fc1 hp hjl k1,fun y hy=>?_⟩,?_⟩
 ·rcases List.mem_append.1 hy with hy | hy
  ·exact hlt y hy
  ·rw[List.mem_singleton.1 hy];exact k2
 ·show Lt.length-Int.toNat ((m.length:Int)+1)<Lt.length-Int.toNat (m.length:Int)
  omega
theorem Cg0 {W0 W:PW} {M:Nat→Prop} {s:Sl} {Lt:List (ByteArray×ByteArray)} {K:Value→PW→Prop} (hT:Ac6 W) (h:Bs7 W s Lt) (hl:Lt.length≤1099511627776) (hz: ∀t∈Lt,t.1.size≤1099511627776∧t.2.size≤1099511627776) (kont: ∀(s':Sl) (i:Int) (bs:List Iv) (W':PW),Ext W W'→(Bc3 141 W' s' bs∧(i=0→Cn7 bs∧bs.length=Lt.length∧∀i (hi:i<bs.length) (hi':i<Lt.length),spP Lt[i].1 Lt[i].2=some bs[i])∧(i≠0→bs = [])∧(Br9 Lt→i=0))→K (.tuple ⟨[Sl.v s',.int .i64 i]⟩) W'):
  Aa1 Tryz.prog W0 M 18 [s.v] W K:=
 Aa2 (fun W' hE=>Dd2 (M:=fun _=>False) (hT.ext hE) (h.ext hE) hl hz) (fun W' v W'' hE hE' hP=>by
  obtain⟨s',i,bs,rfl,h⟩:=hP
  exact kont s' i bs W'' (hE.trans hE') h)
theorem Gd2 {W0:PW} {M:Nat→Prop} {s:Sl} {x n:Nat} (h:Aa6 141 W0 s x) (hn:n≤1000000):
  Aa0 Tryz.prog 124 [s.v,.int .i64 (n:Int)] W0 M fun v W'=>∃(i:Int),v = .int .u32 i∧True:=by
 apply Ga8
 have hsn:=h.n
 have e1:Int.tdiv (n:Int) 32=((n/32:Nat):Int):=rfl
 have e2:Int.tmod (n:Int) 32=((n%32:Nat):Int):=rfl
 have e3:IntKind.wrap .i64 (Int.tdiv (n:Int) 32)=((n/32:Nat):Int):=by rw[e1];exact wrap_i64 (by unfold I64;omega)
 have e4:IntKind.wrap .u64 (Int.tmod (n:Int) 32)=((n%32:Nat):Int):=by rw[e2];exact wrap64 (by omega) (by omega)
 unfold Ga7
 rw[e3,e4]
 refine⟨fun hneg=>by omega,fun _=>⟨by decide,fun _ W2 _=>⟨_,rfl,trivial⟩,fun hlt=>?_⟩⟩
 have hll:(dg x).length=nl x:=rfl
 have hil:n/32<(dg x).length:=by omega
 refine⟨by decide,Ad4.inB h (by omega) (by omega),_,Ad4.at h hil,by decide,⟨by omega,?_⟩,fun W4 _=>⟨_,rfl,trivial⟩⟩
 show((n%32:Nat):Int)≤32
 omega
theorem Gb2 {W0 W:PW} {M:Nat→Prop} {s:Sl} {x n:Nat} {K:Value→PW→Prop} (h:Aa6 141 W s x) (hn:n≤1000000) (kont: ∀(i:Int) (W':PW),Ext W W'→(True)→K (.int .u32 i) W'):
  Aa1 Tryz.prog W0 M 124 [s.v,.int .i64 (n:Int)] W K:=
 Aa2 (fun W' hE=>Gd2 (M:=fun _=>False) (h.ext hE) hn) (fun W' v W'' hE hE' hP=>by
  obtain⟨i,rfl,h⟩:=hP
  exact kont i W'' (hE.trans hE') h)
theorem Ga9 {W0:PW} {M:Nat→Prop} {s:Sl} {x:Nat} (h:Aa6 141 W0 s x) (hx:nl x≤30000):
  Aa0 Tryz.prog 90 [s.v] W0 M fun v W'=>∃(i:Int),v = .int .i64 i∧(0≤i∧i≤960000):=by
 apply Fy7
 have hn:=h.n
 refine⟨fun L W=>match L with | [.val (.int .i64 z)]=>∃j:Nat,z=(j:Int)∧j≤32*nl x∧Ext W0 W | _=>False,(fun L _=>match L with | [.val (.int .i64 z)]=>32*nl x-z.toNat | _=>0),⟨0,rfl,Nat.zero_le _,Ext.refl _⟩,?_⟩
 rintro i3 W4 ⟨j,rfl,hj,hE4⟩
 refine⟨by unfold I64;omega,fun hlt=>?_,fun _ W9 _=>⟨_,rfl,by omega,by omega⟩⟩
 refine Gb2 (h.ext hE4) (by omega) fun i7 W6 hE6 _=>⟨i7,rfl,fun _=>⟨by unfold I64;omega,⟨j+1,by push_cast;rfl,by omega,hE4.trans hE6⟩,?_⟩,fun _ W8 _=>⟨_,rfl,by omega,by omega⟩⟩
 show 32*nl x-Int.toNat ((j:Int)+1)<32*nl x-Int.toNat (j:Int)
 omega
theorem Fz6 {W0 W:PW} {M:Nat→Prop} {s:Sl} {x:Nat} {K:Value→PW→Prop} (h:Aa6 141 W s x) (hx:nl x≤30000) (kont: ∀(i:Int) (W':PW),Ext W W'→((0≤i∧i≤960000))→K (.int .i64 i) W'):
  Aa1 Tryz.prog W0 M 90 [s.v] W K:=
 Aa2 (fun W' hE=>Ga9 (M:=fun _=>False) (h.ext hE) hx) (fun W' v W'' hE hE' hP=>by
  obtain⟨i,rfl,h⟩:=hP
  exact kont i W'' (hE.trans hE') h)
theorem Fz9 {W0:PW} {M:Nat→Prop} {b:Bool} {s t:Sl} {q:Rat} (h:Ab6 141 W0 b s t q) (hq:Sz 4000 q):
  Aa0 Tryz.prog 49 [.agg ⟨[.bool b,s.v,t.v]⟩] W0 M fun v W'=>∃(ok:Bool),v = .bool ok∧True:=by
 apply Fy0
 have hd:nl q.den≤4000:=hq.2
 have hbl:=Dm3 q.den
 refine Ag4 h fun s3 W2 hE2 h2=>⟨s3,rfl,Fz6 h2 (by omega) fun i6 W5 hE5 hi=>⟨i6,rfl,Ag4 (h.ext (hE2.trans hE5)) fun s9 W8 hE8 h8=>⟨s9,rfl,Bj8 h8 (by omega) fun W11 hE11 _=>⟨_,rfl,by unfold I64;omega,fun W13 _=>⟨_,rfl,trivial⟩⟩⟩⟩⟩
theorem Fx3 {W0 W:PW} {M:Nat→Prop} {b:Bool} {s t:Sl} {q:Rat} {K:Value→PW→Prop} (h:Ab6 141 W b s t q) (hq:Sz 4000 q) (kont: ∀(ok:Bool) (W':PW),Ext W W'→(True)→K (.bool ok) W'):
  Aa1 Tryz.prog W0 M 49 [.agg ⟨[.bool b,s.v,t.v]⟩] W K:=
 Aa2 (fun W' hE=>Fz9 (M:=fun _=>False) (h.ext hE) hq) (fun W' v W'' hE hE' hP=>by
  obtain⟨ok,rfl,h⟩:=hP
  exact kont ok W'' (hE.trans hE') h)
theorem Fy9 {W0:PW} {M:Nat→Prop} {s:Sl} {Lt:List (ByteArray×ByteArray)} (h:Bs7 W0 s Lt) (hl:Lt.length≤1099511627776) (hz: ∀t∈Lt,t.1.size≤1099511627776∧t.2.size≤1099511627776):
  Aa0 Tryz.prog 17 [s.v] W0 M fun v W'=>∃(s':Sl),∃(i:Int),∃(bs:List Iv),v = .tuple ⟨[Sl.v s',.int .i64 i]⟩∧Fx4 141 W' s' bs∧(i=0→bs.length=Lt.length∧1≤bs.length∧∀i (hi:i<bs.length) (hi':i<Lt.length),spP Lt[i].1 Lt[i].2=some bs[i]):=by
 apply Fx6
 have hn:=h.n
 have bad: ∀(c:Int),c≠0→∀W':PW,∃(s':Sl) (i:Int) (bs:List Iv),(Value.tuple ⟨[.slice none 0 0,.int .i64 c]⟩) = .tuple ⟨[Sl.v s',.int .i64 i]⟩∧Fx4 141 W' s' bs∧(i=0→bs.length=Lt.length∧1≤bs.length∧∀i (hi:i<bs.length) (hi':i<Lt.length),spP Lt[i].1 Lt[i].2=some bs[i]):=
  fun c hc W'=>⟨⟨none,0,0⟩,c,[],rfl,Dr1.nil W',fun e=>absurd e hc⟩
 refine⟨fun _ W1 _=>bad 1 (by omega) W1,fun h1=>⟨fun _ W2 _=>bad 1 (by omega) W2,fun h3=>?_⟩⟩
 refine⟨Gf1 W0 Lt,cnD Lt.length,⟨0,[],rfl,Nat.zero_le _,Ext.refl _,rfl,trivial,fun i hi=>by simp at hi⟩,?_⟩
 rintro l5 i6 W7 ⟨j,m,rfl,hj,hE7,hml,ha,hp⟩
 have hal:=ha.len
 refine⟨fun hlt'=>?_,fun hge s20 W21 hE21 hO21 _ W22 hE22=>⟨s20,0,m,rfl,⟨l5,⟨_,hO21.row.ext hE22⟩,ha.mono fun _ _ h=>h.ext (hE21.trans hE22)⟩,fun _=>⟨by omega,by omega,hp⟩⟩⟩
 have hjl:j<Lt.length:=by omega
 have h7:=h.ext hE7
 obtain⟨z1,z2⟩:=hz _ (List.getElem_mem hjl)
 refine⟨h7.inB (by omega) (by omega),Lt[j].1,Lt[j].2,h7.part hjl 0 rfl,?_⟩
 refine Bh8 z1 z2 fun l e W11 hE11 ⟨hx,he⟩=>?_
 obtain⟨b12,s13,s14,b15,s16,s17,rfl,q1,q2⟩:=hx
 have hzi:=@Fi3 Lt[j].1 Lt[j].2
 refine⟨b12,s13,s14,b15,s16,s17,e,rfl,fun hne W19 _=>bad e hne W19,fun h0=>?_⟩
 obtain⟨x,hx⟩:=Option.isSome_iff_exists.1 (he.1 (Decidable.not_not.1 h0))
 refine Ar1 q1 q2 hzi.1 hzi.2 (by omega) (by omega) fun W21 hE21 _=>⟨_,rfl,fun _ W23 _=>bad 1 (by omega) W23,fun _=>?_⟩
 refine Fx3 (q1.ext hE21) hzi.1 fun b26 W25 hE25 _=>⟨b26,rfl,fun _ W27 _=>bad 2 (by omega) W27,fun _=>?_⟩
 refine Fx3 (q2.ext (hE21.trans hE25)) hzi.2 fun b30 W29 hE29 _=>⟨b30,rfl,fun _ W31 _=>bad 2 (by omega) W31,fun _=>?_⟩
 rw[hx] at q1 q2
 have E:=hE21.trans (hE25.trans hE29)
 subst hml
 refine⟨by simp only[List.length_cons,List.length_nil];omega,by unfold I64;omega,⟨m.length+1,m ++ [x],by push_cast;rfl,by omega,hE7.trans (hE11.trans E),by simp,(ha.mono fun _ _ h=>h.ext (hE11.trans E)).append ⟨⟨b12,s13,s14,b15,s16,s17,rfl,q1.ext E,q2.ext E⟩,trivial⟩,Fc1 hp hjl hx⟩,?_⟩
 show Lt.length-Int.toNat ((m.length:Int)+1)<Lt.length-Int.toNat (m.length:Int)
 omega
theorem Fx9 {W0 W:PW} {M:Nat→Prop} {s:Sl} {Lt:List (ByteArray×ByteArray)} {K:Value→PW→Prop} (h:Bs7 W s Lt) (hl:Lt.length≤1099511627776) (hz: ∀t∈Lt,t.1.size≤1099511627776∧t.2.size≤1099511627776) (kont: ∀(s':Sl) (i:Int) (bs:List Iv) (W':PW),Ext W W'→(Fx4 141 W' s' bs∧(i=0→bs.length=Lt.length∧1≤bs.length∧∀i (hi:i<bs.length) (hi':i<Lt.length),spP Lt[i].1 Lt[i].2=some bs[i]))→K (.tuple ⟨[Sl.v s',.int .i64 i]⟩) W'):
  Aa1 Tryz.prog W0 M 17 [s.v] W K:=
 Aa2 (fun W' hE=>Fy9 (M:=fun _=>False) (h.ext hE) hl hz) (fun W' v W'' hE hE' hP=>by
  obtain⟨s',i,bs,rfl,h⟩:=hP
  exact kont s' i bs W'' (hE.trans hE') h)
theorem Ga5 {W0:PW} {M:Nat→Prop} {s:Sl} {Lt:List (ByteArray×ByteArray)} {n:Int} (h:Bs7 W0 s Lt) (hl:Lt.length≤1099511627776):
  Aa0 Tryz.prog 16 [s.v,.int .i64 n] W0 M fun v W'=>∃(b:Bool),v = .bool b∧(b=true→∀t∈Lt,t.1.size≤30∧t.2.size≤30):=by
 apply Fy6
 have hn:=h.n
 have bad: ∀W':PW,∃b:Bool,(Value.bool false) = .bool b∧(b=true→∀t∈Lt,t.1.size≤30∧t.2.size≤30):=fun W'=>⟨false,rfl,fun e=>by cases e⟩
 refine⟨fun _ W1 _=>bad W1,fun _=>⟨fun L W=>match L with | [.val (.int .i64 z)]=>∃j:Nat,z=(j:Int)∧j≤Lt.length∧Ext W0 W∧∀t∈Lt.take j,t.1.size≤30∧t.2.size≤30 | _=>False,(fun L _=>match L with | [.val (.int .i64 z)]=>Lt.length-z.toNat | _=>0),⟨0,rfl,Nat.zero_le _,Ext.refl _,fun t ht=>by simp at ht⟩,?_⟩⟩
 rintro i4 W5 ⟨j,rfl,hj,hE5,hall⟩
 have h5:=h.ext hE5
 refine⟨fun hlt=>?_,fun hge W10 _=>⟨true,rfl,fun _=>?_⟩⟩
 ·have hjl:j<Lt.length:=by omega
  have hib:=h5.inB (i:=(j:Int)) (by omega) (by omega)
  refine⟨hib,Lt[j].1,h5.part hjl 0 rfl,fun _ W7 _=>bad W7,fun h1=>⟨hib,Lt[j].2,h5.part hjl 1 rfl,fun _ W9 _=>bad W9,fun h2=>⟨by unfold I64;omega,⟨j+1,by push_cast;rfl,by omega,hE5,fun t ht=>?_⟩,?_⟩⟩⟩
  ·rw[List.take_succ_eq_append_getElem hjl] at ht
   rcases List.mem_append.1 ht with ht | ht
   ·exact hall t ht
   ·rw[List.mem_singleton.1 ht];omega
  ·show Lt.length-Int.toNat ((j:Int)+1)<Lt.length-Int.toNat (j:Int)
   omega
 ·have:j=Lt.length:=by omega
  subst this
  rwa [List.take_length] at hall
theorem Fy8 {W0 W:PW} {M:Nat→Prop} {s:Sl} {Lt:List (ByteArray×ByteArray)} {n:Int} {K:Value→PW→Prop} (h:Bs7 W s Lt) (hl:Lt.length≤1099511627776) (kont: ∀(b:Bool) (W':PW),Ext W W'→((b=true→∀t∈Lt,t.1.size≤30∧t.2.size≤30))→K (.bool b) W'):
  Aa1 Tryz.prog W0 M 16 [s.v,.int .i64 n] W K:=
 Aa2 (fun W' hE=>Ga5 (M:=fun _=>False) (h.ext hE) hl) (fun W' v W'' hE hE' hP=>by
  obtain⟨b,rfl,h⟩:=hP
  exact kont b W'' (hE.trans hE') h)
theorem Eu1 {bs bs':List Iv} {Lt:List (ByteArray×ByteArray)} (h:bs.length=Lt.length) (h':bs'.length=Lt.length) (k: ∀i (hi:i<bs.length) (hi':i<Lt.length),spP Lt[i].1 Lt[i].2=some bs[i]) (k': ∀i (hi:i<bs'.length) (hi':i<Lt.length),spP Lt[i].1 Lt[i].2=some bs'[i]):bs=bs':=by
 refine List.ext_getElem (by omega) fun i h1 h2=>?_
 have a:=k i h1 (by omega)
 rw[k' i h2 (by omega)] at a
 exact(Option.some.inj a).symm
theorem Gd5 {bs:List Iv} {Lt:List (ByteArray×ByteArray)} (h:bs.length=Lt.length) (k: ∀i (hi:i<bs.length) (hi':i<Lt.length),spP Lt[i].1 Lt[i].2=some bs[i]) (hs: ∀t∈Lt,t.1.size≤30∧t.2.size≤30): ∀x∈bs,IvS 4 x:=fun x hx=>by
 obtain⟨i,hi,rfl⟩:=List.getElem_of_mem hx
 obtain⟨p1,p2,_⟩:=Dp3 (k i hi (by omega))
 have:=hs _ (List.getElem_mem (l:=Lt) (n:=i) (by omega))
 exact⟨Ct3 p1 this.1,Ct3 p2 this.2⟩
theorem Gd4 {W0:PW} {M:Nat→Prop} {s:Sl} {Lt:List (ByteArray×ByteArray)} (hT:Ac6 W0) (h:Bs7 W0 s Lt) (hl:Lt.length≤1099511627776) (hz: ∀t∈Lt,t.1.size≤1099511627776∧t.2.size≤1099511627776):
  Aa0 Tryz.prog 4 [s.v] W0 M fun v W'=>∃(s1:Sl),∃(s2:Sl),∃(ok:Bool),v = .tuple ⟨[Sl.v s1,Sl.v s2,.bool ok]⟩∧(ok=true→∃bs:List Iv,Bc3 141 W' s1 bs∧Fx4 141 W' s2 bs∧Cn7 bs∧∀x∈bs,IvS 4 x):=by
 apply Gb5
 have bad: ∀W':PW,∃(s1 s2:Sl) (ok:Bool),(Value.tuple ⟨[.slice none 0 0,.slice none 0 0,.bool false]⟩) = .tuple ⟨[Sl.v s1,Sl.v s2,.bool ok]⟩∧(ok=true→∃bs:List Iv,Bc3 141 W' s1 bs∧Fx4 141 W' s2 bs∧Cn7 bs∧∀x∈bs,IvS 4 x):=fun W'=>⟨⟨none,0,0⟩,⟨none,0,0⟩,false,rfl,fun e=>by cases e⟩
 refine Fy8 h hl fun b3 W2 hE2 h30=>⟨b3,rfl,fun _ W4 _=>bad W4,fun hb3=>?_⟩
 refine Fx9 (h.ext hE2) hl hz fun s7 i8 bs' W6 hE6 ⟨r1,r2⟩=>⟨s7,i8,rfl,fun _ W9 _=>bad W9,fun h0=>?_⟩
 have E:=hE2.trans hE6
 refine Cg0 (hT.ext E) (h.ext E) hl hz fun s12 i13 bs W11 hE11 ⟨q1,q2,q3,_⟩=>⟨s12,i13,rfl,fun W14 hE14=>⟨s12,s7,_,rfl,fun hok=>?_⟩⟩
 obtain⟨k1,k2,k3⟩:=r2 (Decidable.not_not.1 h0)
 have n1:=q1.n
 have n2:=r1.n
 have hlen:s12.n=s7.n:=by have:=of_decide_eq_true hok;omega
 by_cases hi:i13=0
 ·obtain⟨m1,m2,m3⟩:=q2 hi
  have e:=Eu1 m2 k1 m3 k3
  subst e
  exact⟨bs,q1.ext hE14,r1.ext (hE11.trans hE14),m1,Gd5 m2 m3 (h30 (by simpa using hb3))⟩
 ·have:=q3 hi
  subst this
  simp at n1
  omega
theorem Gb4 {W0 W:PW} {M:Nat→Prop} {s:Sl} {Lt:List (ByteArray×ByteArray)} {K:Value→PW→Prop} (hT:Ac6 W) (h:Bs7 W s Lt) (hl:Lt.length≤1099511627776) (hz: ∀t∈Lt,t.1.size≤1099511627776∧t.2.size≤1099511627776) (kont: ∀(s1:Sl) (s2:Sl) (ok:Bool) (W':PW),Ext W W'→((ok=true→∃bs:List Iv,Bc3 141 W' s1 bs∧Fx4 141 W' s2 bs∧Cn7 bs∧∀x∈bs,IvS 4 x))→K (.tuple ⟨[Sl.v s1,Sl.v s2,.bool ok]⟩) W'):
  Aa1 Tryz.prog W0 M 4 [s.v] W K:=
 Aa2 (fun W' hE=>Gd4 (M:=fun _=>False) (hT.ext hE) (h.ext hE) hl hz) (fun W' v W'' hE hE' hP=>by
  obtain⟨s1,s2,ok,rfl,h⟩:=hP
  exact kont s1 s2 ok W'' (hE.trans hE') h)
end Go.Proofs.YtahohahjnhfedaaGreatDoor
/- cincturelaw16.FlowStraight. -/
namespace Go.Proofs.YtahohahjnhfedaaGreatDoor
open Go Go.SX
theorem Lh6 {a:ByteArray} {q:Rat} (h:Gp3 a=some q) (hs:a.size≤12):Sz 4 q:=by
 unfold Gp3 at h
 split at h
 ·exact Ct3 h (by omega)
 ·cases h
def Lk9 (L:List ByteArray) (i:Nat):Rat:=(Gp3 (L.getD i ⟨#[]⟩)).getD 0
theorem Lh5 {L:List ByteArray} {i:Nat} (h:i<L.length):Lk9 L i=(Gp3 L[i]).getD 0:=by
 unfold Lk9
 rw[List.getD_eq_getElem?_getD,List.getElem?_eq_getElem h]
 rfl
theorem Lg8 (n:Nat→Rat) (m:Nat):Le8 n (m+1)=Le8 n m ++ [n m]:=by unfold Le8;rw[List.range_succ,List.map_append];rfl
def nuI (W0:PW) (n:Nat→Rat) (m:Nat) (L:List PL) (W:PW):Prop:=match L with
 | [.row l,.val (.int .i64 i)]=>∃j:Nat,i=(j:Int)∧j≤m∧Ext W0 W∧An5 (QtV 141 W) l (Le8 n j)∧∀y,y<j→Sz 4 (n y)
 | _=>False
def Ll1 (W0:PW) (x:List Iv) (n:Nat→Rat) (v:Rat) (m:Nat) (L:List PL) (W:PW):Prop:=match L with
 | [.row l,.val (.int .i64 i)]=>∃j:Nat,i=(j:Int)∧j≤m∧Ext W0 W∧An5 (SpV 141 W) l (Le3 x n v j)
 | _=>False
def moI (W0:PW) (n:Nat→Rat) (m:Nat) (L:List PL) (W:PW):Prop:=match L with
 | [.val (.bool b),.val (.int .i64 i)]=>∃j:Nat,i=(j:Int)∧j≤m∧Ext W0 W∧(b=true↔∃y,y<j∧n y≠0)
 | _=>False
theorem Ld6 {W0:PW} {M:Nat→Prop} {s sx:Sl} {L:List ByteArray} {Lx:List (ByteArray×ByteArray)} {h:ByteArray} {k:Int} (hT:Ac6 W0) (hc:Bf9 W0 1 s (Gw6 L)) (hx:Bs7 W0 sx Lx) (zc: ∀t∈L,t.size≤1099511627776) (lx:Lx.length≤1099511627776) (zx: ∀t∈Lx,t.1.size≤1099511627776∧t.2.size≤1099511627776) (zh:h.size≤1099511627776):
  Aa0 Tryz.prog 3 [s.v,sx.v,.string h,.int .i64 k] W0 M fun v W'=>v = .bool true∧True:=by
 apply Lc6
 have hcn:=hc.nt
 have alv: ∀W,Aa1 Tryz.prog W0 M 6 [] W fun v11 W12=>∃b13:Bool,v11 = .bool b13∧∀(W14:PW),Ext W12 W14→Value.bool b13 = .bool true∧True:=fun W=>Ka0 fun W12 _ _=>⟨true,rfl,fun W14 _=>⟨rfl,trivial⟩⟩
 refine Gb4 hT hx lx zx fun s3 s4 b5 W2 hE2 hof=>⟨s3,s4,b5,rfl,?_⟩
 refine Go0 zh fun s8 b9 s10 b11 s12 s13 W7 hE7 ⟨q1,q2⟩=>⟨_,_,_,_,_,_,_,rfl,fun _=>alv _,fun hb5=>⟨fun _=>alv _,fun hb14=>?_⟩⟩
 obtain⟨bs,x1,x2,hB,kx⟩:=hof (by simpa using hb5)
 have hb14:(Gp3 h).isSome=true:=by simpa using hb14
 obtain⟨q,hq⟩:=Option.isSome_iff_exists.1 hb14
 rw[hq] at q1 q2
 have q1:Ab3 141 _ _ _ _ q:=q1
 have nx:=x1.n
 have hb1:=hB.1.1
 refine Ka0 fun W24 hE24 _=>⟨true,rfl,fun e=>(by cases e),fun _=>⟨fun _=>alv _,fun h2=>⟨fun _=>alv _,fun hlc=>?_⟩⟩⟩
 have h2:bs.length≤2:=by omega
 have hlc:bs.length≤L.length:=by omega
 refine Bk6 (q1.ext hE24) (Ha0 hq) (by omega) fun W39 hE39 _=>⟨_,rfl,fun _=>alv _,fun hs=>⟨fun _=>alv _,fun h12=>?_⟩⟩
 have hv0:0<q:=Al3.1 (by omega)
 have hz:Sz 4 q:=Lh6 hq (by omega)
 have E39:=hE2.trans (hE7.trans (hE24.trans hE39))
 have x1:=x1.ext (hE7.trans (hE24.trans hE39))
 have q1:=q1.ext (hE24.trans hE39)
 have hc:=hc.ext E39
 refine⟨nuI W39 (Lk9 L) bs.length,Lk7 bs.length,⟨0,rfl,Nat.zero_le _,Ext.refl _,trivial,fun y hy=>absurd hy (Nat.not_lt_zero _)⟩,?_⟩
 rintro l51 i52 W53 ⟨j,rfl,hj,hE53,hal,hn⟩
 have hl:=hal.len
 rw[Lc4] at hl
 refine⟨fun hlt=>?_,fun hge=>?_⟩
 ·have hjl:j<L.length:=by omega
  have h5:=hc.ext hE53
  refine⟨h5.Hb8 (by omega) (by omega),L[j],h5.text hjl,Go0 (zc _ (List.getElem_mem hjl)) fun s57 b58 s59 b60 s61 s62 W56 hE56 ⟨g1,g2⟩=>⟨s57,b58,s59,b60,s61,s62,_,rfl,fun _ W64 _=>⟨rfl,trivial⟩,fun hs1=>⟨h5.Hb8 (by omega) (by omega),L[j],(h5.ext hE56).text hjl,fun _ W66 _=>⟨rfl,trivial⟩,fun h13=>⟨by simp only[List.length_cons,List.length_nil];omega,by unfold I64;omega,⟨j+1,by push_cast;rfl,by omega,hE53.trans hE56,?_,fun y hy=>?_⟩,?_⟩⟩⟩⟩
  ·rw[Lg8,Lh5 hjl]
   exact(hal.mono fun _ _ h=>h.ext hE56).append ⟨⟨s57,b58,s59,rfl,g1⟩,trivial⟩
  ·by_cases e1:y=j
   ·rw[e1,Lh5 hjl]
    obtain⟨r,hr⟩:=Option.isSome_iff_exists.1 (show(Gp3 L[j]).isSome=true by simpa using hs1)
    rw[hr]
    exact Lh6 hr (by omega)
   ·exact hn y (by omega)
  ·show bs.length-Int.toNat ((j:Int)+1)<bs.length-Int.toNat (j:Int)
   omega
 have hjb:j=bs.length:=by omega
 subst hjb
 generalize Lk9 L=n at *
 refine Fy4 (by omega) (by omega) (by omega) fun i69 W68 hE68 hi=>⟨i69,rfl,fun s70 W71 hE71 hO70 _=>?_⟩
 have hN:Hq6 141 W71 s70 (Le8 n bs.length):=⟨l51,⟨_,hO70.row⟩,hal.mono fun _ _ h=>h.ext (hE68.trans hE71)⟩
 have nN:=hN.n
 rw[Lc4] at nN
 refine Ld2 hN hn (by omega) fun s74 W73 hE73 h74=>⟨s74,rfl,?_⟩
 have E73:=hE53.trans (hE68.trans (hE71.trans hE73))
 refine⟨Ll1 W73 bs n q bs.length,Lk7 bs.length,⟨0,rfl,Nat.zero_le _,Ext.refl _,trivial⟩,?_⟩
 rintro l77 i78 W79 ⟨j,rfl,hj,hE79,hal2⟩
 have hl2:=hal2.len
 rw[Le2] at hl2
 have E79:=E73.trans hE79
 refine⟨fun hlt=>?_,fun hge s112 W113 hE113 hO112 _=>?_⟩
 ·have hjl:j<bs.length:=by omega
  have hjn:j<(Le8 n bs.length).length:=by rw[Lc4];exact hjl
  obtain⟨y,⟨s80,b81,s82,s83,b84,s85,rfl,v1,v2⟩,el1⟩:=(x1.ext E79).at hjl
  obtain⟨y',⟨s86,b87,s88,rfl,v3⟩,el2⟩:=(hN.ext (hE73.trans hE79)).at hjn
  rw[Lf4] at v3
  have z1:=kx _ (List.getElem_mem hjl)
  rw[←Fi1] at v1 v2 z1
  have z3:=hn j hjl
  have hib:=(hN.ext (hE73.trans hE79)).inB (i:=(j:Int)) (by omega) (by omega)
  refine⟨(x1.ext E79).inB (by omega) (by omega),s80,b81,s82,s83,b84,s85,el1 0 rfl,hib,s86,b87,s88,el2 0 rfl,hib,s86,b87,s88,el2 0 rfl,?_⟩
  refine Ak9 v3 (q1.ext E79) z3 hz (by omega) (by omega) fun s94 b95 s96 W93 hE93 h93=>⟨s94,b95,s96,rfl,hE93,?_⟩
  refine At2 (v1.ext hE93) h93 z1.1 (z3.mul hz) (by omega) (by omega) fun s99 b100 s101 W98 hE98 h98=>⟨s99,b100,s101,rfl,hE98,?_⟩
  have E98:=hE93.trans hE98
  refine Ak9 (v3.ext E98) (q1.ext (E79.trans E98)) z3 hz (by omega) (by omega) fun s104 b105 s106 W103 hE103 h103=>⟨s104,b105,s106,rfl,?_⟩
  refine At2 (v2.ext (E98.trans hE103)) h103 z1.2 (z3.mul hz) (by omega) (by omega) fun s109 b110 s111 W108 hE108 h108=>⟨s109,b110,s111,rfl,by simp only[List.length_cons,List.length_nil];omega,by unfold I64;omega,⟨j+1,by push_cast;rfl,by omega,hE79.trans (E98.trans (hE103.trans hE108)),?_⟩,?_⟩
  ·rw[Li0]
   exact(hal2.mono fun _ _ h=>h.ext (E98.trans (hE103.trans hE108))).append ⟨SpV.mk (x:=Ll0 bs n q j) (h98.ext (hE103.trans hE108)) h108,trivial⟩
  ·show bs.length-Int.toNat ((j:Int)+1)<bs.length-Int.toNat (j:Int)
   omega
 have hjb:j=bs.length:=by omega
 subst hjb
 have hM:Bc3 141 W113 s112 (Le3 bs n q bs.length):=⟨l77,⟨_,hO112.row⟩,hal2.mono fun _ _ h=>h.ext hE113⟩
 have nM:=hM.n
 have lM:=Le2 bs n q bs.length
 have tok:Lc9 bs (Le3 bs n q bs.length):=⟨lM.symm,hB,Lk2 hB⟩
 have kx20: ∀y∈bs,IvS 20 y:=fun y hy=>⟨(kx y hy).1.mono (by omega),(kx y hy).2.mono (by omega)⟩
 have kM:=Lk0 kx hn hz
 have kM20: ∀y∈Le3 bs n q bs.length,IvS 20 y:=fun y hy=>⟨(kM y hy).1.mono (by omega),(kM y hy).2.mono (by omega)⟩
 have E113:=E79.trans hE113
 refine Le7 (x1.ext E113) hM kx20 kM20 (by omega) (by omega) (by omega) fun s116 W115 hE115 h116=>⟨s116,_,rfl,?_⟩
 have h116:=h116 tok
 have kH:=Lj2 kx20 kM20 lM.symm
 have lH:=Ld3 bs (Le3 bs n q bs.length)
 have lF:=Lc3 n bs.length
 have hEnd:=Lj7 (n:=n) hB h2 (Lf7 (b:=Le3 bs n q bs.length) hB) lH hv0 (k:=i69) hi
 have h74:=h74.ext (hE79.trans (hE113.trans hE115))
 refine Kh6 (k:=i69) h74 (x1.ext (E113.trans hE115)) h116 (q1.ext (E113.trans hE115)) (by omega) (Lh8 hn) Li4 kx20 kH (by omega) (by omega) hz fun s120 W119 hE119 h120=>⟨s120,_,rfl,fun e=>absurd e (by rw[decide_eq_true tok];decide),fun _=>⟨fun e=>absurd e (by rw[decide_eq_true hEnd.1];decide),fun _=>?_⟩⟩
 rw[if_pos hEnd.1,hEnd.2] at h120
 have n120:=h120.n
 have hM:=hM.ext (hE115.trans hE119)
 refine⟨fun e=>absurd (by omega) e,fun _=>?_⟩
 refine⟨moI W119 n bs.length,Lk7 bs.length,⟨0,rfl,Nat.zero_le _,Ext.refl _,⟨fun e=>(by cases e),fun⟨y,hy,_⟩=>absurd hy (Nat.not_lt_zero _)⟩⟩,?_⟩
 rintro b127 i128 W129 ⟨j,rfl,hj,hE129,hb⟩
 refine⟨fun hlt=>?_,fun hge=>?_⟩
 ·have hjl:j<bs.length:=by omega
  have hjm:j<(Le3 bs n q bs.length).length:=by omega
  have hA:=h120.ext hE129
  have hE:=hM.ext hE129
  have z1:=kM _ (List.getElem_mem hjm)
  have hmu:bs.length-Int.toNat ((j:Int)+1)<bs.length-Int.toNat (j:Int):=by omega
  have i1:=hA.inB (i:=(j:Int)) (by omega) (by omega)
  have i2:=hE.inB (i:=(j:Int)) (by omega) (by omega)
  refine⟨fun hbt=>?_,fun hbf=>?_⟩
  ·obtain⟨y,⟨s80,b81,s82,s83,b84,s85,rfl,v1,v2⟩,el1⟩:=hA.at hjm
   obtain⟨y',⟨s86,b87,s88,s89,b90,s91,rfl,v3,v4⟩,el2⟩:=hE.at hjm
   refine⟨i1,s80,b81,s82,el1 0 rfl,i2,s86,b87,s88,el2 0 rfl,Aj2 v1 v3 z1.1 z1.1 (by omega) (by omega) fun W137 hE137 _=>⟨_,rfl,fun e=>absurd (Hv6.2 rfl) e,fun _=>?_⟩⟩
   obtain⟨y,⟨s80,b81,s82,s83,b84,s85,rfl,v1,v2⟩,el1⟩:=(hA.ext hE137).at hjm
   obtain⟨y',⟨s86,b87,s88,s89,b90,s91,rfl,v3,v4⟩,el2⟩:=(hE.ext hE137).at hjm
   refine⟨i1,s83,b84,s85,el1 3 rfl,i2,s89,b90,s91,el2 3 rfl,Aj2 v2 v4 z1.2 z1.2 (by omega) (by omega) fun W147 hE147 _=>⟨_,rfl,fun e=>absurd (Hv6.2 rfl) e,fun _=>⟨by unfold I64;omega,⟨j+1,by push_cast;rfl,by omega,hE129.trans (hE137.trans hE147),fun _=>?_,fun _=>rfl⟩,hmu⟩⟩⟩
   obtain⟨y,hy,h0⟩:=hb.1 hbt
   exact⟨y,by omega,h0⟩
  ·have hNj:=hN.ext (hE73.trans (hE79.trans (hE113.trans (hE115.trans (hE119.trans hE129)))))
   have hjn:j<(Le8 n bs.length).length:=by rw[Lc4];exact hjl
   obtain⟨y',⟨s150,b151,s152,rfl,v5⟩,el5⟩:=hNj.at hjn
   rw[Lf4] at v5
   refine⟨hNj.inB (by omega) (by omega),s150,b151,s152,el5 0 rfl,Bk6 v5 (hn j hjl) (by omega) fun W154 hE154 _=>⟨_,rfl,?_⟩⟩
   obtain⟨y,⟨s80,b81,s82,s83,b84,s85,rfl,v1,v2⟩,el1⟩:=(hA.ext hE154).at hjm
   obtain⟨y',⟨s86,b87,s88,s89,b90,s91,rfl,v3,v4⟩,el2⟩:=(hE.ext hE154).at hjm
   refine⟨i1,s80,b81,s82,el1 0 rfl,i2,s86,b87,s88,el2 0 rfl,Aj2 v1 v3 z1.1 z1.1 (by omega) (by omega) fun W163 hE163 _=>⟨_,rfl,fun e=>absurd (Hv6.2 rfl) e,fun _=>?_⟩⟩
   obtain⟨y,⟨s80,b81,s82,s83,b84,s85,rfl,v1,v2⟩,el1⟩:=(hA.ext (hE154.trans hE163)).at hjm
   obtain⟨y',⟨s86,b87,s88,s89,b90,s91,rfl,v3,v4⟩,el2⟩:=(hE.ext (hE154.trans hE163)).at hjm
   refine⟨i1,s83,b84,s85,el1 3 rfl,i2,s89,b90,s91,el2 3 rfl,Aj2 v2 v4 z1.2 z1.2 (by omega) (by omega) fun W173 hE173 _=>⟨_,rfl,fun e=>absurd (Hv6.2 rfl) e,fun _=>⟨by unfold I64;omega,⟨j+1,by push_cast;rfl,by omega,hE129.trans (hE154.trans (hE163.trans hE173)),fun ht=>?_,fun⟨y,hy,h0⟩=>?_⟩,hmu⟩⟩⟩
   ·exact⟨j,Nat.lt_succ_self _,fun e=>of_decide_eq_true ht (Hv6.2 e)⟩
   ·by_cases e1:y=j
    ·rw[e1] at h0
     exact decide_eq_true fun e=>h0 (Hv6.1 e)
    ·have:=hb.2 ⟨y,by omega,h0⟩
     rw[hbf] at this
     cases this
 ·have hjb:j=bs.length:=by omega
  subst hjb
  have E129:=hE119.trans hE129
  refine Kf6 (h74.ext E129) (x1.ext (E113.trans (hE115.trans E129))) (h116.ext E129) (q1.ext (E113.trans (hE115.trans E129))) (by omega) (Lh8 hn) Li4 kx20 kH (by omega) (by omega) hz fun W177 hE177 _=>⟨_,rfl,fun _=>?_,fun e=>absurd e (by rw[decide_eq_true (Lh7 (n:=n) hB h2 hv0)];decide)⟩
  have E177:=E129.trans hE177
  refine Kf6 (h74.ext E177) (x1.ext (E113.trans (hE115.trans E177))) (x1.ext (E113.trans (hE115.trans E177))) (q1.ext (E113.trans (hE115.trans E177))) (by omega) (Lh8 hn) Li4 kx20 kx20 (by omega) (by omega) hz fun W180 hE180 _=>⟨_,rfl,fun W182 _=>⟨?_,trivial⟩⟩
  congr 1
  refine decide_eq_true ?_
  have ht:=Lh1 (n:=n) hB h2 hv0
  cases b127 with
  | true=>
   obtain⟨y,hy,h0⟩:=hb.1 rfl
   exact decide_eq_false fun e=>h0 (ht.1 e y hy)
  | false=>
   refine decide_eq_true (ht.2 fun i hi=>?_)
   refine Classical.byContradiction fun h0=>?_
   have:=hb.2 ⟨i,hi,h0⟩
   cases this
end Go.Proofs.YtahohahjnhfedaaGreatDoor
/- The argument, a slice of slices of strings, opened into tables. -/
namespace Go.Proofs.YtahohahjnhfedaaGreatDoor
open Go Go.SX Go.ChangeShapes Go.WideShapes Go.ChangeAt Go.RowKit Go.Deep
instance:Inhabited (Sl×List ByteArray):=⟨(⟨none,0,0⟩,[])⟩
theorem Il1 {H:Type} {enc:TypeId×Value→H} {W:World} {fuel:Nat} {v:Value} {d:DataW H} {p:List MemPlace} (h:DataW.trod enc Tryz.prog W 0 (fun _=>true) true fuel 22 [v]=some (d,p)):
  ∃y:Sl×List ByteArray,v=y.1.v∧Bf9 ⟨W,fun _=>False⟩ 1 y.1 (Gw6 y.2)∧y.2.length≤Rows.uptoBulk d∧∀t∈y.2,t.size≤Rows.uptoBulk d:=by
 rcases open_strs Tryz.underlying22 Tryz.underlying9 Ct5 h with⟨hcs,hx⟩ | ⟨a,len,cap,m,Sx,hcs,_,hl,hm,hmm,hx,hcell⟩
 ·have hv:v = .slice none 0 0:=by simpa using hcs
  subst hv
  exact⟨(⟨none,0,0⟩,[]),rfl,⟨0,rfl,Nat.le_refl _,Nat.zero_le _,fun x h=>by simp[Gw6] at h,.inl rfl⟩,Nat.zero_le _,fun t h=>by simp at h⟩
 ·have hv:v = .slice (some a) len cap:=by simpa using hcs
  subst hv
  simp only[if_true] at hmm
  subst hmm
  simp only[Prod.mk.injEq] at hx
  obtain⟨rfl,_⟩:=hx
  have hr:=Ig6 (V:=fun j=>.string (Sx j)) (fun j hj=>(hcell j (by omega)).1) hl hm (fun _ _=>rfl)
  refine⟨(⟨some a,len,m⟩,(List.range len).map Sx),rfl,?_,?_,fun t ht=>?_⟩
  ·have e:Gw6 ((List.range len).map Sx)=(List.range len).map fun j=>[Value.string (Sx j)]:=by simp[Gw6]
   rw[e]
   exact hr
  ·have:=Dj1 ((List.range len).map fun i=>(DataW.lit (.string (Sx i).data.toList):DataW H))
   simp only[List.length_map,List.length_range] at this
   simp only[List.length_map,List.length_range,Rows.uptoBulk]
   omega
  ·obtain⟨j,hj,rfl⟩:=List.mem_map.1 ht
   have:=Eo6 (List.mem_map.2 ⟨j,hj,rfl⟩:(DataW.lit (.string (Sx j).data.toList):DataW H)∈(List.range len).map fun i=>(DataW.lit (.string (Sx i).data.toList):DataW H))
   have e:(Sx j).data.toList.length=(Sx j).size:=by rw[Array.length_toList];rfl
   simp only[Rows.uptoBulk] at this⊢
   omega
end Go.Proofs.YtahohahjnhfedaaGreatDoor
/- cincturelaw16.FlowStraight answers true for every input whose bulk is at most 1048576 (the second form), and its arguments read behind the call as they did ahead of it. -/
namespace Go.Proofs.YtahohahjnhfedaaGreatDoor
open Go Go.SX Go.ChangeShapes Go.WideShapes Go.ChangeAt Go.RowKit Go.Deep
theorem Fs9:Tryz.prog.globalNamed "math/bits.deBruijn32tab" = some 1:=by kernel_rfl
theorem Ew9:(Tryz.prog.globals[1]?).map (·.type)=some 231:=by kernel_rfl
theorem Ev1:Tryz.prog.cellsOf 231=32:=by kernel_rfl
theorem Fh1:Tryz.prog.cellsOf 5=1:=by kernel_rfl
theorem Fr5 {W:World} (h:laidMetH Tryz.prog Rows.flowStraightUptoRow.laid W):Ac6 ⟨W,fun _=>False⟩:=by
 have ht:Go.Lib.TabIs Tryz.prog W "math/bits.deBruijn32tab" .u8 (Go.Lib.deBruijn32tab.map fun n:Nat=>(n:Int)):=Go.Lib.tabIs_of_head (rest:=[]) Fs9 Ew9 Tryz.underlying231 Tryz.underlying5 Fh1 Ev1 h
 have hc: ∀j,j<32→W.cell? ⟨1,j,none⟩=some (.int .u8 ((Go.Lib.deBruijn32tab.getD j 0:Nat):Int)):=fun j hj=>by
  rw[ht.cell Fs9 j (by simpa[Go.Lib.deBruijn32tab] using hj)]
  have hall: ∀j,j<32→(Go.Lib.deBruijn32tab.map fun n:Nat=>(n:Int)).getD j 0=((Go.Lib.deBruijn32tab.getD j 0:Nat):Int):=by decide
  rw[hall j hj]
 refine⟨hc,?_,fun h=>h⟩
 have:=hc 0 (by omega)
 unfold World.cell? at this
 split at this
 ·rename_i e
  exact(Array.getElem?_eq_some_iff.1 e).1
 ·cases this
theorem Fa3 (H:Type) (enc:TypeId×Value→H) (W:World) (base:Nat) (args:Array Value) (ds gs:List (DataW H)) (before:List MemPlace)
  (hval: ∀(j:Nat) t v,Tryz.f3.params[j]?=some t→args[j]?=some v→Value.okWide Tryz.prog W .any base t v)
  (hW:DataW.Whole enc Tryz.prog Tryz.f3.params.toList Rows.flowStraightSpec.vars false W args.toList ds gs before) (hk:Rows.uptoSmall H (ds ++ gs)=true) (hL:laidMetH Tryz.prog Rows.flowStraightUptoRow.laid W):
  Calls Tryz.prog 3 args W fun e W'=>∃v,e = .returned v∧Rows.flowStraightSpec.post enc Tryz.prog Tryz.f3 false true false false W args v W':=by
 have hW':=hW
 obtain⟨p,q,hA0,hV,rfl,hfz,hnd⟩:=hW
 have hA:DataW.TrodAll enc Tryz.prog W 0 (fun _=>true) true Tryz.f3.params.toList args.toList ds p:=hA0
 rw[Tryz.params3] at hA hval
 obtain⟨v0,vs0,d0,ds0,p0,q0,hargs,rfl,rfl,h0,r0⟩:=trodAll_cons hA
 obtain⟨v1,vs1,d1,ds1,p1,q1,rfl,rfl,rfl,h1,r1⟩:=trodAll_cons r0
 obtain⟨v2,vs2,d2,ds2,p2,q2,rfl,rfl,rfl,h2,r2⟩:=trodAll_cons r1
 obtain⟨v3,vs3,d3,ds3,p3,q3,rfl,rfl,rfl,h3,r3⟩:=trodAll_cons r2
 obtain⟨rfl,rfl,rfl⟩:=trodAll_nil r3
 obtain rfl:args = #[v0,v1,v2,v3]:=by cases args;simp_all
 obtain⟨rfl,rfl⟩:=trodVars_none hV
 obtain⟨a0,n0,c0,rfl⟩:=okWide_slice Tryz.underlying22 (hval 0 22 v0 rfl rfl)
 obtain⟨a1,n1,c1,rfl⟩:=okWide_slice Tryz.underlying23 (hval 1 23 v1 rfl rfl)
 obtain⟨t2,rfl⟩:=okWide_string Tryz.underlying9 (hval 2 9 v2 rfl rfl)
 obtain⟨z3,rfl⟩:=okWide_int Tryz.underlying3 (hval 3 3 v3 rfl rfl)
 clear hA0
 simp only[List.append_nil] at hW' hk
 have hlt: ∀x∈p0 ++ (p1 ++ (p2 ++ p3)),x.block<W.heap.size:=fun x hx=>by simpa using hW'.lt x (by simpa using hx)
 have hbulk:Rows.uptoBulkAll [d0,d1,d2,d3]≤1048576:=of_decide_eq_true hk
 simp only[Rows.uptoBulkAll] at hbulk
 have h0k:=h0
 obtain⟨fuel0,hf0⟩:=h0
 have hf0':DataW.trod enc Tryz.prog W 0 (fun _=>true) true fuel0 22 [.slice a0 n0 c0]=some (d0,p0):=by simpa[Value.cells] using hf0
 obtain⟨⟨s0,L0⟩,hs0,hL0,hb0,hc0⟩:=Il1 hf0'
 have h1k:=h1
 obtain⟨fuel1,hf1⟩:=h1
 have hf1':DataW.trod enc Tryz.prog W 0 (fun _=>true) true fuel1 23 [.slice a1 n1 c1]=some (d1,p1):=by simpa[Value.cells] using hf1
 obtain⟨s1,L1,hs1,hL1,hb1,hc1⟩:=Gc9 hf1'
 have h2k:=h2
 obtain⟨fuel2,hf2⟩:=h2
 have hf2':DataW.trod enc Tryz.prog W 0 (fun _=>true) true fuel2 9 [.string t2]=some (d2,p2):=by simpa[Value.cells] using hf2
 have hb2:t2.size≤Rows.uptoBulk d2:=by
  obtain⟨s,hs,hx,_⟩:=DataW.trod_string Tryz.underlying9 hf2'
  simp only[List.cons.injEq,Value.string.injEq,and_true] at hs
  simp only[Prod.mk.injEq] at hx
  rw[hx.1,hs]
  have e:s.data.toList.length=s.size:=by rw[Array.length_toList];rfl
  simp only[Rows.uptoBulk]
  omega
 have h3k:=h3
 have hc:=Ld6 (M:=fun _=>False) (h:=t2) (k:=z3) (Fr5 hL) hL0 hL1 (fun t ht=>by have:=hc0 t ht;omega) (by omega) (fun t ht=>by have:=hc1 t ht;omega) (by omega)
 have hcall:=hc.2 (fun b h=>h.elim)
 rw[hs0,hs1]
 refine hcall.mono fun e W' ⟨v,he,hkeep,hv,_⟩=>⟨v,he,?_⟩
 subst hv
 have hbel:=hkeep.below
 refine⟨[d0,d1,d2,d3],[],_,[],p0 ++ (p1 ++ (p2 ++ p3)),[],(by rw[←hs0,←hs1];simpa using hW'),trodAll_mk1 (shut_bool Tryz.underlying4 _),(by rw[←hs0,←hs1];exact trodAll_cons_mk (Below.trod laidOut (by kernel_rfl) (of_decide_eq_true (by kernel_rfl)) h0k hbel fun x hx=>hlt x (by simp[hx])) (trodAll_mk3 (Below.trod laidOut (by kernel_rfl) (of_decide_eq_true (by kernel_rfl)) h1k hbel fun x hx=>hlt x (by simp[hx])) (Below.trod laidOut (by kernel_rfl) (of_decide_eq_true (by kernel_rfl)) h2k hbel fun x hx=>hlt x (by simp[hx])) (Below.trod laidOut (by kernel_rfl) (of_decide_eq_true (by kernel_rfl)) h3k hbel fun x hx=>hlt x (by simp[hx])))),rfl,hbel.frame _,fun h=>by cases h⟩
noncomputable def Bu8 (os:Os):World:=
 {World.holding Tryz.prog os ⟨#[],#[],[]⟩ with heap:=(World.holding Tryz.prog os ⟨#[],#[],[]⟩).heap.modify 1 fun
   | .cells _ t frozen=>.cells #[.int .u8 0,.int .u8 1,.int .u8 28,.int .u8 2,.int .u8 29,.int .u8 14,.int .u8 24,.int .u8 3,.int .u8 30,.int .u8 22,.int .u8 20,.int .u8 15,.int .u8 25,.int .u8 17,.int .u8 4,.int .u8 8,.int .u8 31,.int .u8 27,.int .u8 13,.int .u8 23,.int .u8 21,.int .u8 19,.int .u8 16,.int .u8 7,.int .u8 26,.int .u8 12,.int .u8 18,.int .u8 6,.int .u8 11,.int .u8 5,.int .u8 10,.int .u8 9] t frozen
   | o=>o }
theorem Fa2 (os:Os):laidMet Tryz.prog Rows.flowStraightUptoRow.laid ((Bu8 os).forCall (fun _ _=>0) ⟨#[],#[.slice none 0 0,.slice none 0 0,.string ⟨#[]⟩,.int .i64 0],[]⟩).memory:=
 laidMet_of_run' 8 (by kernel_rfl) (by kernel_rfl)
theorem reads (os:Os) {H:Type} (enc:TypeId×Value→H): ∃places,DataW.whole enc Tryz.prog ((Bu8 os).forCall (fun _ _=>0) ⟨#[],#[.slice none 0 0,.slice none 0 0,.string ⟨#[]⟩,.int .i64 0],[]⟩).memory Tryz.f3.params.toList Rows.flowStraightSpec.vars false (#[.slice none 0 0,.slice none 0 0,.string ⟨#[]⟩,.int .i64 0]:Array Value).toList 8=some ([.nil,.nil,.lit (.string []),.lit (.int .i64 0)],[],places):=
 ⟨[],by kernel_rfl⟩
theorem lifted (os:Os) (started:os.Started) (H:Type) (enc:TypeId×Value→H) (F:Stop.Interp):
  ReturnsInHanded {} Tryz.checked os 3 .any ((Rows.OpenSpec.upto Rows.flowStraightSpec).preRow enc Tryz.prog Tryz.f3 Rows.flowStraightUptoRow.domain false Rows.flowStraightUptoRow.laid) (((Rows.OpenSpec.upto Rows.flowStraightSpec).at F).post enc Tryz.prog Tryz.f3 false true false false):=by
 obtain⟨places,hx⟩:=reads os enc
 refine returnsInHanded_of_row (C:=Tryz.checked) (s:=Rows.OpenSpec.upto Rows.flowStraightSpec) Cp9 started (by kernel_rfl) Tryz.func3
  (witness_row_at (enc:=enc) (C:=Tryz.checked) false (Bu8 os) #[.slice none 0 0,.slice none 0 0,.string ⟨#[]⟩,.int .i64 0] rfl (by kernel_rfl) (by kernel_rfl) (by kernel_rfl)
   (OpenSpec.preRow_of_cond 8 hx (by kernel_rfl) (fun k hk=>by cases hk;kernel_rfl) (by kernel_rfl) (Fa2 os))) ?_
 intro W base args ds gs before hval hW _ hcond _ hL _ _
 exact Fa3 H enc W base args ds gs before hval hW (hcond _ rfl) hL
theorem Fj9:Fc7 Tryz.checked.prog 3 Tryz.f3 (Rows.OpenSpec.upto Rows.flowStraightSpec).bare Rows.flowStraightUptoRow=true:=by kernel_rfl
theorem Fl9:Fd9 Tryz.checked.prog 3 Tryz.f3 (Rows.OpenSpec.upto Rows.flowStraightSpec).bare Rows.flowStraightUptoRow=true:=by kernel_rfl
theorem Fl2:Fe1 Tryz.checked.prog 3 Tryz.f3 (Rows.OpenSpec.upto Rows.flowStraightSpec).bare Rows.flowStraightUptoRow=true:=by kernel_rfl
theorem Fn7:Fd2 Tryz.checked.prog 3 Tryz.f3 (Rows.OpenSpec.upto Rows.flowStraightSpec).bare Rows.flowStraightUptoRow=true:=by kernel_rfl
theorem Fj6:Fd4 Tryz.checked.prog 3 Tryz.f3 (Rows.OpenSpec.upto Rows.flowStraightSpec).bare Rows.flowStraightUptoRow=true:=by kernel_rfl
theorem Et8:Rows.FlowStraightUptoSaid:=
 OpenClaim.holds_of_cond 3 Tryz.f3 rfl rfl rfl rfl rfl rfl rfl ⟨rfl,rfl,rfl,rfl,rfl⟩ rfl rfl rfl rfl rfl (by kernel_rfl) Tryz.func3 (Eo7 Fj9 Fl9 Fl2 Fn7 Fj6)
  (of_decide_eq_true (by kernel_rfl)) (by unfold Func.isWrapper;first | (rw[if_pos (by decide +kernel)];kernel_rfl) | (rw[if_neg (by decide +kernel)];exact⟨rfl,rfl⟩))
  (fun os started H enc _ F=>by rw[OpenClaim.pre_eq_preRow];exact lifted os started H enc F)
theorem plain (f:FuncId) (fn:Func) (hf:Tryz.pinned.checked.prog.funcNamed "cincture/cincturelaw16.FlowStraight" = some f) (hfn:Tryz.pinned.checked.prog.funcs[f]?=some fn):
  false=Tryz.pinned.checked.prog.looks []∧∀(j:Nat) t,fn.params[j]?=some t→Tryz.pinned.checked.prog.wantsStandIn t=false:=by
 obtain rfl:f=3:=Option.some.inj ((show Tryz.prog.funcNamed "cincture/cincturelaw16.FlowStraight" = some 3 by kernel_rfl).symm.trans hf) |>.symm
 obtain rfl:fn=Tryz.f3:=(Option.some.inj (Tryz.func3.symm.trans hfn)).symm
 refine⟨by kernel_rfl,fun j t ht=>?_⟩
 rw[Tryz.params3] at ht
 have hm:t∈[22,23,9,3]:=by simpa using Array.mem_of_getElem? ht
 have hall:([22,23,9,3].all fun u=>!Tryz.prog.wantsStandIn u)=true:=by kernel_rfl
 exact(show Tryz.prog.wantsStandIn t=false by simpa using List.all_eq_true.1 hall t hm)
theorem flowStraight_card:Rows.FlowStraightUptoCardSaid:=
 Claim7.holds_tied_plain_at .later [] _ _ _ _ Et8 (fun _ h=>by cases h) (by kernel_rfl) (fun _ h=>by cases h) flowStraightUpto_row_tie rfl ⟨rfl,rfl⟩ (by kernel_rfl) rfl plain (by kernel_rfl)
#print axioms flowStraight_card
end Go.Proofs.YtahohahjnhfedaaGreatDoor
