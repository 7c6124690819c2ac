/- nat.Zeros, dyad.Of, box.Parse; the reference's; cincturelaw6.Of. What the dyads are is left open: only that the texts that are taken are the sides. -/
import Derived.Test.YtokefihiadbkbaaGreatDoorW11
import Derived.Test.YtokefihiadbkbaaGreatDoorW3
import Derived.Test.YtokefihiadbkbaaGreatDoorW5
import Derived.Test.YtokefihiadbkbaaGreatDoorLib4
import Derived.Test.YtokefihiadbkbaaGreatDoorR15
import Derived.Test.YtokefihiadbkbaaGreatDoorW9
import Derived.Test.YtokefihiadbkbaaGreatDoorW7
import Derived.Test.YtokefihiadbkbaaGreatDoorW6
import Derived.Test.YtokefihiadbkbaaGreatDoorR20
import Derived.Test.YtokefihiadbkbaaGreatDoorW8
import Derived.Test.YtokefihiadbkbaaGreatDoorLib6
import Derived.Test.YtokefihiadbkbaaGreatDoorLib5
import Derived.Test.YtokefihiadbkbaaGreatDoorR19
set_option linter.unusedVariables false
set_option linter.unusedSimpArgs false
set_option maxRecDepth 100000
namespace Go.Proofs.YtokefihiadbkbaaGreatDoor
open Go Go.SX
theorem Fl1 (h:0<(dg 1).length):(dg 1)[0]=1:=by
 have e:dg 1 = [1]:=by rw[Bk2 (by decide),show 1/B=0 by decide,Ae8];rfl
 simp[e]
theorem Dk9 {W0:PW} {M:Nat→Prop} {s:Sl} {x:Nat} (hT:Ac6 W0) (h:Aa6 231 W0 s x) (hx:nl x≤30000):
  Aa0 Tryz.prog 209 [.agg ⟨[s.v]⟩] W0 M fun v W'=>∃(i:Int),v = .int .i64 i∧(0≤i∧i≤960032)∧(x=1→i=0):=by
 apply Bi6
 have hn:=h.n
 refine⟨fun L W=>match L with | [.val (.int .i64 z)]=>∃j:Nat,z=(j:Int)∧j≤nl x∧Ext W0 W∧(x=1→j=0) | _=>False,(fun L _=>match L with | [.val (.int .i64 z)]=>nl x-z.toNat | _=>0),⟨0,rfl,Nat.zero_le _,Ext.refl _,fun _=>rfl⟩,?_⟩
 rintro i3 W4 ⟨j,rfl,hj,hE4,hone⟩
 refine⟨fun hlt=>?_,fun hge W10 _=>⟨0,rfl,⟨by omega,by omega⟩,fun _=>rfl⟩⟩
 have hjl:j<nl x:=by omega
 have h4:=h.ext hE4
 have hll:(dg x).length=nl x:=rfl
 have hd:(dg x)[j]<4294967296:=Ad8 x _ (List.getElem_mem (l:=dg x) (n:=j) hjl)
 have hd1:x=1→(dg x)[j]=1:=fun e=>by
  have:=hone e
  subst this
  subst e
  exact Fl1 _
 refine⟨Ad4.inB h4 (by omega) (by omega),_,Ad4.at h4 hjl,fun hne=>⟨by unfold I64;omega,?_⟩,fun heq=>⟨by unfold I64;omega,⟨j+1,by push_cast;rfl,by omega,hE4,fun e=>by have:=hd1 e;omega⟩,?_⟩⟩
 ·refine El3 (hT.ext hE4) hd fun W7 hE7 _=>⟨_,rfl,?_⟩
  have hc:Go.Lib.ctz 32 (dg x)[j]≤32:=by
   by_cases h0:(dg x)[j]=0
   ·unfold Go.Lib.ctz;rw[if_pos h0];exact Nat.le_refl _
   ·exact Nat.le_of_lt (Go.Lib.lowest_bit 32 _ h0 hd).2
  refine⟨by unfold I64;omega,fun W9 hE9=>⟨_,rfl,⟨by omega,by omega⟩,fun e=>?_⟩⟩
  have c:Go.Lib.ctz 32 (dg x)[j]=0:=by rw[hd1 e];decide
  have:=hone e
  omega
 ·show nl x-Int.toNat ((j:Int)+1)<nl x-Int.toNat (j:Int)
  omega
theorem At1 {W0 W:PW} {M:Nat→Prop} {s:Sl} {x:Nat} {K:Value→PW→Prop} (hT:Ac6 W) (h:Aa6 231 W s x) (hx:nl x≤30000) (kont: ∀(i:Int) (W':PW),Ext W W'→((0≤i∧i≤960032)∧(x=1→i=0))→K (.int .i64 i) W'):
  Aa1 Tryz.prog W0 M 209 [.agg ⟨[s.v]⟩] W K:=
 Aa2 (fun W' hE=>Dk9 (M:=fun _=>False) (hT.ext hE) (h.ext hE) hx) (fun W' v W'' hE hE' hP=>by
  obtain⟨i,rfl,h⟩:=hP
  exact kont i W'' (hE.trans hE') h)
theorem En5 {W0:PW} {M:Nat→Prop} {s t:Sl} {b:Bool} {q:Rat} (h:Ab3 231 W0 s b t q):
  Aa0 Tryz.prog 211 [.agg ⟨[s.v,.bool b,t.v]⟩] W0 M fun v W'=>v = .agg ⟨[Sl.v s,.bool b]⟩∧True:=by
 apply Bs9
 exact fun W1 _=>⟨rfl,trivial⟩
theorem De2 {W0 W:PW} {M:Nat→Prop} {s t:Sl} {b:Bool} {q:Rat} {K:Value→PW→Prop} (h:Ab3 231 W s b t q) (kont: ∀(W':PW),Ext W W'→(True)→K (.agg ⟨[Sl.v s,.bool b]⟩) W'):
  Aa1 Tryz.prog W0 M 211 [.agg ⟨[s.v,.bool b,t.v]⟩] W K:=
 Aa2 (fun W' hE=>En5 (M:=fun _=>False) (h.ext hE)) (fun W' v W'' hE hE' hP=>by
  obtain⟨rfl,h⟩:=hP
  exact kont W'' (hE.trans hE') h)
theorem Eb2 {W0:PW} {M:Nat→Prop} {s:Sl} {b:Bool} {z e:Int} (hT:Ac6 W0) (h:Ab5 231 W0 s b z) (hz:nl z.natAbs≤30000) (he: -10000000≤e∧e≤10000000):
  Aa0 Tryz.prog 210 [.agg ⟨[s.v,.bool b]⟩,.int .i64 e] W0 M fun v W'=>∃(s':Sl),∃(b':Bool),∃(i:Int),v = .agg ⟨[Sl.v s',.bool b',.int .i64 i]⟩∧True:=by
 apply Da4
 refine Ai5 h (by omega) fun W2 hE2 _=>⟨_,rfl,fun _ W4 _=>⟨⟨none,0,0⟩,false,0,rfl,trivial⟩,fun _=>?_⟩
 refine Ag5 (h.ext hE2) fun s7 W6 hE6 h6=>⟨s7,rfl,?_⟩
 refine At1 (hT.ext (hE2.trans hE6)) h6 hz fun i10 W9 hE9 ⟨hi,_⟩=>⟨i10,rfl,by unfold I64;omega,?_⟩
 have E9:=hE2.trans (hE6.trans hE9)
 refine Ai5 (h.ext E9) (by omega) fun W12 hE12 _=>⟨_,rfl,?_⟩
 refine Ag5 (h.ext (E9.trans hE12)) fun s16 W15 hE15 h15=>⟨s16,rfl,?_⟩
 obtain⟨k,rfl⟩:=Int.eq_ofNat_of_zero_le hi.1
 refine Br2 h15 (by omega) (by omega) fun s19 W18 hE18 h18=>⟨s19,rfl,?_⟩
 have hsh:nl (z.natAbs/2^k)≤30000:=Nat.le_trans (Ad1 (Nat.div_le_self _ _)) hz
 refine Ad6 h18 (by omega) fun s22 b23 W21 hE21 h21=>⟨s22,b23,rfl,fun W24 _=>⟨s22,b23,_,rfl,trivial⟩⟩
theorem Cu2 {W0 W:PW} {M:Nat→Prop} {s:Sl} {b:Bool} {z e:Int} {K:Value→PW→Prop} (hT:Ac6 W) (h:Ab5 231 W s b z) (hz:nl z.natAbs≤30000) (he: -10000000≤e∧e≤10000000) (kont: ∀(s':Sl) (b':Bool) (i:Int) (W':PW),Ext W W'→(True)→K (.agg ⟨[Sl.v s',.bool b',.int .i64 i]⟩) W'):
  Aa1 Tryz.prog W0 M 210 [.agg ⟨[s.v,.bool b]⟩,.int .i64 e] W K:=
 Aa2 (fun W' hE=>Eb2 (M:=fun _=>False) (hT.ext hE) (h.ext hE) hz he) (fun W' v W'' hE hE' hP=>by
  obtain⟨s',b',i,rfl,h⟩:=hP
  exact kont s' b' i W'' (hE.trans hE') h)
theorem Ej8 {W0:PW} {M:Nat→Prop} {s t:Sl} {b:Bool} {q:Rat} (hT:Ac6 W0) (h:Ab3 231 W0 s b t q) (hq:Sz 4000 q):
  Aa0 Tryz.prog 182 [.agg ⟨[s.v,.bool b,t.v]⟩] W0 M fun v W'=>∃(s':Sl),∃(b':Bool),∃(i:Int),∃(ok:Bool),v = .tuple ⟨[.agg ⟨[Sl.v s',.bool b',.int .i64 i]⟩,.bool ok]⟩∧(q.den=1→ok=true):=by
 apply Dg7
 have hd:nl q.den≤4000:=hq.2
 refine Bc0 h hq (by omega) fun s3 b4 W2 hE2 h2=>⟨s3,b4,rfl,?_⟩
 refine Ag5 h2 fun s7 W6 hE6 h6=>⟨s7,rfl,?_⟩
 rw[Int.natAbs_natCast] at h6
 have E6:=hE2.trans hE6
 refine At1 (hT.ext E6) h6 (by omega) fun i10 W9 hE9 ⟨hi,hi1⟩=>⟨i10,rfl,?_⟩
 refine Ac9 (h6.ext hE9) (by omega) fun W12 hE12 _=>⟨_,rfl,?_⟩
 have hbl:=Dm3 q.den
 refine⟨by unfold I64;omega,fun hne W14 _=>⟨⟨none,0,0⟩,false,0,false,rfl,fun e=>absurd (by rw[hi1 e,e];decide) hne⟩,fun _=>?_⟩
 have E12:=E6.trans (hE9.trans hE12)
 refine De2 (h.ext E12) fun W16 hE16 _=>⟨s,b,rfl,?_⟩
 refine At1 (hT.ext (E12.trans hE16)) (h6.ext (hE9.trans (hE12.trans hE16))) (by omega) fun i21 W20 hE20 ⟨hi2,_⟩=>⟨i21,rfl,by unfold I64;omega,?_⟩
 refine Cu2 (hT.ext (E12.trans (hE16.trans hE20))) (h.ext (E12.trans (hE16.trans hE20))).1 (by have:=hq.1;omega) (by omega) fun s24 b25 i26 W23 hE23 _=>⟨s24,b25,i26,rfl,fun W27 _=>⟨s24,b25,i26,true,rfl,fun _=>rfl⟩⟩
theorem Bx3 {W0 W:PW} {M:Nat→Prop} {s t:Sl} {b:Bool} {q:Rat} {K:Value→PW→Prop} (hT:Ac6 W) (h:Ab3 231 W s b t q) (hq:Sz 4000 q) (kont: ∀(s':Sl) (b':Bool) (i:Int) (ok:Bool) (W':PW),Ext W W'→((q.den=1→ok=true))→K (.tuple ⟨[.agg ⟨[Sl.v s',.bool b',.int .i64 i]⟩,.bool ok]⟩) W'):
  Aa1 Tryz.prog W0 M 182 [.agg ⟨[s.v,.bool b,t.v]⟩] W K:=
 Aa2 (fun W' hE=>Ej8 (M:=fun _=>False) (hT.ext hE) (h.ext hE) hq) (fun W' v W'' hE hE' hP=>by
  obtain⟨s',b',i,ok,rfl,h⟩:=hP
  exact kont s' b' i ok W'' (hE.trans hE') h)
end Go.Proofs.YtokefihiadbkbaaGreatDoor
/- box.Parse; the reference's; cincturelaw6.Of. -/
namespace Go.Proofs.YtokefihiadbkbaaGreatDoor
open Go Go.SX
theorem Fi3 {a b:ByteArray} :IvS 4000 ((spP a b).getD (0,0)):=by
 cases e:spP a b with
 | none=>exact⟨Sz.zero (by omega),Sz.zero (by omega)⟩
 | some x=>
  obtain⟨p1,p2,p3⟩:=Dp3 e
  exact⟨(Aw6 p1).1,(Aw6 p2).1⟩
theorem Eb3 {W0:PW} {M:Nat→Prop} {a b:ByteArray} (hT:Ac6 W0) (ha:a.size≤1099511627776) (hb:b.size≤1099511627776):
  Aa0 Tryz.prog 122 [.agg ⟨[.string a,.string b]⟩] W0 M fun v W'=>∃(l:List Value),∃(i:Int),∃(x:Iv),v = .tuple ⟨[.agg ⟨l⟩,.int .i64 i]⟩∧SpV 231 W' l x∧(i=0→spP a b=some x∧x.1<x.2)∧(∀y,spP a b=some y→y.1<y.2→y.1.den=1→y.2.den=1→i=0):=by
 apply Cq0
 refine Az3 ha hb fun l e W2 hE2 ⟨h2,he⟩=>?_
 obtain⟨s3,b4,s5,s6,b7,s8,rfl,q1,q2⟩:=h2
 have hz:=@Fi3 a b
 refine⟨s3,b4,s5,s6,b7,s8,e,rfl,?_⟩
 refine Bx3 (hT.ext hE2) q1 hz.1 fun s12 b13 i14 b15 W11 hE11 ok1=>⟨s12,b13,i14,b15,rfl,?_⟩
 refine Bx3 (hT.ext (hE2.trans hE11)) (q2.ext hE11) hz.2 fun s18 b19 i20 b21 W17 hE17 ok2=>⟨s18,b19,i20,b21,rfl,fun hne W22 _=>⟨_,e,(0,0),rfl,SpV.zero W22,fun h=>absurd h hne,fun y hy _ _ _=>absurd (he.2 (by rw[hy];rfl)) hne⟩,fun h0=>?_⟩
 have E:=hE11.trans hE17
 refine Aj2 (q1.ext E) (q2.ext E) hz.1 hz.2 (by omega) (by omega) fun W24 hE24 _=>⟨_,rfl,fun hc W26 _=>⟨_,1,(0,0),rfl,SpV.zero W26,fun h=>by omega,fun y hy hlt _ _=>by rw[hy] at hc;exact absurd (El9.1 hc) (Rat.not_le.2 hlt)⟩,fun hc=>⟨fun h1 W27 _=>⟨_,2,(0,0),rfl,SpV.zero W27,fun h=>by omega,fun y hy _ d1 _=>by rw[hy] at ok1;rw[ok1 d1] at h1;exact absurd h1 (by decide)⟩,fun _=>⟨fun h2 W28 _=>⟨_,2,(0,0),rfl,SpV.zero W28,fun h=>by omega,fun y hy _ _ d2=>by rw[hy] at ok2;rw[ok2 d2] at h2;exact absurd h2 (by decide)⟩,fun _ W29 hE29=>?_⟩⟩⟩
 obtain⟨x,hx⟩:=Option.isSome_iff_exists.1 (he.1 (Decidable.not_not.1 h0))
 rw[hx] at q1 q2 hc
 have hc:¬0≤Co4 x.1 x.2:=hc
 have E2:=E.trans (hE24.trans hE29)
 exact⟨_,0,x,rfl,⟨s3,b4,s5,s6,b7,s8,rfl,q1.ext E2,q2.ext E2⟩,fun _=>⟨hx,At6.1 (by omega)⟩,fun _ _ _ _ _=>rfl⟩
theorem Cq6 {W0 W:PW} {M:Nat→Prop} {a b:ByteArray} {K:Value→PW→Prop} (hT:Ac6 W) (ha:a.size≤1099511627776) (hb:b.size≤1099511627776) (kont: ∀(l:List Value) (i:Int) (x:Iv) (W':PW),Ext W W'→(SpV 231 W' l x∧(i=0→spP a b=some x∧x.1<x.2)∧(∀y,spP a b=some y→y.1<y.2→y.1.den=1→y.2.den=1→i=0))→K (.tuple ⟨[.agg ⟨l⟩,.int .i64 i]⟩) W'):
  Aa1 Tryz.prog W0 M 122 [.agg ⟨[.string a,.string b]⟩] W K:=
 Aa2 (fun W' hE=>Eb3 (M:=fun _=>False) (hT.ext hE) ha hb) (fun W' v W'' hE hE' hP=>by
  obtain⟨l,i,x,rfl,h⟩:=hP
  exact kont l i x W'' (hE.trans hE') h)
def bxI (W0:PW) (Lt:List (ByteArray×ByteArray)) (L:List PL) (W:PW):Prop:=match L with
 | [.row l,.val (.int .i64 z)]=>∃(j:Nat) (m:List Iv),z=(j:Int)∧j≤Lt.length∧Ext W0 W∧m.length=j∧An5 (SpV 231 W) l m∧(∀i (hi:i<m.length) (hi':i<Lt.length),spP Lt[i].1 Lt[i].2=some m[i])∧∀x∈m,x.1<x.2
 | _=>False
def cnD (n:Nat) (L:List PL) (_:PW):Nat:=match L with
 | [_,.val (.int .i64 z)]=>n-z.toNat
 | _=>0
theorem Bs7.ext {W W':PW} {s:Sl} {L:List (ByteArray×ByteArray)} (h:Bs7 W s L) (hE:Ext W W'):Bs7 W' s L:=let⟨ty,h⟩:=h;⟨ty,h.ext hE⟩
theorem Bs7.n {W:PW} {s:Sl} {L:List (ByteArray×ByteArray)} (h:Bs7 W s L):s.n=L.length:=let⟨ty,h⟩:=h;by have:=h.1;rwa [List.length_map] at this
theorem Bs7.inB {W:PW} {s:Sl} {L:List (ByteArray×ByteArray)} (h:Bs7 W s L) {i:Int} (h0:0≤i) (h1:i<(L.length:Int)):SX.inB s i:=let⟨ty,h⟩:=h;Row.inB h h0 (by rw[List.length_map];exact h1)
theorem Bs7.part {W:PW} {s:Sl} {L:List (ByteArray×ByteArray)} (h:Bs7 W s L) {i:Nat} (hi:i<L.length) (off:Nat) {m:List Value} (hm:((prc L[i]).drop off).take m.length=m):Aa7 W s 2 i off m:=let⟨ty,h⟩:=h;Row.part h (x:=prc L[i]) (by rw[List.getElem?_map,List.getElem?_eq_getElem hi];rfl) off hm
theorem Fc1 {m:List Iv} {x:Iv} {Lt:List (ByteArray×ByteArray)} (h: ∀i (hi:i<m.length) (hi':i<Lt.length),spP Lt[i].1 Lt[i].2=some m[i]) (hl:m.length<Lt.length) (hx:spP Lt[m.length].1 Lt[m.length].2=some x): ∀i (hi:i<(m ++ [x]).length) (hi':i<Lt.length),spP Lt[i].1 Lt[i].2=some (m ++ [x])[i]:=fun i hi hi'=>by
 by_cases e:i<m.length
 ·rw[List.getElem_append_left e]
  exact h i e hi'
 ·have:i=m.length:=by simp at hi;omega
  subst this
  rw[List.getElem_concat_length rfl]
  exact hx
def Br9 (Lt:List (ByteArray×ByteArray)):Prop:=1≤Lt.length∧Lt.length≤3∧∀t∈Lt,∃y,spP t.1 t.2=some y∧y.1<y.2∧y.1.den=1∧y.2.den=1
theorem Dd2 {W0:PW} {M:Nat→Prop} {s:Sl} {Lt:List (ByteArray×ByteArray)} (hT:Ac6 W0) (h:Bs7 W0 s Lt) (hl:Lt.length≤1099511627776) (hz: ∀t∈Lt,t.1.size≤1099511627776∧t.2.size≤1099511627776):
  Aa0 Tryz.prog 55 [s.v] W0 M fun v W'=>∃(s':Sl),∃(i:Int),∃(bs:List Iv),v = .tuple ⟨[Sl.v s',.int .i64 i]⟩∧Bc3 231 W' s' bs∧(i=0→Cn7 bs∧bs.length=Lt.length∧∀i (hi:i<bs.length) (hi':i<Lt.length),spP Lt[i].1 Lt[i].2=some bs[i])∧(i≠0→bs = [])∧(Br9 Lt→i=0):=by
 apply Ci3
 have hn:=h.n
 have bad: ∀(c:Int),c≠0→¬Br9 Lt→∀W':PW,∃(s':Sl) (i:Int) (bs:List Iv),(Value.tuple ⟨[.slice none 0 0,.int .i64 c]⟩) = .tuple ⟨[Sl.v s',.int .i64 i]⟩∧Bc3 231 W' s' bs∧(i=0→Cn7 bs∧bs.length=Lt.length∧∀i (hi:i<bs.length) (hi':i<Lt.length),spP Lt[i].1 Lt[i].2=some bs[i])∧(i≠0→bs = [])∧(Br9 Lt→i=0):=
  fun c hc hg W'=>⟨⟨none,0,0⟩,c,[],rfl,Dr1.nil W',fun e=>absurd e hc,fun _=>rfl,fun g=>absurd g hg⟩
 refine⟨fun h W1 _=>bad 1 (by omega) (fun g=>by have:=g.1;omega) W1,fun h1=>⟨fun h W2 _=>bad 1 (by omega) (fun g=>by have:=g.2.1;omega) W2,fun h3=>?_⟩⟩
 refine⟨bxI W0 Lt,cnD Lt.length,⟨0,[],rfl,Nat.zero_le _,Ext.refl _,rfl,trivial,fun i hi=>by simp at hi,fun x hx=>(by cases hx)⟩,?_⟩
 rintro l5 i6 W7 ⟨j,m,rfl,hj,hE7,hml,ha,hp,hlt⟩
 have hal:=ha.len
 refine⟨fun hlt'=>?_,fun hge s20 W21 hE21 hO21 _ W22 hE22=>⟨s20,0,m,rfl,⟨l5,⟨_,hO21.row.ext hE22⟩,ha.mono fun _ _ h=>h.ext (hE21.trans hE22)⟩,fun _=>⟨⟨by omega,hlt⟩,by omega,hp⟩,fun e=>absurd rfl e,fun _=>rfl⟩⟩
 have hjl:j<Lt.length:=by omega
 have h7:=h.ext hE7
 obtain⟨z1,z2⟩:=hz _ (List.getElem_mem hjl)
 refine⟨h7.inB (by omega) (by omega),Lt[j].1,Lt[j].2,h7.part hjl 0 rfl,?_⟩
 refine Cq6 (hT.ext hE7) z1 z2 fun l e x W11 hE11 ⟨hx,he,hgo⟩=>?_
 obtain⟨s12,b13,s14,s15,b16,s17,rfl,q1,q2⟩:=hx
 refine⟨s12,b13,s14,s15,b16,s17,e,rfl,fun hne W19 _=>bad e hne (fun g=>by obtain⟨y,y1,y2,y3,y4⟩:=g.2.2 _ (List.getElem_mem hjl);exact hne (hgo y y1 y2 y3 y4)) W19,fun h0=>?_⟩
 obtain⟨k1,k2⟩:=he (Decidable.not_not.1 h0)
 subst hml
 refine⟨by simp only[List.length_cons,List.length_nil];omega,by unfold I64;omega,⟨m.length+1,m ++ [x],by push_cast;rfl,by omega,hE7.trans hE11,by simp,(ha.mono fun _ _ h=>h.ext hE11).append ⟨⟨s12,b13,s14,s15,b16,s17,rfl,q1,q2⟩,trivial⟩,Fc1 hp hjl k1,fun y hy=>?_⟩,?_⟩
 ·rcases List.mem_append.1 hy with hy | hy
  ·exact hlt y hy
  ·rw[List.mem_singleton.1 hy];exact k2
 ·show Lt.length-Int.toNat ((m.length:Int)+1)<Lt.length-Int.toNat (m.length:Int)
  omega
theorem Cg0 {W0 W:PW} {M:Nat→Prop} {s:Sl} {Lt:List (ByteArray×ByteArray)} {K:Value→PW→Prop} (hT:Ac6 W) (h:Bs7 W s Lt) (hl:Lt.length≤1099511627776) (hz: ∀t∈Lt,t.1.size≤1099511627776∧t.2.size≤1099511627776) (kont: ∀(s':Sl) (i:Int) (bs:List Iv) (W':PW),Ext W W'→(Bc3 231 W' s' bs∧(i=0→Cn7 bs∧bs.length=Lt.length∧∀i (hi:i<bs.length) (hi':i<Lt.length),spP Lt[i].1 Lt[i].2=some bs[i])∧(i≠0→bs = [])∧(Br9 Lt→i=0))→K (.tuple ⟨[Sl.v s',.int .i64 i]⟩) W'):
  Aa1 Tryz.prog W0 M 55 [s.v] W K:=
 Aa2 (fun W' hE=>Dd2 (M:=fun _=>False) (hT.ext hE) (h.ext hE) hl hz) (fun W' v W'' hE hE' hP=>by
  obtain⟨s',i,bs,rfl,h⟩:=hP
  exact kont s' i bs W'' (hE.trans hE') h)
theorem Eu1 {bs bs':List Iv} {Lt:List (ByteArray×ByteArray)} (h:bs.length=Lt.length) (h':bs'.length=Lt.length) (k: ∀i (hi:i<bs.length) (hi':i<Lt.length),spP Lt[i].1 Lt[i].2=some bs[i]) (k': ∀i (hi:i<bs'.length) (hi':i<Lt.length),spP Lt[i].1 Lt[i].2=some bs'[i]):bs=bs':=by
 refine List.ext_getElem (by omega) fun i h1 h2=>?_
 have a:=k i h1 (by omega)
 rw[k' i h2 (by omega)] at a
 exact(Option.some.inj a).symm
end Go.Proofs.YtokefihiadbkbaaGreatDoor
/- cincturelaw8.PolyLeibniz. -/
namespace Go.Proofs.YtokefihiadbkbaaGreatDoor
open Go Go.SX
end Go.Proofs.YtokefihiadbkbaaGreatDoor
/- cincturelaw9.alive, Inside. -/
namespace Go.Proofs.YtokefihiadbkbaaGreatDoor
open Go Go.SX
def b9a:ByteArray:=⟨⟨[48]⟩⟩
def b9b:ByteArray:=⟨⟨[49]⟩⟩
theorem Er6:Ab7 b9a=some 0:=by
 have h1:Ak5 b9a=none:=by decide
 have h2:Ac3 b9a=some 0:=by decide
 unfold Ab7
 rw[h1,h2];rfl
theorem Ed8:Ab7 b9b=some 1:=by
 have h1:Ak5 b9b=none:=by decide
 have h2:Ac3 b9b=some 1:=by decide
 unfold Ab7
 rw[h1,h2];rfl
theorem Fn4:spP b9a b9b=some (0,1):=by
 unfold spP
 rw[Er6,Ed8]
 rfl
def pr9:List (ByteArray×ByteArray):=[(b9a,b9b)]
theorem Ev3:Br9 pr9:=⟨by decide,by decide,fun t ht=>by
 rw[List.mem_singleton.1 ht]
 exact⟨(0,1),Fn4,by decide +kernel,by decide +kernel,by decide +kernel⟩⟩
def al9:List Tm:=[(⟨1,0,0⟩,-1),(⟨2,0,0⟩,1)]
theorem Fj2:Ct4 (Dc6 0) (Dc6 0):=by decide +kernel
theorem Fj1:Ag2 ([(⟨2,0,0⟩,1)] ++ pmap (Dc6 0) (-1))=al9:=by decide +kernel
theorem Da2:An3 al9 [(0,1)]:=by decide +kernel
theorem Fm7:Bd 7 al9:=by
 refine(Bd.Co7 (k:=1) ?_).mono (by decide)
 intro t ht
 simp only[al9,List.mem_cons,List.not_mem_nil,or_false] at ht
 rcases ht with rfl | rfl
 ·exact Fn8
 ·exact Fl0
theorem Fh8:Fm8 (Dc6 0) (Dc6 0) = [(⟨2,0,0⟩,1)]:=by decide +kernel
theorem Fg2:Bd 7 [(⟨2,0,0⟩,1)]:=(Cq4 (m:=⟨2,0,0⟩) Fl0).mono (by decide)
theorem Fj8:BxN 7 1 al9 [(0,1)] where
 bd:=Fm7
 sd x hx:=by rw[List.mem_singleton.1 hx];exact⟨Sz.zero (Nat.le_refl 1),Fl0⟩
 ok t ht:=by
  simp only[al9,List.mem_cons,List.not_mem_nil,or_false] at ht
  rcases ht with rfl | rfl<;>decide
 len:=by decide
 k1:=by decide
 m1:=by decide
 bl:=by decide
end Go.Proofs.YtokefihiadbkbaaGreatDoor
/- law10: alive, tops. -/
namespace Go.Proofs.YtokefihiadbkbaaGreatDoor
open Go Go.SX
theorem Ip3:Ie8 al9 [((0:Rat),(1:Rat))].length = [2]:=by decide +kernel
theorem Ix3:Ii7 al9 [((0:Rat),(1:Rat))]:=⟨Da2,by rw[Ip3];decide +kernel⟩
def Iz2:Nat→Rat:=Iw7 [2] [((0:Rat),(1:Rat))] (ten [2] al9 2) 1
theorem Jc2:Iz2 0=0:=by decide +kernel
theorem Jc1:Iz2 1 = -1/2:=by decide +kernel
theorem Jc8:Iz2 2=0:=by decide +kernel
theorem Jd9:Ed0 (-1/2)=⟨#[45,49,47,50]⟩:=by decide +kernel
theorem Jd6:Sz 1 (-1/2:Rat):=⟨by decide +kernel,by decide +kernel⟩
theorem Im1 {W0:PW} {M:Nat→Prop} (hT:Ac6 W0):
  Aa0 Tryz.prog 13 [] W0 M fun v W'=>v = .bool true∧True:=by
 apply Ii2
 intro s1 W2 hE2 hO1 _
 refine Cg0 (Lt:=pr9) (hT.ext hE2) ⟨_,hO1.row⟩ (by decide) (by decide) fun s5 i6 bs W4 hE4 ⟨q1,q2,_,q4⟩=>⟨s5,i6,rfl,?_⟩
 have hi:=q4 Ev3
 obtain⟨k1,k2,k3⟩:=q2 hi
 have hbs:bs = [(0,1)]:=by
  refine Eu1 k2 rfl k3 fun i h1 h2=>?_
  have:i=0:=by have:i<1:=h1;omega
  subst this
  exact Fn4
 subst hbs
 refine Cr4 (i:=0) fun s9 W8 hE8 h8=>⟨s9,rfl,?_⟩
 refine Ct0 h8 h8 En2 En2 (by omega) (by decide) (by decide) (by decide) fun s12 W11 hE11 h11=>⟨s12,_,rfl,?_⟩
 rw[Fh8] at h11
 refine Db2 h11 (h8.ext hE11) Fg2 En2 (by omega) (by decide) (by decide) fun s16 W15 hE15 h15=>⟨s16,rfl,?_⟩
 rw[Fj1] at h15
 refine Ik5 h15 (q1.ext (hE8.trans (hE11.trans hE15))) Fj8 (by omega) fun s19 W18 hE18 h18=>⟨s19,_,rfl,?_⟩
 rw[if_pos Ix3,Ip3] at h18
 have h18:Gv6 231 42 W18 s19 3 Iz2:=h18
 have hn:=h18.n
 refine⟨fun _=>⟨fun _=>⟨fun _=>⟨fun h3=>?_,fun h3=>absurd (show((s19.n:Nat):Int)=3 by omega) h3⟩,fun e=>absurd e (by rw[decide_eq_true Ix3];decide)⟩,fun e=>absurd e (by rw[decide_eq_true Fj2];decide)⟩,fun e=>absurd hi e⟩
 obtain⟨s21,b22,s23,e0,g0⟩:=h18.at (i:=0) (by omega)
 rw[Jc2] at g0
 refine⟨h18.inB (by omega) (by omega),s21,b22,s23,e0,Bk6 g0 (Sz.zero (Nat.le_refl 1)) (by omega) fun W25 hE25 _=>⟨_,rfl,fun _=>?_,fun e=>absurd (Hv6.2 rfl) e⟩⟩
 obtain⟨s27,b28,s29,e1,g1⟩:=(h18.ext hE25).at (i:=1) (by omega)
 rw[Jc1] at g1
 refine⟨h18.inB (by omega) (by omega),s27,b28,s29,e1,Dc4 g1 Jd6 (by omega) fun W31 hE31 _=>⟨_,rfl,fun _=>?_,fun e=>absurd Jd9 e⟩⟩
 obtain⟨s33,b34,s35,e2,g2⟩:=(h18.ext (hE25.trans hE31)).at (i:=2) (by omega)
 rw[Jc8] at g2
 exact⟨h18.inB (by omega) (by omega),s33,b34,s35,e2,Bk6 g2 (Sz.zero (Nat.le_refl 1)) (by omega) fun W37 hE37 _=>⟨_,rfl,fun W39 _=>⟨congrArg Value.bool (decide_eq_true (Hv6.2 rfl)),trivial⟩⟩⟩
theorem Ii9 {W0 W:PW} {M:Nat→Prop} {K:Value→PW→Prop} (hT:Ac6 W) (kont: ∀(W':PW),Ext W W'→(True)→K (.bool true) W'):
  Aa1 Tryz.prog W0 M 13 [] W K:=
 Aa2 (fun W' hE=>Im1 (M:=fun _=>False) (hT.ext hE)) (fun W' v W'' hE hE' hP=>by
  obtain⟨rfl,h⟩:=hP
  exact kont W'' (hE.trans hE') h)
end Go.Proofs.YtokefihiadbkbaaGreatDoor
/- ref over, places. -/
namespace Go.Proofs.YtokefihiadbkbaaGreatDoor
open Go Go.SX
theorem Ii4 {c:Nat} (h:c≤65536):Sz 1 ((c:Nat):Rat):=
 ⟨by rw[Rat.num_natCast];exact Bc6 (Nat.lt_of_le_of_lt h (by decide +kernel)),by rw[Rat.den_natCast,Ax0];exact Nat.le_refl _⟩
theorem Jb5 (n j:Nat):(ch n j:Rat)*(((n-j:Nat):Rat)/((j+1:Nat):Rat))=(ch n (j+1):Rat):=by
 have hm:(ch n (j+1):Rat)*((j+1:Nat):Rat)=(ch n j:Rat)*((n-j:Nat):Rat):=by
  have:=congrArg (fun x:Nat=>(x:Rat)) (Ip7 n j)
  simpa only[Rat.natCast_mul] using this
 have hc:((j+1:Nat):Rat)≠0:=fun e=>absurd (show j+1=0 by exact_mod_cast e) (by omega)
 rw[Rat.div_def,←Rat.mul_assoc,←hm,Rat.mul_assoc,Rat.mul_inv_cancel _ hc,Rat.mul_one]
def ovB (W0:PW) (n k:Nat) (L:List PL) (W:PW):Prop:=match L with
 | [.val (.int .i64 z),.cells l]=>∃(j:Nat) (b:Bool) (s t:Sl),z=(j:Int)∧l = [.bool b,s.v,t.v]∧j≤k∧Ext W0 W∧Ab6 231 W b s t ((ch n j:Nat):Rat)
 | _=>False
def Jb8 (n:Nat) (L:List PL) (_:PW):Nat:=match L with
 | [.val (.int .i64 z),_]=>n-z.toNat
 | _=>0
theorem Eb8 {W0:PW} {M:Nat→Prop} {n k:Nat} (hn:n≤16) (hk:k≤n):
  Aa0 Tryz.prog 90 [.int .i64 (n:Int),.int .i64 (k:Int)] W0 M fun v W'=>∃(b:Bool),∃(s:Sl),∃(t:Sl),v = .agg ⟨[.bool b,Sl.v s,Sl.v t]⟩∧Ab6 231 W' b s t ((ch n k:Nat):Rat):=by
 apply Im5
 refine Ak1 (z:=1) (by unfold I64;omega) fun b3 s4 s5 W2 hE2 h2=>⟨b3,s4,s5,rfl,?_⟩
 refine⟨ovB W0 n k,Jb8 k,⟨0,b3,s4,s5,rfl,rfl,Nat.zero_le _,hE2,by rw[If2];exact h2⟩,?_⟩
 rintro b8 s9 s10 i11 W12 ⟨j,b,s,t,rfl,el,hj,hE12,h12⟩
 simp only[List.cons.injEq,Value.bool.injEq,and_true] at el
 obtain⟨rfl,q1,q2⟩:=el
 obtain rfl:=Sl.Ck0 q1
 obtain rfl:=Sl.Ck0 q2
 refine⟨fun hlt=>?_,fun hge W33 hE33=>⟨b8,s9,s10,rfl,?_⟩⟩
 ·have hjk:j<k:=by omega
  have e0:(n:Int)-(j:Int)=((n-j:Nat):Int):=by omega
  have e1:(j:Int)+1=((j+1:Nat):Int):=by omega
  rw[e0,e1]
  refine⟨by unfold I64;omega,by unfold I64;omega,?_⟩
  refine Ak1 (z:=((n-j:Nat):Int)) (by unfold I64;omega) fun b15 s16 s17 W14 hE14 h14=>⟨b15,s16,s17,rfl,?_⟩
  refine Ak1 (z:=((j+1:Nat):Int)) (by unfold I64;omega) fun b20 s21 s22 W19 hE19 h19=>⟨b20,s21,s22,rfl,?_⟩
  have z1:Sz 1 ((n-j:Nat):Rat):=Ii4 (by omega)
  have z2:Sz 1 ((j+1:Nat):Rat):=Ii4 (by omega)
  have hc:((j+1:Nat):Rat)≠0:=fun e=>absurd (show j+1=0 by exact_mod_cast e) (by omega)
  refine Io3 (p:=((n-j:Nat):Rat)) (q:=((j+1:Nat):Rat)) (h14.ext hE19) h19 z1 z2 hc (by omega) (by omega) fun b25 s26 s27 W24 hE24 h24=>⟨b25,s26,s27,rfl,?_⟩
  have E:=hE14.trans (hE19.trans hE24)
  refine Am6 (h12.ext E) h24 (Ii4 (Iq6 hn j)) (z1.div z2 (by omega)) (by omega) (by omega) fun b30 s31 s32 W29 hE29 h29=>⟨b30,s31,s32,rfl,by unfold I64;omega,⟨j+1,b30,s31,s32,rfl,rfl,by omega,hE12.trans (E.trans hE29),by rw[←Jb5];exact h29⟩,by show k-Int.toNat ((j+1:Nat):Int)<k-Int.toNat (j:Int);omega⟩
 ·have:j=k:=by omega
  subst this
  exact h12.ext hE33
theorem Cs3 {W0 W:PW} {M:Nat→Prop} {n k:Nat} {K:Value→PW→Prop} (hn:n≤16) (hk:k≤n) (kont: ∀(b:Bool) (s:Sl) (t:Sl) (W':PW),Ext W W'→(Ab6 231 W' b s t ((ch n k:Nat):Rat))→K (.agg ⟨[.bool b,Sl.v s,Sl.v t]⟩) W'):
  Aa1 Tryz.prog W0 M 90 [.int .i64 (n:Int),.int .i64 (k:Int)] W K:=
 Aa2 (fun W' hE=>Eb8 (M:=fun _=>False) hn hk) (fun W' v W'' hE hE' hP=>by
  obtain⟨b,s,t,rfl,h⟩:=hP
  exact kont b s t W'' (hE.trans hE') h)
def Is3 (c:Nat) (zs:List Int):Prop:=Ie1 zs∧c=stN zs zs.length
instance (c:Nat) (zs:List Int):Decidable (Is3 c zs):=by unfold Is3;infer_instance
def Iv0 (zs:List Int) (n:Nat):List Int:=(List.range n).map fun(i:Nat)=>(stN zs i:Int)
def Jf1 (W0:PW) (zs:List Int) (L:List PL) (W:PW):Prop:=match L with
 | [.row l,.val (.int .i64 y),.val (.int .i64 z)]=>∃k:Nat,z=(k:Int)∧k≤zs.length∧Ext W0 W∧(∀x∈zs.take k,0≤x∧x≤16)∧y=(stN zs k:Int)∧l=(Iv0 zs k).map fun z=>[.int .i64 z]
 | _=>False
def Je3 (n:Nat) (L:List PL) (_:PW):Nat:=match L with
 | [_,_,.val (.int .i64 z)]=>n-z.toNat
 | _=>0
theorem Ip6 {W0:PW} {M:Nat→Prop} {s a:Sl} {zs:List Int} {c:Nat} (hz:Id4 W0 a zs) (hc:s.n=c) (hl:zs.length≤5):
  Aa0 Tryz.prog 98 [s.v,a.v] W0 M fun v W'=>∃(f:Sl),v = .tuple ⟨[Sl.v f,.bool (decide (Is3 c zs))]⟩∧(Is3 c zs→Id4 W' f (Iv0 zs zs.length)):=by
 apply Ij3
 have hn:=hz.n
 have bad:¬Is3 c zs→∀W',∃f:Sl,(Value.tuple ⟨[.slice none 0 0,.bool false]⟩) = .tuple ⟨[Sl.v f,.bool (decide (Is3 c zs))]⟩∧(Is3 c zs→Id4 W' f (Iv0 zs zs.length)):=fun hno W'=>⟨⟨none,0,0⟩,by rw[decide_eq_false hno],fun ok=>absurd ok hno⟩
 refine⟨fun h1 W1 _=>bad (fun ok=>by have:=ok.1.2.1;omega) W1,fun h1=>⟨fun h3 W2 _=>bad (fun ok=>by have:=ok.1.2.2;omega) W2,fun h3=>?_⟩⟩
 refine⟨Jf1 W0 zs,Je3 zs.length,⟨0,rfl,Nat.zero_le _,Ext.refl _,by simp,rfl,rfl⟩,?_⟩
 rintro l5 i6 i7 W8 ⟨k,rfl,hk,hE8,hall,rfl,rfl⟩
 have h8:=hz.ext hE8
 refine⟨fun hlt=>?_,fun hge s14 W15 hE15 hO15 hF15 W16 hE16=>?_⟩
 ·have hkl:k<zs.length:=by omega
  have no:¬(0≤zs[k]∧zs[k]≤16)→¬Is3 c zs:=fun e ok=>e (ok.1.1 _ (List.getElem_mem hkl))
  have ib:=h8.inB (i:=(k:Int)) (by omega) (by omega)
  refine⟨ib,zs[k],h8.at hkl,fun hneg W10 _=>bad (no (by omega)) W10,fun hnn=>⟨ib,zs[k],h8.at hkl,fun hbig W12 _=>bad (no (by omega)) W12,fun hsm=>?_⟩⟩
  have hall': ∀x∈zs.take (k+1),0≤x∧x≤16:=fun x hx=>by
   rw[List.take_succ_eq_append_getElem hkl] at hx
   rcases List.mem_append.1 hx with hx | hx
   ·exact hall x hx
   ·rw[List.mem_singleton.1 hx];omega
  have e:(stN zs k:Int)*(zs[k]+1)=(stN zs (k+1):Int):=by rw[←Ih5 hkl (by omega),stN];push_cast;rfl
  have b1:stN zs (k+1)≤1419857:=by rw[←Im3 (m:=k+1) (k+1) (Nat.le_refl _)];exact Im9 hall' (by omega)
  refine⟨?_,ib,zs[k],h8.at hkl,?_⟩
  ·simp only[Iv0,List.length_map,List.length_range,List.length_cons,List.length_nil];omega
  rw[e]
  refine⟨by unfold I64;omega,by unfold I64;omega,by unfold I64;omega,⟨k+1,by push_cast;rfl,by omega,hE8,hall',rfl,?_⟩,by show zs.length-Int.toNat ((k:Int)+1)<zs.length-Int.toNat (k:Int);omega⟩
  unfold Iv0
  rw[List.range_succ,List.map_append,List.map_append]
  rfl
 ·have:k=zs.length:=by omega
  subst this
  rw[List.take_length] at hall
  have hT:Ie1 zs:=⟨hall,by omega,by omega⟩
  refine⟨s14,?_,fun _=>?_⟩
  ·congr 5
   rw[decide_eq_decide]
   exact⟨fun h=>⟨hT,by omega⟩,fun ok=>by have:=ok.2;omega⟩
  ·have h15:Id4 W15 s14 (Iv0 zs zs.length):=⟨_,hO15.row⟩
   exact h15.ext hE16
theorem If7 {W0 W:PW} {M:Nat→Prop} {s a:Sl} {zs:List Int} {c:Nat} {K:Value→PW→Prop} (hz:Id4 W a zs) (hc:s.n=c) (hl:zs.length≤5) (kont: ∀(f:Sl) (W':PW),Ext W W'→((Is3 c zs→Id4 W' f (Iv0 zs zs.length)))→K (.tuple ⟨[Sl.v f,.bool (decide (Is3 c zs))]⟩) W'):
  Aa1 Tryz.prog W0 M 98 [s.v,a.v] W K:=
 Aa2 (fun W' hE=>Ip6 (M:=fun _=>False) (hz.ext hE) hc hl) (fun W' v W'' hE hE' hP=>by
  obtain⟨f,rfl,h⟩:=hP
  exact kont f W'' (hE.trans hE') h)
end Go.Proofs.YtokefihiadbkbaaGreatDoor
/- bern.Halves. -/
namespace Go.Proofs.YtokefihiadbkbaaGreatDoor
open Go Go.SX
abbrev Ig4:Rat:=((1:Int):Rat)/((2:Int):Rat)
def loT (f:Nat→Rat) (i:Nat):Rat:=dc Ig4 f i 0
def hiT (n:Nat) (f:Nat→Rat) (i:Nat):Rat:=dc Ig4 f (n-1-i) i
def Gc4 (c:Nat) (zs:List Int) (i:Int):Prop:=Ie1 zs∧c=stN zs zs.length∧0≤i∧i<(zs.length:Int)
instance (c:Nat) (zs:List Int) (i:Int):Decidable (Gc4 c zs i):=by unfold Gc4;infer_instance
theorem If5:Sz 2 Ig4:=⟨by decide +kernel,by decide +kernel⟩
theorem Ir7 (W:PW) (f:Nat→Rat):Gv6 231 42 W ⟨none,0,0⟩ 0 f:=⟨[],⟨rfl,Nat.le_refl _,by simp[maxLen],by simp,.inl rfl⟩,rfl,fun i h=>absurd h (Nat.not_lt_zero _)⟩
theorem In0 {W0:PW} {M:Nat→Prop} {s a:Sl} {zs:List Int} {c D N k:Nat} {F:Nat→Rat} {i:Int} (h:Gv6 231 42 W0 s c F) (hz:Id4 W0 a zs) (hl:zs.length≤5) (hc:c≤1000000) (hf:Id9 c D N F) (hD:D≠0) (k1:nl D≤k) (k2:nl N≤k) (hk:k≤2000000):
  Aa0 Tryz.prog 35 [s.v,a.v,.int .i64 i] W0 M fun v W'=>∃(s1:Sl),∃(s2:Sl),v = .tuple ⟨[Sl.v s1,Sl.v s2,.bool (decide (Gc4 c zs i))]⟩∧Gv6 231 42 W' s1 (if Gc4 c zs i then c else 0) (Id6 (stN zs i.toNat) (tpN zs i.toNat) loT F)∧Gv6 231 42 W' s2 (if Gc4 c zs i then c else 0) (Id6 (stN zs i.toNat) (tpN zs i.toNat) (hiT (tpN zs i.toNat)) F):=by
 apply Ij4
 have hn:=h.n
 have han:=hz.n
 have bad:¬Gc4 c zs i→∀W',∃s1 s2:Sl,(Value.tuple ⟨[.slice none 0 0,.slice none 0 0,.bool false]⟩) = .tuple ⟨[Sl.v s1,Sl.v s2,.bool (decide (Gc4 c zs i))]⟩∧Gv6 231 42 W' s1 (if Gc4 c zs i then c else 0) (Id6 (stN zs i.toNat) (tpN zs i.toNat) loT F)∧Gv6 231 42 W' s2 (if Gc4 c zs i then c else 0) (Id6 (stN zs i.toNat) (tpN zs i.toNat) (hiT (tpN zs i.toNat)) F):=fun hno W'=>⟨⟨none,0,0⟩,⟨none,0,0⟩,by rw[decide_eq_false hno],by rw[if_neg hno];exact Ir7 W' _,by rw[if_neg hno];exact Ir7 W' _⟩
 refine Ie5 hz hl fun z W2 hE2 hcnt=>⟨z,_,rfl,fun hno W5 _=>bad (fun ok=>by simp[ok.1] at hno) W5,fun hyes=>?_⟩
 have hT:Ie1 zs:=by simpa using hyes
 have hcnt:=hcnt hT
 have h16:=hT.1
 refine⟨fun hne W6 _=>bad (fun ok=>hne (by rw[hn,hcnt,ok.2.1])) W6,fun heq=>⟨fun hneg W7 _=>bad (fun ok=>by have:=ok.2.2.1;omega) W7,fun hnn=>⟨fun hbig W8 _=>bad (fun ok=>by have:=ok.2.2.2;omega) W8,fun hsm=>?_⟩⟩⟩
 have hcc:c=stN zs zs.length:=by omega
 obtain⟨j,rfl⟩: ∃j:Nat,i=(j:Int):=⟨i.toNat,by omega⟩
 have hj:j<zs.length:=by omega
 have ok:Gc4 c zs (j:Int):=⟨hT,hcc,by omega,by omega⟩
 have htl:=If0 h16 j
 have hcp:=Ie2 zs zs.length
 rw[←hcc] at hcp
 refine Ay8 (z:=1) (by unfold I64;omega) fun s11 b12 s13 W10 hE10 h10=>⟨s11,b12,s13,rfl,?_⟩
 refine Ay8 (z:=2) (by unfold I64;omega) fun s16 b17 s18 W15 hE15 h15=>⟨s16,b17,s18,rfl,?_⟩
 refine Gb1 (h10.ext hE15) h15 (k:=2) (l:=2) ⟨by decide +kernel,by decide +kernel⟩ ⟨by decide +kernel,by decide +kernel⟩ (by omega) (by omega) (by omega) fun s21 b22 s23 W20 hE20 h20=>⟨s21,b22,s23,_,rfl,?_⟩
 have E20:=hE2.trans (hE10.trans (hE15.trans hE20))
 obtain⟨xs,hr,hq⟩:=h.ext E20
 have hxl:=hq.1
 refine⟨xs,⟨_,hr⟩,by omega,xs,⟨_,hr⟩,by omega,fun r W28 hE28 hel hFr s29 W30 hE30 hO29 hF29=>?_⟩
 have hX:XQ W28 r 1 fun _=>Ig4:=In9.mk1 hel (h20.ext hE28)
 have hV:VQ W30 s29 c F:=⟨_,hO29,(hq.ext hE28).ext hE30⟩
 have aw:Iz4 r s29:=fun g h1 h2=>by
  obtain⟨k1,k2⟩:=XQ.pub hX h1
  exact k2 ((hF29 g h2).2 k1)
 have E30:=E20.trans (hE28.trans hE30)
 intro W' hE'
 have hlo:=If3 (T:=loT) (D:=D) (N:=N) (g:=101) (by rw[←hcc];exact hV.ext hE') ((hz.ext E30).ext hE') hT hj ((hX.ext hE30).ext hE') aw (by rw[←hcc];exact hf) (fun f g he i hi=>Ii1 (n:=tpN zs j) he i 0 (by omega)) fun W u f g1 g2 g3 g4=>It8 g1 g2 g3 g4 hD k1 k2 If5 htl (by omega) (by omega)
 rw[←hcc] at hlo
 refine⟨_,_,hlo,fun b hb=>⟨(VQ.pub (hV.ext hE') hcp hb).2,.inr (hF29 b hb).1⟩,fun v W32 hX32 hP32=>⟨hP32.1,fun s33 W34 hE34 hO33 hF33=>?_⟩⟩
 have hput:=OwV.did hV hcp hE' hX32
 have hV1:=hP32.2
 have hX2:XQ W32 r 1 fun _=>Ig4:=(hX.ext hE30).put hput aw (by decide)
 have hz2:Id4 W32 a zs:=(hz.ext E30).put hput fun g h1 h2=>by
  obtain⟨k1,k2⟩:=(hz.ext (E20.trans hE28)).pub (by have:=hT.2.1;omega) h1
  exact k2 ((hF29 g h2).2 k1)
 have hV2:VQ W34 s33 c F:=⟨_,hO33,(hput.qs ((hq.ext hE28).ext hE30) (by decide)).ext hE34⟩
 have aw2:Iz4 r s33:=fun g h1 h2=>by
  obtain⟨k1,k2⟩:=XQ.pub hX2 h1
  exact k2 ((hF33 g h2).2 k1)
 have ap: ∀g,s29.v.ownBlock=some g→¬s33.v.ownBlock=some g:=fun g h1 h2=>by
  obtain⟨k1,k2⟩:=VQ.pub hV1 hcp h1
  exact k2 ((hF33 g h2).2 k1)
 intro W'' hE''
 have hhi:=If3 (T:=hiT (tpN zs j)) (D:=D) (N:=N) (g:=102) (by rw[←hcc];exact hV2.ext hE'') ((hz2.ext hE34).ext hE'') hT hj ((hX2.ext hE34).ext hE'') aw2 (by rw[←hcc];exact hf) (fun f g he i hi=>Ii1 (n:=tpN zs j) he _ _ (by omega)) fun W u f g1 g2 g3 g4=>Iq3 g1 g2 g3 g4 hD k1 k2 If5 htl (by omega) (by omega)
 rw[←hcc] at hhi
 refine⟨_,_,hhi,fun b hb=>⟨(VQ.pub (hV2.ext hE'') hcp hb).2,.inr (hF33 b hb).1⟩,fun v W36 hX36 hP36=>⟨hP36.1,fun W37 hE37=>⟨s29,s33,by rw[decide_eq_true ok],?_,?_⟩⟩⟩
 ·rw[if_pos ok]
  exact(((hV1.ext hE34).put (OwV.did hV2 hcp hE'' hX36) ap (by decide)).ext hE37).qs
 ·rw[if_pos ok]
  exact(hP36.2.ext hE37).qs
theorem Ij1 {W0 W:PW} {M:Nat→Prop} {s a:Sl} {zs:List Int} {c D N k:Nat} {F:Nat→Rat} {i:Int} {K:Value→PW→Prop} (h:Gv6 231 42 W s c F) (hz:Id4 W a zs) (hl:zs.length≤5) (hc:c≤1000000) (hf:Id9 c D N F) (hD:D≠0) (k1:nl D≤k) (k2:nl N≤k) (hk:k≤2000000) (kont: ∀(s1:Sl) (s2:Sl) (W':PW),Ext W W'→(Gv6 231 42 W' s1 (if Gc4 c zs i then c else 0) (Id6 (stN zs i.toNat) (tpN zs i.toNat) loT F)∧Gv6 231 42 W' s2 (if Gc4 c zs i then c else 0) (Id6 (stN zs i.toNat) (tpN zs i.toNat) (hiT (tpN zs i.toNat)) F))→K (.tuple ⟨[Sl.v s1,Sl.v s2,.bool (decide (Gc4 c zs i))]⟩) W'):
  Aa1 Tryz.prog W0 M 35 [s.v,a.v,.int .i64 i] W K:=
 Aa2 (fun W' hE=>In0 (M:=fun _=>False) (h.ext hE) (hz.ext hE) hl hc hf hD k1 k2 hk) (fun W' v W'' hE hE' hP=>by
  obtain⟨s1,s2,rfl,h⟩:=hP
  exact kont s1 s2 W'' (hE.trans hE') h)
end Go.Proofs.YtokefihiadbkbaaGreatDoor
/- bern.At. -/
namespace Go.Proofs.YtokefihiadbkbaaGreatDoor
open Go Go.SX
theorem Im2 {W:PW} {s:Sl} {lo hi i:Nat} {l:List Value} (h:Aa7 W s 3 (lo+i) 0 l) (hc:s.c≠lo):Aa7 W (s.cut 3 lo hi) 3 i 0 l:=by
 obtain⟨b,o,cs,t,fz,hA,hS,hh,hc'⟩:=h
 refine⟨b,o+lo*3,cs,t,fz,?_,hS,hh,fun j v hj=>?_⟩
 ·unfold Sl.cut
  rw[if_neg hc]
  simp[hA,Addr.add]
 ·have:=hc' j v hj
  rwa [show o+lo*3+(i*3+0)+j=o+((lo+i)*3+0)+j by omega]
theorem Ix1 {W0 W:PW} {M:Nat→Prop} {s:Sl} {lo hi i:Nat} {l:List Value} {K:PW→Prop} (h:An9 W0 M s ((lo+i)*3+0) l W K) (hc:s.c≠lo):An9 W0 M (s.cut 3 lo hi) (i*3+0) l W K:=fun W' hE=>by
 obtain⟨g,o,cs,t,hA,hS,hh,hle,hm,hk⟩:=h W' hE
 refine⟨g,o+lo*3,cs,t,?_,hS,hh,by omega,hm,fun W'' hp=>hk W'' ?_⟩
 ·unfold Sl.cut
  rw[if_neg hc]
  simp[hA,Addr.add]
 ·rwa [show o+lo*3+(i*3+0)=o+((lo+i)*3+0) by omega] at hp
theorem Im4 {s:Sl} {lo hi:Nat} {i:Int} (h:SX.inB s (lo+i)) (hc:s.c≠lo) (h0:0≤i) (h1:(lo:Int)+i<hi):SX.inB (s.cut 3 lo hi) i:=by
 refine⟨h0,?_,?_⟩
 ·show i<((hi-lo:Nat):Int)
  omega
 ·unfold Sl.cut
  rw[if_neg hc]
  have:=h.2.2
  cases hA:s.A with
  | none=>rw[hA] at this;cases this
  | some x=>rfl
def rN (zs:List Int):Nat→Nat→Nat
 | i,0=>1
 | i,k+1=>tpN zs i*rN zs (i+1) k
theorem Ir5 (zs:List Int) (i:Nat): ∀k,stN zs (i+k)=stN zs i*rN zs i k:=by
 intro k
 induction k generalizing i with
 | zero=>rw[rN,Nat.mul_one];rfl
 | succ k ih=>
  rw[show i+(k+1)=(i+1)+k by omega,ih (i+1),rN,stN,Nat.mul_assoc]
def lvl (zs:List Int) (F U:Nat→Rat):Nat→Nat→Rat
 | 0,c=>F c
 | i+1,c=>dc (U i) (fun j=>lvl zs F U i (c*tpN zs i+j)) (tpN zs i-1) 0
theorem Iw4 {zs:List Int} (h16: ∀z∈zs,0≤z∧z≤16) {F U:Nat→Rat} {D N k l:Nat} (hf:Id9 (stN zs zs.length) D N F) (hD:D≠0) (k1:nl D≤k) (k2:nl N≤k) (hU: ∀i,i<zs.length→Sz l (U i)): ∀i,i≤zs.length→∃D' N',Id9 (rN zs i (zs.length-i)) D' N' (lvl zs F U i)∧D'≠0∧nl D'≤k+i*((l+2)*16+1)∧nl N'≤k+i*((l+2)*16+1)
 | 0,_=>⟨D,N,by have:=Ir5 zs 0 zs.length;rw[Nat.zero_add] at this;rw[Nat.sub_zero];rw[this,stN,Nat.one_mul] at hf;exact hf,hD,by omega,by omega⟩
 | i+1,h=>by
  obtain⟨D1,N1,h1,h2,h3,h4⟩:=Iw4 h16 hf hD k1 k2 hU i (by omega)
  have hs:=hU i (by omega)
  have htl:=If0 h16 i
  have htp:=Ie4 zs i
  rw[show zs.length-i=(zs.length-(i+1))+1 by omega,rN] at h1
  refine⟨D1*(U i).den^(tpN zs i-1),N1*((U i).den+2*(U i).num.natAbs)^(tpN zs i-1),fun c hc=>?_,Nat.mul_ne_zero h2 (Ch9 (U i).den_nz _),?_,?_⟩
  ·refine Is5 (n:=tpN zs i) (fun j hj=>h1 _ ?_) (Ak3.den (U i)) _ _ (by omega)
   have:(c+1)*tpN zs i≤rN zs (i+1) (zs.length-(i+1))*tpN zs i:=Nat.mul_le_mul_right _ hc
   rw[Nat.add_mul,Nat.one_mul,Nat.mul_comm (rN zs (i+1) (zs.length-(i+1)))] at this
   omega
  ·have e1:=Go.SX.Cf5 (U i).den (tpN zs i-1)
   have e2:=Ae5 D1 ((U i).den^(tpN zs i-1))
   have e3:nl (U i).den*(tpN zs i-1)≤(l+2)*16:=Nat.mul_le_mul (by have:=hs.2;omega) (by omega)
   rw[Nat.add_mul,Nat.one_mul]
   omega
  ·have e1:=Go.SX.Cf5 ((U i).den+2*(U i).num.natAbs) (tpN zs i-1)
   have e2:=Ae5 N1 (((U i).den+2*(U i).num.natAbs)^(tpN zs i-1))
   have e5:nl ((U i).den+2*(U i).num.natAbs)≤l+2:=by
    have h1:nl ((U i).num.natAbs+(U i).num.natAbs)≤l+1:=Cw6 hs.1 hs.1
    rw[←Nat.two_mul] at h1
    exact Cw6 (Nat.le_trans hs.2 (by omega)) h1
   have e3:nl ((U i).den+2*(U i).num.natAbs)*(tpN zs i-1)≤(l+2)*16:=Nat.mul_le_mul e5 (by omega)
   rw[Nat.add_mul,Nat.one_mul]
   omega
def Il7 (c:Nat) (zs:List Int) (e:Nat):Prop:=Ie1 zs∧c=stN zs zs.length∧e=zs.length
instance (c:Nat) (zs:List Int) (e:Nat):Decidable (Il7 c zs e):=by unfold Il7;infer_instance
def bA (W0:PW) (zs:List Int) (F U:Nat→Rat) (L:List PL) (W:PW):Prop:=match L with
 | [.row l,.val (.int .i64 z)]=>∃i:Nat,z=(i:Int)∧i≤zs.length∧Eo1 W0.w.heap.size W0 W∧Qs 231 W l (rN zs i (zs.length-i)) (lvl zs F U i)
 | _=>False
def bM (W0:PW) (zs:List Int) (F U:Nat→Rat) (i n R:Nat) (s:Sl) (L:List PL) (W:PW):Prop:=match L with
 | [.row l,.val (.int .i64 z)]=>∃(c:Nat) (G:Nat→Rat),z=((c*n:Nat):Int)∧c≤R∧Eo1 W0.w.heap.size W0 W∧Qs 231 W l c (lvl zs F U (i+1))∧VQ W s (n*R) G∧∀x,c*n≤x→G x=lvl zs F U i x
 | _=>False
def bK (W0:PW) (zs:List Int) (F U:Nat→Rat) (i n R c k0:Nat) (l:List (List Value)) (s:Sl) (L:List PL) (W:PW):Prop:=match L with
 | [.val (.int .i64 z)]=>∃(k:Nat) (G:Nat→Rat),z=(k:Int)∧k+1≤n∧Eo1 W0.w.heap.size W0 W∧Qs 231 W l c (lvl zs F U (i+1))∧VQ W s (n*R) G∧(∀x,(c+1)*n≤x→G x=lvl zs F U i x)∧∀j,j<n→G (c*n+j)=hiS (U i) (fun j=>lvl zs F U i (c*n+j)) n k 0 j
 | _=>False
def bJ (W0:PW) (zs:List Int) (F U:Nat→Rat) (i n R c k:Nat) (l:List (List Value)) (s:Sl) (L:List PL) (W:PW):Prop:=match L with
 | [.val (.int .i64 z)]=>∃(j:Nat) (G:Nat→Rat),z=(j:Int)∧j+k+1≤n∧Eo1 W0.w.heap.size W0 W∧Qs 231 W l c (lvl zs F U (i+1))∧VQ W s (n*R) G∧(∀x,(c+1)*n≤x→G x=lvl zs F U i x)∧∀m,m<n→G (c*n+m)=hiS (U i) (fun j=>lvl zs F U i (c*n+j)) n k j m
 | _=>False
end Go.Proofs.YtokefihiadbkbaaGreatDoor
