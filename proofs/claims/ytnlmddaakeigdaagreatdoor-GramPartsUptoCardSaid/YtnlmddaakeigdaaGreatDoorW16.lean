/- nat.Zeros, dyad.Of, box.Parse; the reference's; cincturelaw6.Of. What the dyads are is left open: only that the texts that are taken are the sides. -/
import Derived.Test.YtnlmddaakeigdaaGreatDoorW13
import Derived.Test.YtnlmddaakeigdaaGreatDoorW6
import Derived.Test.YtnlmddaakeigdaaGreatDoorW15
import Derived.Test.YtnlmddaakeigdaaGreatDoorW9
import Derived.Test.YtnlmddaakeigdaaGreatDoorLib5
import Derived.Test.YtnlmddaakeigdaaGreatDoorR14
import Derived.Test.YtnlmddaakeigdaaGreatDoorW12
import Derived.Test.YtnlmddaakeigdaaGreatDoorLib4
import Derived.Test.YtnlmddaakeigdaaGreatDoorR10
set_option linter.unusedVariables false
set_option linter.unusedSimpArgs false
set_option maxRecDepth 100000
set_option linter.unusedVariables false
set_option linter.unusedSimpArgs false
namespace Go.Proofs.YtnlmddaakeigdaaGreatDoor
open Go Go.SX
theorem natZeros_ok {W0:PW} {M:Nat→Prop} {s:Sl} {x:Nat} (hT:TabOK W0) (h:IsNat 268 W0 s x) (hx:nl x≤30000):
  PCallsM Go.Proofs.Tryz.prog 198 [.agg ⟨[s.v]⟩] W0 M fun v W'=>∃(i:Int),v = .int .i64 i∧(0≤i∧i≤960032):=by
 apply callnat_Nat_Zeros
 have hn:=h.n
 refine⟨fun L W=>match L with | [.val (.int .i64 z)]=>∃j:Nat,z=(j:Int)∧j≤nl x∧Ext W0 W | _=>False,(fun L _=>match L with | [.val (.int .i64 z)]=>nl x-z.toNat | _=>0),⟨0,rfl,Nat.zero_le _,Ext.refl _⟩,?_⟩
 rintro i3 W4 ⟨j,rfl,hj,hE4⟩
 refine⟨fun hlt=>?_,fun hge W10 _=>⟨0,rfl,by omega,by omega⟩⟩
 have hjl:j<nl x:=by omega
 have h4:=h.ext hE4
 have hll:(dg x).length=nl x:=rfl
 have hd:(dg x)[j]<4294967296:=dig_dg x _ (List.getElem_mem (l:=dg x) (n:=j) hjl)
 refine⟨Digs.inB h4 (by omega) (by omega),_,Digs.at h4 hjl,fun hne=>⟨by unfold I64;omega,?_⟩,fun heq=>⟨by unfold I64;omega,⟨j+1,by push_cast;rfl,by omega,hE4⟩,?_⟩⟩
 ·refine tz32_call (hT.ext hE4) hd fun W7 hE7 _=>⟨_,rfl,?_⟩
  have hc:Go.Lib.ctz 32 (dg x)[j]≤32:=by
   by_cases h0:(dg x)[j]=0
   ·unfold Go.Lib.ctz;rw[if_pos h0];exact Nat.le_refl _
   ·exact Nat.le_of_lt (Go.Lib.lowest_bit 32 _ h0 hd).2
  refine⟨by unfold I64;omega,fun W9 hE9=>⟨_,rfl,by omega,by omega⟩⟩
 ·show nl x-Int.toNat ((j:Int)+1)<nl x-Int.toNat (j:Int)
  omega
theorem natZeros_call {W0 W:PW} {M:Nat→Prop} {s:Sl} {x:Nat} {K:Value→PW→Prop} (hT:TabOK W) (h:IsNat 268 W s x) (hx:nl x≤30000) (kont: ∀(i:Int) (W':PW),Ext W W'→((0≤i∧i≤960032))→K (.int .i64 i) W'):
  callN Go.Proofs.Tryz.prog W0 M 198 [.agg ⟨[s.v]⟩] W K:=
 callN_of (fun W' hE=>natZeros_ok (M:=fun _=>False) (hT.ext hE) (h.ext hE) hx) (fun W' v W'' hE hE' hP=>by
  obtain⟨i,rfl,h⟩:=hP
  exact kont i W'' (hE.trans hE') h)
theorem ratNum_ok {W0:PW} {M:Nat→Prop} {s t:Sl} {b:Bool} {q:Rat} (h:IsRat 268 W0 s b t q):
  PCallsM Go.Proofs.Tryz.prog 200 [.agg ⟨[s.v,.bool b,t.v]⟩] W0 M fun v W'=>v = .agg ⟨[Sl.v s,.bool b]⟩∧True:=by
 apply callrat_Rat_Num
 exact fun W1 _=>⟨rfl,trivial⟩
theorem ratNum_call {W0 W:PW} {M:Nat→Prop} {s t:Sl} {b:Bool} {q:Rat} {K:Value→PW→Prop} (h:IsRat 268 W s b t q) (kont: ∀(W':PW),Ext W W'→(True)→K (.agg ⟨[Sl.v s,.bool b]⟩) W'):
  callN Go.Proofs.Tryz.prog W0 M 200 [.agg ⟨[s.v,.bool b,t.v]⟩] W K:=
 callN_of (fun W' hE=>ratNum_ok (M:=fun _=>False) (h.ext hE)) (fun W' v W'' hE hE' hP=>by
  obtain⟨rfl,h⟩:=hP
  exact kont W'' (hE.trans hE') h)
theorem dyadOdd_ok {W0:PW} {M:Nat→Prop} {s:Sl} {b:Bool} {z e:Int} (hT:TabOK W0) (h:IsInt 268 W0 s b z) (hz:nl z.natAbs≤30000) (he: -10000000≤e∧e≤10000000):
  PCallsM Go.Proofs.Tryz.prog 199 [.agg ⟨[s.v,.bool b]⟩,.int .i64 e] W0 M fun v W'=>∃(s':Sl),∃(b':Bool),∃(i:Int),v = .agg ⟨[Sl.v s',.bool b',.int .i64 i]⟩∧True:=by
 apply calldyad_odd
 refine wholeSign_call h (by omega) fun W2 hE2 _=>⟨_,rfl,fun _ W4 _=>⟨⟨none,0,0⟩,false,0,rfl,trivial⟩,fun _=>?_⟩
 refine wholeAbs_call (h.ext hE2) fun s7 W6 hE6 h6=>⟨s7,rfl,?_⟩
 refine natZeros_call (hT.ext (hE2.trans hE6)) h6 hz fun i10 W9 hE9 hi=>⟨i10,rfl,by unfold I64;omega,?_⟩
 have E9:=hE2.trans (hE6.trans hE9)
 refine wholeSign_call (h.ext E9) (by omega) fun W12 hE12 _=>⟨_,rfl,?_⟩
 refine wholeAbs_call (h.ext (E9.trans hE12)) fun s16 W15 hE15 h15=>⟨s16,rfl,?_⟩
 obtain⟨k,rfl⟩:=Int.eq_ofNat_of_zero_le hi.1
 refine natShr_call h15 (by omega) (by omega) fun s19 W18 hE18 h18=>⟨s19,rfl,?_⟩
 have hsh:nl (z.natAbs/2^k)≤30000:=Nat.le_trans (nl_mono (Nat.div_le_self _ _)) hz
 refine wholeFrom_call h18 (by omega) fun s22 b23 W21 hE21 h21=>⟨s22,b23,rfl,fun W24 _=>⟨s22,b23,_,rfl,trivial⟩⟩
theorem dyadOdd_call {W0 W:PW} {M:Nat→Prop} {s:Sl} {b:Bool} {z e:Int} {K:Value→PW→Prop} (hT:TabOK W) (h:IsInt 268 W s b z) (hz:nl z.natAbs≤30000) (he: -10000000≤e∧e≤10000000) (kont: ∀(s':Sl) (b':Bool) (i:Int) (W':PW),Ext W W'→(True)→K (.agg ⟨[Sl.v s',.bool b',.int .i64 i]⟩) W'):
  callN Go.Proofs.Tryz.prog W0 M 199 [.agg ⟨[s.v,.bool b]⟩,.int .i64 e] W K:=
 callN_of (fun W' hE=>dyadOdd_ok (M:=fun _=>False) (hT.ext hE) (h.ext hE) hz he) (fun W' v W'' hE hE' hP=>by
  obtain⟨s',b',i,rfl,h⟩:=hP
  exact kont s' b' i W'' (hE.trans hE') h)
theorem dyadOf_ok {W0:PW} {M:Nat→Prop} {s t:Sl} {b:Bool} {q:Rat} (hT:TabOK W0) (h:IsRat 268 W0 s b t q) (hq:Sz 4000 q):
  PCallsM Go.Proofs.Tryz.prog 160 [.agg ⟨[s.v,.bool b,t.v]⟩] W0 M fun v W'=>∃(s':Sl),∃(b':Bool),∃(i:Int),∃(ok:Bool),v = .tuple ⟨[.agg ⟨[Sl.v s',.bool b',.int .i64 i]⟩,.bool ok]⟩∧True:=by
 apply calldyad_Of
 have hd:nl q.den≤4000:=hq.2
 refine ratDen_call h hq (by omega) fun s3 b4 W2 hE2 h2=>⟨s3,b4,rfl,?_⟩
 refine wholeAbs_call h2 fun s7 W6 hE6 h6=>⟨s7,rfl,?_⟩
 rw[Int.natAbs_natCast] at h6
 have E6:=hE2.trans hE6
 refine natZeros_call (hT.ext E6) h6 (by omega) fun i10 W9 hE9 hi=>⟨i10,rfl,?_⟩
 refine natBits_call (h6.ext hE9) (by omega) fun W12 hE12 _=>⟨_,rfl,?_⟩
 have hbl:=blen_nl q.den
 refine⟨by unfold I64;omega,fun _ W14 _=>⟨⟨none,0,0⟩,false,0,false,rfl,trivial⟩,fun _=>?_⟩
 have E12:=E6.trans (hE9.trans hE12)
 refine ratNum_call (h.ext E12) fun W16 hE16 _=>⟨s,b,rfl,?_⟩
 refine natZeros_call (hT.ext (E12.trans hE16)) (h6.ext (hE9.trans (hE12.trans hE16))) (by omega) fun i21 W20 hE20 hi2=>⟨i21,rfl,by unfold I64;omega,?_⟩
 refine dyadOdd_call (hT.ext (E12.trans (hE16.trans hE20))) (h.ext (E12.trans (hE16.trans hE20))).1 (by have:=hq.1;omega) (by omega) fun s24 b25 i26 W23 hE23 _=>⟨s24,b25,i26,rfl,fun W27 _=>⟨s24,b25,i26,true,rfl,trivial⟩⟩
theorem dyadOf_call {W0 W:PW} {M:Nat→Prop} {s t:Sl} {b:Bool} {q:Rat} {K:Value→PW→Prop} (hT:TabOK W) (h:IsRat 268 W s b t q) (hq:Sz 4000 q) (kont: ∀(s':Sl) (b':Bool) (i:Int) (ok:Bool) (W':PW),Ext W W'→(True)→K (.tuple ⟨[.agg ⟨[Sl.v s',.bool b',.int .i64 i]⟩,.bool ok]⟩) W'):
  callN Go.Proofs.Tryz.prog W0 M 160 [.agg ⟨[s.v,.bool b,t.v]⟩] W K:=
 callN_of (fun W' hE=>dyadOf_ok (M:=fun _=>False) (hT.ext hE) (h.ext hE) hq) (fun W' v W'' hE hE' hP=>by
  obtain⟨s',b',i,ok,rfl,h⟩:=hP
  exact kont s' b' i ok W'' (hE.trans hE') h)
end Go.Proofs.YtnlmddaakeigdaaGreatDoor

/- box.Parse; the reference's; cincturelaw6.Of. -/
set_option maxRecDepth 100000
set_option linter.unusedVariables false
set_option linter.unusedSimpArgs false
namespace Go.Proofs.YtnlmddaakeigdaaGreatDoor
open Go Go.SX
theorem spP_ivs {a b:ByteArray} :IvS 4000 ((spP a b).getD (0,0)):=by
 cases e:spP a b with
 | none=>exact⟨Sz.zero (by omega),Sz.zero (by omega)⟩
 | some x=>
  obtain⟨p1,p2,p3⟩:=spP_some e
  exact⟨(parseQ_sz p1).1,(parseQ_sz p2).1⟩
theorem boxSide_ok {W0:PW} {M:Nat→Prop} {a b:ByteArray} (hT:TabOK W0) (ha:a.size≤1099511627776) (hb:b.size≤1099511627776):
  PCallsM Go.Proofs.Tryz.prog 110 [.agg ⟨[.string a,.string b]⟩] W0 M fun v W'=>∃(l:List Value),∃(i:Int),∃(x:Iv),v = .tuple ⟨[.agg ⟨l⟩,.int .i64 i]⟩∧SpV 268 W' l x∧(i=0→spP a b=some x∧x.1<x.2):=by
 apply callbox_side
 refine spanParse_call ha hb fun l e W2 hE2 ⟨h2,he⟩=>?_
 obtain⟨s3,b4,s5,s6,b7,s8,rfl,q1,q2⟩:=h2
 have hz:=@spP_ivs a b
 refine⟨s3,b4,s5,s6,b7,s8,e,rfl,?_⟩
 refine dyadOf_call (hT.ext hE2) q1 hz.1 fun s12 b13 i14 b15 W11 hE11 _=>⟨s12,b13,i14,b15,rfl,?_⟩
 refine dyadOf_call (hT.ext (hE2.trans hE11)) (q2.ext hE11) hz.2 fun s18 b19 i20 b21 W17 hE17 _=>⟨s18,b19,i20,b21,rfl,fun hne W22 _=>⟨_,e,(0,0),rfl,SpV.zero W22,fun h=>absurd h hne⟩,fun h0=>?_⟩
 have E:=hE11.trans hE17
 refine ratCmp_call (q1.ext E) (q2.ext E) hz.1 hz.2 (by omega) (by omega) fun W24 hE24 _=>⟨_,rfl,fun _ W26 _=>⟨_,1,(0,0),rfl,SpV.zero W26,fun h=>by omega⟩,fun hc=>⟨fun _ W27 _=>⟨_,2,(0,0),rfl,SpV.zero W27,fun h=>by omega⟩,fun _=>⟨fun _ W28 _=>⟨_,2,(0,0),rfl,SpV.zero W28,fun h=>by omega⟩,fun _ W29 hE29=>?_⟩⟩⟩
 obtain⟨x,hx⟩:=Option.isSome_iff_exists.1 (he.1 (Decidable.not_not.1 h0))
 rw[hx] at q1 q2 hc
 have hc:¬0≤cmpQ x.1 x.2:=hc
 have E2:=E.trans (hE24.trans hE29)
 exact⟨_,0,x,rfl,⟨s3,b4,s5,s6,b7,s8,rfl,q1.ext E2,q2.ext E2⟩,fun _=>⟨hx,cmpQ_lt.1 (by omega)⟩⟩
theorem boxSide_call {W0 W:PW} {M:Nat→Prop} {a b:ByteArray} {K:Value→PW→Prop} (hT:TabOK W) (ha:a.size≤1099511627776) (hb:b.size≤1099511627776) (kont: ∀(l:List Value) (i:Int) (x:Iv) (W':PW),Ext W W'→(SpV 268 W' l x∧(i=0→spP a b=some x∧x.1<x.2))→K (.tuple ⟨[.agg ⟨l⟩,.int .i64 i]⟩) W'):
  callN Go.Proofs.Tryz.prog W0 M 110 [.agg ⟨[.string a,.string b]⟩] W K:=
 callN_of (fun W' hE=>boxSide_ok (M:=fun _=>False) (hT.ext hE) ha hb) (fun W' v W'' hE hE' hP=>by
  obtain⟨l,i,x,rfl,h⟩:=hP
  exact kont l i x W'' (hE.trans hE') h)
def bxI (W0:PW) (Lt:List (ByteArray×ByteArray)) (L:List PL) (W:PW):Prop:=match L with
 | [.row l,.val (.int .i64 z)]=>∃(j:Nat) (m:List Iv),z=(j:Int)∧j≤Lt.length∧Ext W0 W∧m.length=j∧All2 (SpV 268 W) l m∧(∀i (hi:i<m.length) (hi':i<Lt.length),spP Lt[i].1 Lt[i].2=some m[i])∧∀x∈m,x.1<x.2
 | _=>False
def rbxI (W0:PW) (Lt:List (ByteArray×ByteArray)) (L:List PL) (W:PW):Prop:=match L with
 | [.row l,.val (.int .i64 z)]=>∃(j:Nat) (m:List Iv),z=(j:Int)∧j≤Lt.length∧Ext W0 W∧m.length=j∧All2 (RSpV 268 W) l m∧(∀i (hi:i<m.length) (hi':i<Lt.length),spP Lt[i].1 Lt[i].2=some m[i])
 | _=>False
def cnD (n:Nat) (L:List PL) (_:PW):Nat:=match L with
 | [_,.val (.int .i64 z)]=>n-z.toNat
 | _=>0
theorem IsPrs.ext {W W':PW} {s:Sl} {L:List (ByteArray×ByteArray)} (h:IsPrs W s L) (hE:Ext W W'):IsPrs W' s L:=let⟨ty,h⟩:=h;⟨ty,h.ext hE⟩
theorem IsPrs.n {W:PW} {s:Sl} {L:List (ByteArray×ByteArray)} (h:IsPrs W s L):s.n=L.length:=let⟨ty,h⟩:=h;by have:=h.1;rwa [List.length_map] at this
theorem IsPrs.inB {W:PW} {s:Sl} {L:List (ByteArray×ByteArray)} (h:IsPrs W s L) {i:Int} (h0:0≤i) (h1:i<(L.length:Int)):SX.inB s i:=let⟨ty,h⟩:=h;Row.inB h h0 (by rw[List.length_map];exact h1)
theorem IsPrs.part {W:PW} {s:Sl} {L:List (ByteArray×ByteArray)} (h:IsPrs W s L) {i:Nat} (hi:i<L.length) (off:Nat) {m:List Value} (hm:((prc L[i]).drop off).take m.length=m):ElemAt W s 2 i off m:=let⟨ty,h⟩:=h;Row.part h (x:=prc L[i]) (by rw[List.getElem?_map,List.getElem?_eq_getElem hi];rfl) off hm
theorem get_snoc {m:List Iv} {x:Iv} {Lt:List (ByteArray×ByteArray)} (h: ∀i (hi:i<m.length) (hi':i<Lt.length),spP Lt[i].1 Lt[i].2=some m[i]) (hl:m.length<Lt.length) (hx:spP Lt[m.length].1 Lt[m.length].2=some x): ∀i (hi:i<(m ++ [x]).length) (hi':i<Lt.length),spP Lt[i].1 Lt[i].2=some (m ++ [x])[i]:=fun i hi hi'=>by
 by_cases e:i<m.length
 ·rw[List.getElem_append_left e]
  exact h i e hi'
 ·have:i=m.length:=by simp at hi;omega
  subst this
  rw[List.getElem_concat_length rfl]
  exact hx
theorem boxParse_ok {W0:PW} {M:Nat→Prop} {s:Sl} {Lt:List (ByteArray×ByteArray)} (hT:TabOK W0) (h:IsPrs W0 s Lt) (hl:Lt.length≤1099511627776) (hz: ∀t∈Lt,t.1.size≤1099511627776∧t.2.size≤1099511627776):
  PCallsM Go.Proofs.Tryz.prog 53 [s.v] W0 M fun v W'=>∃(s':Sl),∃(i:Int),∃(bs:List Iv),v = .tuple ⟨[Sl.v s',.int .i64 i]⟩∧IsBox 268 W' s' bs∧(i=0→BoxOK bs∧bs.length=Lt.length∧∀i (hi:i<bs.length) (hi':i<Lt.length),spP Lt[i].1 Lt[i].2=some bs[i])∧(i≠0→bs = []):=by
 apply callbox_Parse
 have hn:=h.n
 have bad: ∀(c:Int),c≠0→∀W':PW,∃(s':Sl) (i:Int) (bs:List Iv),(Value.tuple ⟨[.slice none 0 0,.int .i64 c]⟩) = .tuple ⟨[Sl.v s',.int .i64 i]⟩∧IsBox 268 W' s' bs∧(i=0→BoxOK bs∧bs.length=Lt.length∧∀i (hi:i<bs.length) (hi':i<Lt.length),spP Lt[i].1 Lt[i].2=some bs[i])∧(i≠0→bs = []):=
  fun c hc W'=>⟨⟨none,0,0⟩,c,[],rfl,LstA.nil W',fun e=>absurd e hc,fun _=>rfl⟩
 refine⟨fun _ W1 _=>bad 1 (by omega) W1,fun h1=>⟨fun _ W2 _=>bad 1 (by omega) W2,fun h3=>?_⟩⟩
 refine⟨bxI W0 Lt,cnD Lt.length,⟨0,[],rfl,Nat.zero_le _,Ext.refl _,rfl,trivial,fun i hi=>by simp at hi,fun x hx=>(by cases hx)⟩,?_⟩
 rintro l5 i6 W7 ⟨j,m,rfl,hj,hE7,hml,ha,hp,hlt⟩
 have hal:=ha.len
 refine⟨fun hlt'=>?_,fun hge s20 W21 hE21 hO21 _ W22 hE22=>⟨s20,0,m,rfl,⟨l5,⟨_,hO21.row.ext hE22⟩,ha.mono fun _ _ h=>h.ext (hE21.trans hE22)⟩,fun _=>⟨⟨by omega,hlt⟩,by omega,hp⟩,fun e=>absurd rfl e⟩⟩
 have hjl:j<Lt.length:=by omega
 have h7:=h.ext hE7
 obtain⟨z1,z2⟩:=hz _ (List.getElem_mem hjl)
 refine⟨h7.inB (by omega) (by omega),Lt[j].1,Lt[j].2,h7.part hjl 0 rfl,?_⟩
 refine boxSide_call (hT.ext hE7) z1 z2 fun l e x W11 hE11 ⟨hx,he⟩=>?_
 obtain⟨s12,b13,s14,s15,b16,s17,rfl,q1,q2⟩:=hx
 refine⟨s12,b13,s14,s15,b16,s17,e,rfl,fun hne W19 _=>bad e hne W19,fun h0=>?_⟩
 obtain⟨k1,k2⟩:=he (Decidable.not_not.1 h0)
 subst hml
 refine⟨by simp only[List.length_cons,List.length_nil];omega,by unfold I64;omega,⟨m.length+1,m ++ [x],by push_cast;rfl,by omega,hE7.trans hE11,by simp,(ha.mono fun _ _ h=>h.ext hE11).append ⟨⟨s12,b13,s14,s15,b16,s17,rfl,q1,q2⟩,trivial⟩,get_snoc hp hjl k1,fun y hy=>?_⟩,?_⟩
 ·rcases List.mem_append.1 hy with hy | hy
  ·exact hlt y hy
  ·rw[List.mem_singleton.1 hy];exact k2
 ·show Lt.length-Int.toNat ((m.length:Int)+1)<Lt.length-Int.toNat (m.length:Int)
  omega
theorem boxParse_call {W0 W:PW} {M:Nat→Prop} {s:Sl} {Lt:List (ByteArray×ByteArray)} {K:Value→PW→Prop} (hT:TabOK W) (h:IsPrs W s Lt) (hl:Lt.length≤1099511627776) (hz: ∀t∈Lt,t.1.size≤1099511627776∧t.2.size≤1099511627776) (kont: ∀(s':Sl) (i:Int) (bs:List Iv) (W':PW),Ext W W'→(IsBox 268 W' s' bs∧(i=0→BoxOK bs∧bs.length=Lt.length∧∀i (hi:i<bs.length) (hi':i<Lt.length),spP Lt[i].1 Lt[i].2=some bs[i])∧(i≠0→bs = []))→K (.tuple ⟨[Sl.v s',.int .i64 i]⟩) W'):
  callN Go.Proofs.Tryz.prog W0 M 53 [s.v] W K:=
 callN_of (fun W' hE=>boxParse_ok (M:=fun _=>False) (hT.ext hE) (h.ext hE) hl hz) (fun W' v W'' hE hE' hP=>by
  obtain⟨s',i,bs,rfl,h⟩:=hP
  exact kont s' i bs W'' (hE.trans hE') h)
theorem refBit_ok {W0:PW} {M:Nat→Prop} {s:Sl} {x n:Nat} (h:IsNat 268 W0 s x) (hn:n≤1000000):
  PCallsM Go.Proofs.Tryz.prog 197 [s.v,.int .i64 (n:Int)] W0 M fun v W'=>∃(i:Int),v = .int .u32 i∧True:=by
 apply callref1_Bit
 have hsn:=h.n
 have e1:Int.tdiv (n:Int) 32=((n/32:Nat):Int):=rfl
 have e2:Int.tmod (n:Int) 32=((n%32:Nat):Int):=rfl
 have e3:IntKind.wrap .i64 (Int.tdiv (n:Int) 32)=((n/32:Nat):Int):=by rw[e1];exact wrap_i64 (by unfold I64;omega)
 have e4:IntKind.wrap .u64 (Int.tmod (n:Int) 32)=((n%32:Nat):Int):=by rw[e2];exact wrap64 (by omega) (by omega)
 unfold Rref1_Bit
 rw[e3,e4]
 refine⟨fun hneg=>by omega,fun _=>⟨by decide,fun _ W2 _=>⟨_,rfl,trivial⟩,fun hlt=>?_⟩⟩
 have hll:(dg x).length=nl x:=rfl
 have hil:n/32<(dg x).length:=by omega
 refine⟨by decide,Digs.inB h (by omega) (by omega),_,Digs.at h hil,by decide,⟨by omega,?_⟩,fun W4 _=>⟨_,rfl,trivial⟩⟩
 show((n%32:Nat):Int)≤32
 omega
theorem refBit_call {W0 W:PW} {M:Nat→Prop} {s:Sl} {x n:Nat} {K:Value→PW→Prop} (h:IsNat 268 W s x) (hn:n≤1000000) (kont: ∀(i:Int) (W':PW),Ext W W'→(True)→K (.int .u32 i) W'):
  callN Go.Proofs.Tryz.prog W0 M 197 [s.v,.int .i64 (n:Int)] W K:=
 callN_of (fun W' hE=>refBit_ok (M:=fun _=>False) (h.ext hE) hn) (fun W' v W'' hE hE' hP=>by
  obtain⟨i,rfl,h⟩:=hP
  exact kont i W'' (hE.trans hE') h)
theorem refZeros_ok {W0:PW} {M:Nat→Prop} {s:Sl} {x:Nat} (h:IsNat 268 W0 s x) (hx:nl x≤30000):
  PCallsM Go.Proofs.Tryz.prog 158 [s.v] W0 M fun v W'=>∃(i:Int),v = .int .i64 i∧(0≤i∧i≤960000):=by
 apply callref1_Zeros
 have hn:=h.n
 refine⟨fun L W=>match L with | [.val (.int .i64 z)]=>∃j:Nat,z=(j:Int)∧j≤32*nl x∧Ext W0 W | _=>False,(fun L _=>match L with | [.val (.int .i64 z)]=>32*nl x-z.toNat | _=>0),⟨0,rfl,Nat.zero_le _,Ext.refl _⟩,?_⟩
 rintro i3 W4 ⟨j,rfl,hj,hE4⟩
 refine⟨by unfold I64;omega,fun hlt=>?_,fun _ W9 _=>⟨_,rfl,by omega,by omega⟩⟩
 refine refBit_call (h.ext hE4) (by omega) fun i7 W6 hE6 _=>⟨i7,rfl,fun _=>⟨by unfold I64;omega,⟨j+1,by push_cast;rfl,by omega,hE4.trans hE6⟩,?_⟩,fun _ W8 _=>⟨_,rfl,by omega,by omega⟩⟩
 show 32*nl x-Int.toNat ((j:Int)+1)<32*nl x-Int.toNat (j:Int)
 omega
theorem refZeros_call {W0 W:PW} {M:Nat→Prop} {s:Sl} {x:Nat} {K:Value→PW→Prop} (h:IsNat 268 W s x) (hx:nl x≤30000) (kont: ∀(i:Int) (W':PW),Ext W W'→((0≤i∧i≤960000))→K (.int .i64 i) W'):
  callN Go.Proofs.Tryz.prog W0 M 158 [s.v] W K:=
 callN_of (fun W' hE=>refZeros_ok (M:=fun _=>False) (h.ext hE) hx) (fun W' v W'' hE hE' hP=>by
  obtain⟨i,rfl,h⟩:=hP
  exact kont i W'' (hE.trans hE') h)
theorem refDyadic_ok {W0:PW} {M:Nat→Prop} {b:Bool} {s t:Sl} {q:Rat} (h:IsRefQ 268 W0 b s t q) (hq:Sz 4000 q):
  PCallsM Go.Proofs.Tryz.prog 109 [.agg ⟨[.bool b,s.v,t.v]⟩] W0 M fun v W'=>∃(ok:Bool),v = .bool ok∧True:=by
 apply callref1_Dyadic
 have hd:nl q.den≤4000:=hq.2
 have hbl:=blen_nl q.den
 refine refDen_call h fun s3 W2 hE2 h2=>⟨s3,rfl,refZeros_call h2 (by omega) fun i6 W5 hE5 hi=>⟨i6,rfl,refDen_call (h.ext (hE2.trans hE5)) fun s9 W8 hE8 h8=>⟨s9,rfl,refBits_call h8 (by omega) fun W11 hE11 _=>⟨_,rfl,by unfold I64;omega,fun W13 _=>⟨_,rfl,trivial⟩⟩⟩⟩⟩
theorem refDyadic_call {W0 W:PW} {M:Nat→Prop} {b:Bool} {s t:Sl} {q:Rat} {K:Value→PW→Prop} (h:IsRefQ 268 W b s t q) (hq:Sz 4000 q) (kont: ∀(ok:Bool) (W':PW),Ext W W'→(True)→K (.bool ok) W'):
  callN Go.Proofs.Tryz.prog W0 M 109 [.agg ⟨[.bool b,s.v,t.v]⟩] W K:=
 callN_of (fun W' hE=>refDyadic_ok (M:=fun _=>False) (h.ext hE) hq) (fun W' v W'' hE hE' hP=>by
  obtain⟨ok,rfl,h⟩:=hP
  exact kont ok W'' (hE.trans hE') h)
theorem refBoxParse_ok {W0:PW} {M:Nat→Prop} {s:Sl} {Lt:List (ByteArray×ByteArray)} (h:IsPrs W0 s Lt) (hl:Lt.length≤1099511627776) (hz: ∀t∈Lt,t.1.size≤1099511627776∧t.2.size≤1099511627776):
  PCallsM Go.Proofs.Tryz.prog 52 [s.v] W0 M fun v W'=>∃(s':Sl),∃(i:Int),∃(bs:List Iv),v = .tuple ⟨[Sl.v s',.int .i64 i]⟩∧RIsBox 268 W' s' bs∧(i=0→bs.length=Lt.length∧1≤bs.length∧∀i (hi:i<bs.length) (hi':i<Lt.length),spP Lt[i].1 Lt[i].2=some bs[i]):=by
 apply callref1_BoxParse
 have hn:=h.n
 have bad: ∀(c:Int),c≠0→∀W':PW,∃(s':Sl) (i:Int) (bs:List Iv),(Value.tuple ⟨[.slice none 0 0,.int .i64 c]⟩) = .tuple ⟨[Sl.v s',.int .i64 i]⟩∧RIsBox 268 W' s' bs∧(i=0→bs.length=Lt.length∧1≤bs.length∧∀i (hi:i<bs.length) (hi':i<Lt.length),spP Lt[i].1 Lt[i].2=some bs[i]):=
  fun c hc W'=>⟨⟨none,0,0⟩,c,[],rfl,LstA.nil W',fun e=>absurd e hc⟩
 refine⟨fun _ W1 _=>bad 1 (by omega) W1,fun h1=>⟨fun _ W2 _=>bad 1 (by omega) W2,fun h3=>?_⟩⟩
 refine⟨rbxI W0 Lt,cnD Lt.length,⟨0,[],rfl,Nat.zero_le _,Ext.refl _,rfl,trivial,fun i hi=>by simp at hi⟩,?_⟩
 rintro l5 i6 W7 ⟨j,m,rfl,hj,hE7,hml,ha,hp⟩
 have hal:=ha.len
 refine⟨fun hlt'=>?_,fun hge s20 W21 hE21 hO21 _ W22 hE22=>⟨s20,0,m,rfl,⟨l5,⟨_,hO21.row.ext hE22⟩,ha.mono fun _ _ h=>h.ext (hE21.trans hE22)⟩,fun _=>⟨by omega,by omega,hp⟩⟩⟩
 have hjl:j<Lt.length:=by omega
 have h7:=h.ext hE7
 obtain⟨z1,z2⟩:=hz _ (List.getElem_mem hjl)
 refine⟨h7.inB (by omega) (by omega),Lt[j].1,Lt[j].2,h7.part hjl 0 rfl,?_⟩
 refine refSpanParse_call z1 z2 fun l e W11 hE11 ⟨hx,he⟩=>?_
 obtain⟨b12,s13,s14,b15,s16,s17,rfl,q1,q2⟩:=hx
 have hzi:=@spP_ivs Lt[j].1 Lt[j].2
 refine⟨b12,s13,s14,b15,s16,s17,e,rfl,fun hne W19 _=>bad e hne W19,fun h0=>?_⟩
 obtain⟨x,hx⟩:=Option.isSome_iff_exists.1 (he.1 (Decidable.not_not.1 h0))
 refine refQCmp_call q1 q2 hzi.1 hzi.2 (by omega) (by omega) fun W21 hE21 _=>⟨_,rfl,fun _ W23 _=>bad 1 (by omega) W23,fun _=>?_⟩
 refine refDyadic_call (q1.ext hE21) hzi.1 fun b26 W25 hE25 _=>⟨b26,rfl,fun _ W27 _=>bad 2 (by omega) W27,fun _=>?_⟩
 refine refDyadic_call (q2.ext (hE21.trans hE25)) hzi.2 fun b30 W29 hE29 _=>⟨b30,rfl,fun _ W31 _=>bad 2 (by omega) W31,fun _=>?_⟩
 rw[hx] at q1 q2
 have E:=hE21.trans (hE25.trans hE29)
 subst hml
 refine⟨by simp only[List.length_cons,List.length_nil];omega,by unfold I64;omega,⟨m.length+1,m ++ [x],by push_cast;rfl,by omega,hE7.trans (hE11.trans E),by simp,(ha.mono fun _ _ h=>h.ext (hE11.trans E)).append ⟨⟨b12,s13,s14,b15,s16,s17,rfl,q1.ext E,q2.ext E⟩,trivial⟩,get_snoc hp hjl hx⟩,?_⟩
 show Lt.length-Int.toNat ((m.length:Int)+1)<Lt.length-Int.toNat (m.length:Int)
 omega
theorem refBoxParse_call {W0 W:PW} {M:Nat→Prop} {s:Sl} {Lt:List (ByteArray×ByteArray)} {K:Value→PW→Prop} (h:IsPrs W s Lt) (hl:Lt.length≤1099511627776) (hz: ∀t∈Lt,t.1.size≤1099511627776∧t.2.size≤1099511627776) (kont: ∀(s':Sl) (i:Int) (bs:List Iv) (W':PW),Ext W W'→(RIsBox 268 W' s' bs∧(i=0→bs.length=Lt.length∧1≤bs.length∧∀i (hi:i<bs.length) (hi':i<Lt.length),spP Lt[i].1 Lt[i].2=some bs[i]))→K (.tuple ⟨[Sl.v s',.int .i64 i]⟩) W'):
  callN Go.Proofs.Tryz.prog W0 M 52 [s.v] W K:=
 callN_of (fun W' hE=>refBoxParse_ok (M:=fun _=>False) (h.ext hE) hl hz) (fun W' v W'' hE hE' hP=>by
  obtain⟨s',i,bs,rfl,h⟩:=hP
  exact kont s' i bs W'' (hE.trans hE') h)
theorem bookPairs_ok {W0:PW} {M:Nat→Prop} {s:Sl} {Lt:List (ByteArray×ByteArray)} {n:Int} (h:IsPrs W0 s Lt) (hl:Lt.length≤1099511627776):
  PCallsM Go.Proofs.Tryz.prog 42 [s.v,.int .i64 n] W0 M fun v W'=>∃(b:Bool),v = .bool b∧(b=true→∀t∈Lt,t.1.size≤30∧t.2.size≤30):=by
 apply callbook_Pairs
 have hn:=h.n
 have bad: ∀W':PW,∃b:Bool,(Value.bool false) = .bool b∧(b=true→∀t∈Lt,t.1.size≤30∧t.2.size≤30):=fun W'=>⟨false,rfl,fun e=>by cases e⟩
 refine⟨fun _ W1 _=>bad W1,fun _=>⟨fun L W=>match L with | [.val (.int .i64 z)]=>∃j:Nat,z=(j:Int)∧j≤Lt.length∧Ext W0 W∧∀t∈Lt.take j,t.1.size≤30∧t.2.size≤30 | _=>False,(fun L _=>match L with | [.val (.int .i64 z)]=>Lt.length-z.toNat | _=>0),⟨0,rfl,Nat.zero_le _,Ext.refl _,fun t ht=>by simp at ht⟩,?_⟩⟩
 rintro i4 W5 ⟨j,rfl,hj,hE5,hall⟩
 have h5:=h.ext hE5
 refine⟨fun hlt=>?_,fun hge W10 _=>⟨true,rfl,fun _=>?_⟩⟩
 ·have hjl:j<Lt.length:=by omega
  have hib:=h5.inB (i:=(j:Int)) (by omega) (by omega)
  refine⟨hib,Lt[j].1,h5.part hjl 0 rfl,fun _ W7 _=>bad W7,fun h1=>⟨hib,Lt[j].2,h5.part hjl 1 rfl,fun _ W9 _=>bad W9,fun h2=>⟨by unfold I64;omega,⟨j+1,by push_cast;rfl,by omega,hE5,fun t ht=>?_⟩,?_⟩⟩⟩
  ·rw[List.take_succ_eq_append_getElem hjl] at ht
   rcases List.mem_append.1 ht with ht | ht
   ·exact hall t ht
   ·rw[List.mem_singleton.1 ht];omega
  ·show Lt.length-Int.toNat ((j:Int)+1)<Lt.length-Int.toNat (j:Int)
   omega
 ·have:j=Lt.length:=by omega
  subst this
  rwa [List.take_length] at hall
theorem bookPairs_call {W0 W:PW} {M:Nat→Prop} {s:Sl} {Lt:List (ByteArray×ByteArray)} {n:Int} {K:Value→PW→Prop} (h:IsPrs W s Lt) (hl:Lt.length≤1099511627776) (kont: ∀(b:Bool) (W':PW),Ext W W'→((b=true→∀t∈Lt,t.1.size≤30∧t.2.size≤30))→K (.bool b) W'):
  callN Go.Proofs.Tryz.prog W0 M 42 [s.v,.int .i64 n] W K:=
 callN_of (fun W' hE=>bookPairs_ok (M:=fun _=>False) (h.ext hE) hl) (fun W' v W'' hE hE' hP=>by
  obtain⟨b,rfl,h⟩:=hP
  exact kont b W'' (hE.trans hE') h)
theorem box_same {bs bs':List Iv} {Lt:List (ByteArray×ByteArray)} (h:bs.length=Lt.length) (h':bs'.length=Lt.length) (k: ∀i (hi:i<bs.length) (hi':i<Lt.length),spP Lt[i].1 Lt[i].2=some bs[i]) (k': ∀i (hi:i<bs'.length) (hi':i<Lt.length),spP Lt[i].1 Lt[i].2=some bs'[i]):bs=bs':=by
 refine List.ext_getElem (by omega) fun i h1 h2=>?_
 have a:=k i h1 (by omega)
 rw[k' i h2 (by omega)] at a
 exact(Option.some.inj a).symm
theorem box_ivs {bs:List Iv} {Lt:List (ByteArray×ByteArray)} (h:bs.length=Lt.length) (k: ∀i (hi:i<bs.length) (hi':i<Lt.length),spP Lt[i].1 Lt[i].2=some bs[i]): ∀x∈bs,IvS 4000 x:=fun x hx=>by
 obtain⟨i,hi,rfl⟩:=List.getElem_of_mem hx
 have:=k i hi (by omega)
 have hz:=@spP_ivs Lt[i].1 Lt[i].2
 rwa [this] at hz
theorem law6Of_ok {W0:PW} {M:Nat→Prop} {s:Sl} {Lt:List (ByteArray×ByteArray)} (hT:TabOK W0) (h:IsPrs W0 s Lt) (hl:Lt.length≤1099511627776) (hz: ∀t∈Lt,t.1.size≤1099511627776∧t.2.size≤1099511627776):
  PCallsM Go.Proofs.Tryz.prog 11 [s.v] W0 M fun v W'=>∃(s1:Sl),∃(s2:Sl),∃(ok:Bool),v = .tuple ⟨[Sl.v s1,Sl.v s2,.bool ok]⟩∧(ok=true→∃bs:List Iv,IsBox 268 W' s1 bs∧RIsBox 268 W' s2 bs∧BoxOK bs∧∀x∈bs,IvS 4000 x):=by
 apply calllaw6_Of
 have bad: ∀W':PW,∃(s1 s2:Sl) (ok:Bool),(Value.tuple ⟨[.slice none 0 0,.slice none 0 0,.bool false]⟩) = .tuple ⟨[Sl.v s1,Sl.v s2,.bool ok]⟩∧(ok=true→∃bs:List Iv,IsBox 268 W' s1 bs∧RIsBox 268 W' s2 bs∧BoxOK bs∧∀x∈bs,IvS 4000 x):=fun W'=>⟨⟨none,0,0⟩,⟨none,0,0⟩,false,rfl,fun e=>by cases e⟩
 refine bookPairs_call h hl fun b3 W2 hE2 _=>⟨b3,rfl,fun _ W4 _=>bad W4,fun _=>?_⟩
 refine refBoxParse_call (h.ext hE2) hl hz fun s7 i8 bs' W6 hE6 ⟨r1,r2⟩=>⟨s7,i8,rfl,fun _ W9 _=>bad W9,fun h0=>?_⟩
 have E:=hE2.trans hE6
 refine boxParse_call (hT.ext E) (h.ext E) hl hz fun s12 i13 bs W11 hE11 ⟨q1,q2,q3⟩=>⟨s12,i13,rfl,fun W14 hE14=>⟨s12,s7,_,rfl,fun hok=>?_⟩⟩
 obtain⟨k1,k2,k3⟩:=r2 (Decidable.not_not.1 h0)
 have n1:=q1.n
 have n2:=r1.n
 have hlen:s12.n=s7.n:=by have:=of_decide_eq_true hok;omega
 by_cases hi:i13=0
 ·obtain⟨m1,m2,m3⟩:=q2 hi
  have e:=box_same m2 k1 m3 k3
  subst e
  exact⟨bs,q1.ext hE14,r1.ext (hE11.trans hE14),m1,box_ivs m2 m3⟩
 ·have:=q3 hi
  subst this
  simp at n1
  omega
theorem law6Of_call {W0 W:PW} {M:Nat→Prop} {s:Sl} {Lt:List (ByteArray×ByteArray)} {K:Value→PW→Prop} (hT:TabOK W) (h:IsPrs W s Lt) (hl:Lt.length≤1099511627776) (hz: ∀t∈Lt,t.1.size≤1099511627776∧t.2.size≤1099511627776) (kont: ∀(s1:Sl) (s2:Sl) (ok:Bool) (W':PW),Ext W W'→((ok=true→∃bs:List Iv,IsBox 268 W' s1 bs∧RIsBox 268 W' s2 bs∧BoxOK bs∧∀x∈bs,IvS 4000 x))→K (.tuple ⟨[Sl.v s1,Sl.v s2,.bool ok]⟩) W'):
  callN Go.Proofs.Tryz.prog W0 M 11 [s.v] W K:=
 callN_of (fun W' hE=>law6Of_ok (M:=fun _=>False) (hT.ext hE) (h.ext hE) hl hz) (fun W' v W'' hE hE' hP=>by
  obtain⟨s1,s2,ok,rfl,h⟩:=hP
  exact kont s1 s2 ok W'' (hE.trans hE') h)
end Go.Proofs.YtnlmddaakeigdaaGreatDoor

/- Exponents up to a bound; products that fit. -/
set_option linter.unusedVariables false
set_option linter.unusedSimpArgs false
namespace Go.Proofs.YtnlmddaakeigdaaGreatDoor
open Go Go.SX
theorem TermsOK.exp {L:List (Mon×ByteArray)} {p:List Tm} {most e:Int} (h:TermsOK L most e) (hp:PParse L p): ∀t∈p,t.1.x≤e∧t.1.y≤e∧t.1.z≤e:=fun t ht=>by
 obtain⟨u,hu,h1,_⟩:=all2_mem hp.1 ht
 have:=(h.2 u hu).2
 rw[h1]
 exact this
def PExp (e:Int) (p:List Tm):Prop:=∀t∈p,t.1.ok∧t.1.x≤e∧t.1.y≤e∧t.1.z≤e
theorem OfOK.exp {L:List (Mon×ByteArray)} {p:List Tm} {e:Int} (h:OfOK L e p) (ho:POk p):PExp e p:=fun t ht=>⟨ho t ht,h.2.exp h.1 t ht⟩
theorem PExp.norm {e:Int} {p:List Tm} (h:PExp e p):PExp e (pnorm p):=fun t ht=>by
 obtain⟨u,hu,h1⟩:=mem_pnorm ht
 rw[h1]
 exact h u hu
theorem PExp.append {e:Int} {p q:List Tm} (h:PExp e p) (k:PExp e q):PExp e (p ++ q):=fun t ht=>by
 rcases List.mem_append.1 ht with ht | ht
 ·exact h t ht
 ·exact k t ht
theorem mulOK_of {e f:Int} {p q:List Tm} (h:PExp e p) (k:PExp f q) (hef:e+f≤255):MulOK p q:=fun a ha b hb=>by
 have h1:=h a ha
 have h2:=k b hb
 unfold Mon.ok at *
 unfold Mon.add
 dsimp only
 omega
theorem mulP_of {p q:List Tm} (h:MulOK p q):mulP p q=pnorm (ppairs p q):=by unfold mulP;rw[if_pos h]
end Go.Proofs.YtnlmddaakeigdaaGreatDoor

/- poly.Same. -/
set_option maxRecDepth 100000
set_option linter.unusedVariables false
set_option linter.unusedSimpArgs false
namespace Go.Proofs.YtnlmddaakeigdaaGreatDoor
open Go Go.SX
theorem sameTm_ok {W0:PW} {M:Nat→Prop} {a b:Mon} {s1 s2 s3 s4:Sl} {b1 b2:Bool} {q r:Rat} {k:Nat} (h1:IsRat 268 W0 s1 b1 s2 q) (h2:IsRat 268 W0 s3 b2 s4 r) (hq:Sz k q) (hr:Sz k r) (hk:k≤34359738368):
  PCallsM Go.Proofs.Tryz.prog 65 [.agg ⟨[.int .u8 a.x,.int .u8 a.y,.int .u8 a.z,s1.v,.bool b1,s2.v]⟩,.agg ⟨[.int .u8 b.x,.int .u8 b.y,.int .u8 b.z,s3.v,.bool b2,s4.v]⟩] W0 M fun v W'=>v = .bool (decide (a=b∧q=r))∧True:=by
 apply callpoly_Same_1
 refine⟨fun he=>ratCmp_call h1 h2 hq hr hk hk fun W2 hE2 _=>⟨_,rfl,fun W4 _=>⟨?_,trivial⟩⟩,fun hne W5 _=>⟨?_,trivial⟩⟩
 ·have he:=mon_cells.1 he
  congr 1
  rw[decide_eq_decide,cmpQ_zero]
  exact⟨fun h=>⟨he,h⟩,fun h=>h.2⟩
 ·rw[decide_eq_false fun h=>hne (mon_cells.2 h.1)]
theorem sameTm_call {W0 W:PW} {M:Nat→Prop} {a b:Mon} {s1 s2 s3 s4:Sl} {b1 b2:Bool} {q r:Rat} {k:Nat} {K:Value→PW→Prop} (h1:IsRat 268 W s1 b1 s2 q) (h2:IsRat 268 W s3 b2 s4 r) (hq:Sz k q) (hr:Sz k r) (hk:k≤34359738368) (kont: ∀(W':PW),Ext W W'→(True)→K (.bool (decide (a=b∧q=r))) W'):
  callN Go.Proofs.Tryz.prog W0 M 65 [.agg ⟨[.int .u8 a.x,.int .u8 a.y,.int .u8 a.z,s1.v,.bool b1,s2.v]⟩,.agg ⟨[.int .u8 b.x,.int .u8 b.y,.int .u8 b.z,s3.v,.bool b2,s4.v]⟩] W K:=
 callN_of (fun W' hE=>sameTm_ok (M:=fun _=>False) (h1.ext hE) (h2.ext hE) hq hr hk) (fun W' v W'' hE hE' hP=>by
  obtain⟨rfl,h⟩:=hP
  exact kont W'' (hE.trans hE') h)
theorem eqTms_ok {W0:PW} {M:Nat→Prop} {s t:Sl} {p q:List Tm} {k:Nat} (h1:IsPoly 268 151 W0 s p) (h2:IsPoly 268 151 W0 t q) (hp: ∀t∈p,Sz k t.2) (hq: ∀t∈q,Sz k t.2) (hk:k≤34359738368) (hl:p.length≤1099511627776):
  PCallsM Go.Proofs.Tryz.prog 64 [s.v,t.v,.func (.func 65) #[] #[]] W0 M fun v W'=>v = .bool (decide (p=q))∧True:=by
 apply callslices_EqualFunc_poly_Term_poly_Term_poly_Term_poly_Term
 have n1:=h1.n
 have n2:=h2.n
 refine⟨fun hne W1 _=>⟨?_,trivial⟩,fun heq=>?_⟩
 ·rw[decide_eq_false]
  rintro rfl
  omega
 have hlen:p.length=q.length:=by omega
 refine⟨fun L W=>match L with | [.val (.int .i64 i)]=>Ext W0 W∧∃j:Nat,i=(j:Int)∧j≤p.length∧p.take j=q.take j | _=>False,fun l _=>match l with | [.val (.int .i64 i)]=>p.length-i.toNat | _=>0,⟨Ext.refl _,0,rfl,by omega,rfl⟩,?_⟩
 rintro i4 W5 ⟨hE,j,rfl,hj,ht⟩
 refine⟨fun hlt=>?_,fun hge W22 _=>⟨?_,trivial⟩⟩
 ·have hjl:j<p.length:=by omega
  have hjq:j<q.length:=by omega
  have hP:=h1.ext hE
  have hQ:=h2.ext hE
  obtain⟨o1,a1,b1,c1,e1,_,_,r1⟩:=hP.at (List.getElem?_eq_getElem hjl)
  obtain⟨o2,a2,b2,c2,e2,_,_,r2⟩:=hQ.at (List.getElem?_eq_getElem hjq)
  refine⟨hP.inB (by omega) (by omega),_,_,_,a1,b1,c1,e1,hQ.inB (by omega) (by omega),_,_,_,a2,b2,c2,e2,sameTm_call r1 r2 (hp _ (List.getElem_mem hjl)) (hq _ (List.getElem_mem hjq)) hk fun W19 hE19 _=>⟨_,rfl,fun hno W21 _=>⟨?_,trivial⟩,fun hyes=>⟨by unfold I64;omega,⟨hE.trans hE19,j+1,by push_cast;rfl,by omega,?_⟩,?_⟩⟩⟩
  ·rw[decide_eq_false]
   rintro rfl
   simp at hno
  ·rw[take_snocR hjl,take_snocR hjq,ht]
   have he:p[j].1=q[j].1∧p[j].2=q[j].2:=by simpa using hyes
   rw[show p[j]=q[j] from Prod.ext he.1 he.2]
  ·show p.length-Int.toNat ((j:Int)+1)<p.length-Int.toNat (j:Int)
   omega
 ·have:j=p.length:=by omega
  subst this
  rw[List.take_length,hlen,List.take_length] at ht
  rw[decide_eq_true ht]
theorem eqTms_call {W0 W:PW} {M:Nat→Prop} {s t:Sl} {p q:List Tm} {k:Nat} {K:Value→PW→Prop} (h1:IsPoly 268 151 W s p) (h2:IsPoly 268 151 W t q) (hp: ∀t∈p,Sz k t.2) (hq: ∀t∈q,Sz k t.2) (hk:k≤34359738368) (hl:p.length≤1099511627776) (kont: ∀(W':PW),Ext W W'→(True)→K (.bool (decide (p=q))) W'):
  callN Go.Proofs.Tryz.prog W0 M 64 [s.v,t.v,.func (.func 65) #[] #[]] W K:=
 callN_of (fun W' hE=>eqTms_ok (M:=fun _=>False) (h1.ext hE) (h2.ext hE) hp hq hk hl) (fun W' v W'' hE hE' hP=>by
  obtain⟨rfl,h⟩:=hP
  exact kont W'' (hE.trans hE') h)
theorem polySame_ok {W0:PW} {M:Nat→Prop} {s t:Sl} {p q:List Tm} {k:Nat} (h1:IsPoly 268 151 W0 s p) (h2:IsPoly 268 151 W0 t q) (hp: ∀t∈p,Sz k t.2) (hq: ∀t∈q,Sz k t.2) (hk:k≤34359738368) (hl:p.length≤1099511627776):
  PCallsM Go.Proofs.Tryz.prog 17 [.agg ⟨[s.v]⟩,.agg ⟨[t.v]⟩] W0 M fun v W'=>v = .bool (decide (p=q))∧True:=by
 apply callpoly_Same
 exact eqTms_call h1 h2 hp hq hk hl fun W2 _ _=>⟨_,rfl,fun W4 _=>⟨rfl,trivial⟩⟩
theorem polySame_call {W0 W:PW} {M:Nat→Prop} {s t:Sl} {p q:List Tm} {k:Nat} {K:Value→PW→Prop} (h1:IsPoly 268 151 W s p) (h2:IsPoly 268 151 W t q) (hp: ∀t∈p,Sz k t.2) (hq: ∀t∈q,Sz k t.2) (hk:k≤34359738368) (hl:p.length≤1099511627776) (kont: ∀(W':PW),Ext W W'→(True)→K (.bool (decide (p=q))) W'):
  callN Go.Proofs.Tryz.prog W0 M 17 [.agg ⟨[s.v]⟩,.agg ⟨[t.v]⟩] W K:=
 callN_of (fun W' hE=>polySame_ok (M:=fun _=>False) (h1.ext hE) (h2.ext hE) hp hq hk hl) (fun W' v W'' hE hE' hP=>by
  obtain⟨rfl,h⟩:=hP
  exact kont W'' (hE.trans hE') h)
end Go.Proofs.YtnlmddaakeigdaaGreatDoor

/- cinctureref1: PolyAdd, PolyScale, PolySub, Var, Const, PolySame. -/
set_option maxRecDepth 100000
set_option linter.unusedVariables false
set_option linter.unusedSimpArgs false
namespace Go.Proofs.YtnlmddaakeigdaaGreatDoor
open Go Go.SX
end Go.Proofs.YtnlmddaakeigdaaGreatDoor

/- cinctureref1.PolyMul. -/
set_option maxRecDepth 100000
set_option linter.unusedVariables false
set_option linter.unusedSimpArgs false
namespace Go.Proofs.YtnlmddaakeigdaaGreatDoor
open Go Go.SX
end Go.Proofs.YtnlmddaakeigdaaGreatDoor
