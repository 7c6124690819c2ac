/- cincturelaw13.GramParts. -/
import Derived.Test.YtnlmddaakeigdaaGreatDoorW16
import Derived.Test.YtnlmddaakeigdaaGreatDoorW17
import Derived.Test.YtnlmddaakeigdaaGreatDoorW18
import Derived.Test.YtnlmddaakeigdaaGreatDoorW19
import Derived.Test.YtnlmddaakeigdaaGreatDoorW20
import Derived.Test.YtnlmddaakeigdaaGreatDoorW12
import Derived.Test.YtnlmddaakeigdaaGreatDoorLib4
import Derived.Test.YtnlmddaakeigdaaGreatDoorW13
import Derived.Test.YtnlmddaakeigdaaGreatDoorR14
import Derived.Test.YtnlmddaakeigdaaGreatDoorW15
import Derived.Test.YtnlmddaakeigdaaGreatDoorCards
import Derived.Test.YtnlmddaakeigdaaGreatDoorTie
import Derived.Deep.DeepHandedRow
import Derived.Lib.LaidTab
set_option linter.unusedVariables false
set_option linter.unusedSimpArgs false
set_option maxRecDepth 100000
set_option linter.unusedVariables false
set_option linter.unusedSimpArgs false
namespace Go.Proofs.YtnlmddaakeigdaaGreatDoor
open Go Go.SX
def mq (bs:List Iv) (s:SqP):List Tm:=(sqMul bs s).getD []
theorem sqMul_some {bs:List Iv} {s:SqP} (hk: ∀x∈bs,IvS 4000 x) (h:PExp 6 s.q) (hg:0≤s.g):sqMul bs s=some (mq bs s):=by
 have hM:MulOK s.q s.q:=mulOK_of h h (by omega)
 have h2:PExp 12 (pnorm (ppairs s.q s.q)):=PExp.pairs h h hM
 have hsd:IvS 4000 (bs.getD (s.g-1).toNat (0,0)):=by
  rw[List.getD_eq_getElem?_getD]
  cases e:bs[(s.g-1).toNat]? with
  | none=>exact⟨Sz.zero (by omega),Sz.zero (by omega)⟩
  | some x=>exact hk x (List.mem_of_getElem? e)
 have hs:PExp 2 (sideP (bs.getD (s.g-1).toNat (0,0)) ((s.g-1).toNat:Int)):=PExp.pairs (sideA_b hsd _).2.1 (sideB_b hsd _).2.1 (side_ok hsd _)
 have hM2:=mulOK_of h2 hs (by omega)
 unfold mq sqMul
 rw[if_pos hM]
 split
 ·first | rfl | (rw[if_pos hM2];rfl)
 ·rfl
def lsq (bs:List Iv) (G:Mon→Rat):List SqP→Rat
 | []=>0
 | s :: r=>s.w*lin G (mq bs s)+lsq bs G r
theorem lsq_app (bs:List Iv) (G:Mon→Rat): ∀l r:List SqP,lsq bs G (l ++ r)=lsq bs G l+lsq bs G r
 | [],r=>by simp[lsq,Rat.zero_add]
 | s :: l,r=>by rw[List.cons_append,lsq,lsq,lsq_app bs G l r,Rat.add_assoc]
theorem sum_all {bs:List Iv} : ∀{l:List SqP} {a0:List Tm},PGood a0→(∀s∈l,sqMul bs s=some (mq bs s))→∃a,l.foldl (sqStep bs) (some a0)=some a∧PGood a∧∀G,lin G a=lin G a0+lsq bs G l
 | [],a0,g,_=>⟨a0,rfl,g,fun G=>by simp[lsq,Rat.add_zero]⟩
 | s :: l,a0,g,h=>by
  obtain⟨a,e2,ga,hv⟩:=sum_all (bs:=bs) (l:=l) (a0:=pnorm (a0 ++ pnorm (pmap (mq bs s) s.w))) (pnorm_good _) fun t ht=>h t (by simp[ht])
  refine⟨a,?_,ga,fun G=>?_⟩
  ·rw[List.foldl_cons,show sqStep bs (some a0) s=some (pnorm (a0 ++ pnorm (pmap (mq bs s) s.w))) from by unfold sqStep;rw[h s (by simp)],e2]
  ·rw[hv,lin_pnorm,lin_append,lin_pnorm,show ∀r p,lin G (pmap p r)=r*lin G p from fun r p=>lin_pmap G r p,lsq,Rat.add_assoc]
def moreL (l:List SqP):List SqP:=l.flatMap fun s=>[s,⟨0,s.g,s.q⟩]
theorem lsq_more (bs:List Iv) (G:Mon→Rat): ∀l:List SqP,lsq bs G (moreL l)=lsq bs G l
 | []=>rfl
 | s :: l=>by
  have ih:=lsq_more bs G l
  unfold moreL at ih⊢
  rw[List.flatMap_cons,lsq_app,ih,lsq,lsq,lsq,lsq]
  simp only[Rat.zero_mul,Rat.add_zero]
def SqSub (l m:List SqP):Prop:=∀s∈m,∃t∈l,s.q=t.q∧s.g=t.g∧(s.w=t.w∨s.w=0)
theorem SqSub.take (l:List SqP) (k:Nat):SqSub l (l.take k):=fun s hs=>⟨s,List.mem_of_mem_take hs,rfl,rfl,.inl rfl⟩
theorem SqSub.drop (l:List SqP) (k:Nat):SqSub l (l.drop k):=fun s hs=>⟨s,List.mem_of_mem_drop hs,rfl,rfl,.inl rfl⟩
theorem SqSub.self (l:List SqP):SqSub l l:=fun s hs=>⟨s,hs,rfl,rfl,.inl rfl⟩
theorem SqSub.more (l:List SqP):SqSub l (moreL l):=fun s hs=>by
 obtain⟨t,ht,hm⟩:=List.mem_flatMap.1 hs
 simp only[List.mem_cons,List.not_mem_nil,or_false] at hm
 rcases hm with rfl | rfl
 ·exact⟨s,ht,rfl,rfl,.inl rfl⟩
 ·exact⟨t,ht,rfl,rfl,.inr rfl⟩
structure SqB (l:List SqP):Prop where
 good: ∀s∈l,SqGood 6 s
 ok: ∀s∈l,POk s.q
theorem SqB.sqOK {l m:List SqP} (h:SqB l) (k:SqSub l m) (hm:m.length≤12):SqOK 60000 4000 m where
 bd s hs:=by
  obtain⟨t,ht,e1,_,_⟩:=k s hs
  obtain⟨_,L,op⟩:=h.good t ht
  rw[e1]
  exact⟨op.bd.mono (by omega),by have:=op.len;omega,op.1.good,h.ok t ht⟩
 ws s hs:=by
  obtain⟨t,ht,_,_,e | e⟩:=k s hs
  ·rw[e];exact(h.good t ht).1
  ·rw[e];exact Sz.zero (by omega)
 len:=hm
 K1:=by omega
 w1:=by omega
 tot:=by have:=Nat.mul_le_mul_right (2*60000+4000+8019) hm;omega
theorem SqB.sum {l m:List SqP} {bs:List Iv} (h:SqB l) (k:SqSub l m) (hb:BoxOK bs) (hk: ∀x∈bs,IvS 4000 x) (hg: ∀s∈l,0≤s.g∧s.g≤(bs.length:Int)): ∃a,sumP m bs=some a∧PGood a∧∀G,lin G a=lsq bs G m:=by
 have hS:SumOK m bs:=⟨hb,fun s hs=>by
  obtain⟨t,ht,_,e,_⟩:=k s hs
  rw[e]
  exact hg t ht⟩
 obtain⟨a,e,ga,hv⟩:=sum_all (bs:=bs) (l:=m) PGood.nil fun s hs=>by
  obtain⟨t,ht,e1,e2,_⟩:=k s hs
  obtain⟨_,L,op⟩:=h.good t ht
  exact sqMul_some hk (by rw[e1];exact op.exp (h.ok t ht)) (by rw[e2];exact(hg t ht).1)
 exact⟨a,(if_pos hS).trans e,ga,fun G=>by rw[hv];simp[lin,Rat.zero_add]⟩
theorem sumP_bd {l:List SqP} {bs:List Iv} {K w:Nat} (hl:SqOK K w l) (hk: ∀x∈bs,IvS 4000 x) {a:List Tm} (h:sumP l bs=some a):Bd 27048115 a∧PGood a∧POk a:=by
 have e2:(l.take l.length).foldl (sqStep bs) (some [])=some a:=by
  rw[List.take_length]
  unfold sumP at h
  split at h
  ·exact h
  ·cases h
 obtain⟨k1,k2,k3⟩:=sumS_b hl hk (Nat.le_refl _) e2
 have:=hl.tot
 exact⟨k1.mono (by omega),k2,k3⟩
theorem LstA.cap {α:Type} {R:PW→List Value→α→Prop} {sz:Nat} {W:PW} {s:Sl} {l:List α} (h:LstA R sz W s l):s.n≤s.c:=let⟨_,⟨_,h⟩,_⟩:=h;h.2.1
theorem sqs_cut {tu tt:TypeId} {W:PW} {s:Sl} {l:List SqP} (h:SX.IsSqs tu tt W s l) {lo hi:Nat} (h1:lo≤hi) (h2:hi≤l.length):SX.IsSqs tu tt W (Sl.cut s 5 lo hi) ((l.take hi).drop lo):=by
 obtain⟨xs,⟨t,hr⟩,ha⟩:=h
 exact⟨_,⟨t,Row.cut hr h1 (by rw[ha.len];exact h2)⟩,(ha.take hi).drop lo⟩
theorem sqs_okP {tu tt:TypeId} {W:PW} {s:Sl} {l:List SqP} (h:SX.IsSqs tu tt W s l): ∀x∈l,POk x.q:=fun x hx=>by
 obtain⟨xs,_,ha⟩:=h
 obtain⟨v,_,⟨_,_,_,_,_,_,hp⟩⟩:=all2_mem ha hx
 exact hp.ok
theorem lawGone_ok {W0:PW} {M:Nat→Prop} {s sb:Sl} {l:List SqP} {bs:List Iv} {kb w:Nat} (h:SX.IsSqs 268 151 W0 s l) (hb:IsBox 268 W0 sb bs) (hl:SqOK kb w l) (hk: ∀x∈bs,IvS 4000 x) (hbl:bs.length≤1048576) (hbad:¬SumOK l bs):
  PCallsM Go.Proofs.Tryz.prog 14 [s.v,sb.v] W0 M fun v W'=>v = .bool true∧True:=by
 apply calllaw13_gone
 refine gramSum_call h hb hl hk hbl fun s3 W2 hE2 h3=>⟨s3,_,rfl,fun _=>?_,fun e=>absurd e (by rw[sumP_bad hbad];decide)⟩
 rw[sumP_bad hbad] at h3
 have h3:IsPoly 268 151 W2 s3 []:=h3
 refine polyPlain_call (k:=1) h3 (fun t ht=>(by cases ht)) (by omega) (by simp) fun s7 W6 hE6 h7=>⟨s7,rfl,fun W8 _=>⟨?_,trivial⟩⟩
 have:=h7.n
 rw[ptxt_len] at this
 rw[decide_eq_true (by simp at this;omega)]
theorem lawGone_call {W0 W:PW} {M:Nat→Prop} {s sb:Sl} {l:List SqP} {bs:List Iv} {kb w:Nat} {K:Value→PW→Prop} (h:SX.IsSqs 268 151 W s l) (hb:IsBox 268 W sb bs) (hl:SqOK kb w l) (hk: ∀x∈bs,IvS 4000 x) (hbl:bs.length≤1048576) (hbad:¬SumOK l bs) (kont: ∀(W':PW),Ext W W'→(True)→K (.bool true) W'):
  callN Go.Proofs.Tryz.prog W0 M 14 [s.v,sb.v] W K:=
 callN_of (fun W' hE=>lawGone_ok (M:=fun _=>False) (h.ext hE) (hb.ext hE) hl hk hbl hbad) (fun W' v W'' hE hE' hP=>by
  obtain⟨rfl,h⟩:=hP
  exact kont W'' (hE.trans hE') h)
def gpG (W0:PW) (l:List SqP) (m:Int) (L:List PL) (W:PW):Prop:=match L with
 | [.val (.int .i64 i)]=>∃j:Nat,i=(j:Int)∧j≤l.length∧Ext W0 W∧∀s∈l.take j,0≤s.g∧s.g≤m
 | _=>False
def gpM (W0:PW) (l:List SqP) (L:List PL) (W:PW):Prop:=match L with
 | [.row r,.val (.int .i64 i)]=>∃j:Nat,i=(j:Int)∧j≤l.length∧Ext W0 W∧All2 (SqX 268 151 W) r (moreL (l.take j))
 | _=>False
theorem more_len (l:List SqP):(moreL l).length=2*l.length:=by
 induction l with
 | nil=>rfl
 | cons s r ih=>
  unfold moreL at ih⊢
  rw[List.flatMap_cons,List.length_append,ih,List.length_cons]
  simp
  omega
theorem gramParts_ok {W0:PW} {M:Nat→Prop} {s t:Sl} {L:List SqT} {B:List (ByteArray×ByteArray)} {k:Int} (hT:TabOK W0) (h1:Go.Proofs.YtnlmddaakeigdaaGreatDoor.IsSqs W0 s L) (h2:IsPrs W0 t B) (l1:L.length≤1099511627776) (za: ∀t∈L,t.1.size≤1099511627776) (zb: ∀t∈L,t.2.2.length≤1099511627776) (zc: ∀t∈L,∀u∈t.2.2,u.2.size≤1099511627776) (l2:B.length≤1099511627776) (z2: ∀t∈B,t.1.size≤1099511627776∧t.2.size≤1099511627776):
  PCallsM Go.Proofs.Tryz.prog 3 [s.v,t.v,.int .i64 k] W0 M fun v W'=>v = .bool true∧True:=by
 apply calllaw13_GramParts
 have alv: ∀W,callN Go.Proofs.Tryz.prog W0 M 12 [] W fun v11 W12=>∃b13:Bool,v11 = .bool b13∧∀(W14:PW),Ext W12 W14→Value.bool b13 = .bool true∧True:=fun W=>law13alive_call fun W12 _ _=>⟨true,rfl,fun W14 _=>⟨rfl,trivial⟩⟩
 refine law6Of_call hT h2 l2 z2 fun s3 s4 b5 W2 hE2 hbox=>⟨s3,s4,b5,rfl,fun _=>alv _,fun hb5=>law13alive_call fun W11 hE11 _=>⟨true,rfl,fun e=>(by cases e),fun _=>?_⟩⟩
 obtain⟨bs,bx,_,hBox,hk⟩:=hbox (by simpa using hb5)
 have hbl:=hBox.1.2
 refine law13Squares_call (IsSqs.ext h1 (hE2.trans hE11)) l1 (fun t ht=>⟨za t ht,zb t ht,zc t ht⟩) fun s19 s20 l W18 hE18 ⟨a1,a2,al,ag⟩=>⟨s19,s20,rfl,?_⟩
 have hB:SqB l:=⟨ag,sqs_okP a1⟩
 have b18:=bx.ext (hE11.trans hE18)
 have n3:=bx.n
 have n19:=a1.n
 have n20:=a2.n
 have hsl:=hB.sqOK (SqSub.self l) (by omega)
 refine⟨gpG W18 l bs.length,cn1 l.length,⟨0,rfl,Nat.zero_le _,Ext.refl _,fun x hx=>(by cases hx)⟩,?_⟩
 rintro i23 W24 ⟨j,rfl,hj,hE24,hall⟩
 refine⟨fun hlt=>?_,fun hge=>?_⟩
 ·have hjl:j<l.length:=by omega
  have hmem:=List.getElem_mem hjl
  have hA:=a2.ext hE24
  obtain⟨x,⟨_,_,_,_,rfl,_,_⟩,hel⟩:=hA.at hjl
  have hib:=hA.inB (i:=(j:Int)) (by omega) (by omega)
  have gone:¬SumOK l bs→callN Go.Proofs.Tryz.prog W0 M 14 [s19.v,s3.v] W24 fun v26 W27=>∃b28:Bool,v26 = .bool b28∧∀(W29:PW),Ext W27 W29→Value.bool b28 = .bool true∧True:=fun hbad=>lawGone_call (SX.IsSqs.ext a1 hE24) (b18.ext hE24) hsl hk (by omega) hbad fun W27 _ _=>⟨true,rfl,fun W29 _=>⟨rfl,trivial⟩⟩
  refine⟨hib,_,hel 3 rfl,fun hneg=>gone fun e=>by have:=(e.2 _ hmem).1;omega,fun hnn=>⟨hib,_,hel 3 rfl,fun hgt=>gone fun e=>by have:=(e.2 _ hmem).2;omega,fun hle=>⟨by unfold I64;omega,⟨j+1,by push_cast;rfl,by omega,hE24,g_snoc hjl hall ⟨by omega,by omega⟩⟩,?_⟩⟩⟩
  show l.length-Int.toNat ((j:Int)+1)<l.length-Int.toNat (j:Int)
  omega
 have:j=l.length:=by omega
 subst this
 rw[List.take_length] at hall
 refine bookWithin_call (by omega) (by omega) (by omega) fun i37 W36 hE36 hi37=>⟨i37,rfl,?_⟩
 obtain⟨c,rfl⟩:=Int.eq_ofNat_of_zero_le hi37.1
 have hcl:c≤l.length:=by omega
 have E36:=hE24.trans hE36
 have A36:=SX.IsSqs.ext a1 E36
 have hcap:=Go.Proofs.YtnlmddaakeigdaaGreatDoor.LstA.cap A36
 obtain⟨p,ep,gp,vp⟩:=hB.sum (SqSub.self l) hBox hk hall
 obtain⟨q,eq,gq,vq⟩:=hB.sum (SqSub.take l c) hBox hk hall
 obtain⟨r,er,gr,vr⟩:=hB.sum (SqSub.drop l c) hBox hk hall
 obtain⟨m,em,gm,vm⟩:=hB.sum (SqSub.more l) hBox hk hall
 refine gramSum_call A36 (b18.ext E36) hsl hk (by omega) fun s40 W39 hE39 h40=>⟨s40,_,rfl,⟨by omega,by omega,by omega⟩,?_⟩
 have E39:=E36.trans hE39
 refine gramSum_call (s:=Sl.cut s19 5 0 c) (sqs_cut (SX.IsSqs.ext a1 E39) (Nat.zero_le _) hcl) (b18.ext E39) (hB.sqOK (SqSub.take l c) (by rw[List.drop_zero,List.length_take];omega)) hk (by omega) fun s44 W43 hE43 h44=>⟨s44,_,rfl,⟨by omega,by omega,by omega⟩,?_⟩
 have E43:=E39.trans hE43
 have cutd:=sqs_cut (SX.IsSqs.ext a1 E43) (lo:=c) (hi:=l.length) hcl (Nat.le_refl _)
 rw[List.take_length] at cutd
 have hsd:=hB.sqOK (SqSub.drop l c) (by rw[List.length_drop];omega)
 rw[←n19] at cutd
 refine gramSum_call (s:=Sl.cut s19 5 c s19.n) cutd (b18.ext E43) hsd hk (by omega) fun s48 W47 hE47 h48=>⟨s48,_,rfl,?_⟩
 have E47:=E43.trans hE47
 refine⟨gpM W47 l,cnD l.length,⟨0,rfl,Nat.zero_le _,Ext.refl _,trivial⟩,?_⟩
 rintro l52 i53 W54 ⟨d,rfl,hd,hE54,hmore⟩
 have hml:=hmore.len
 rw[more_len,List.length_take] at hml
 refine⟨fun hlt=>?_,fun hge s62 W63 hE63 hO63 _=>?_⟩
 ·have hdl:d<l.length:=by omega
  have hA:=SX.IsSqs.ext a1 (E47.trans hE54)
  obtain⟨x,⟨s55,b56,s57,s59,rfl,q1,q2⟩,hel⟩:=hA.at hdl
  have hib:=hA.inB (i:=(d:Int)) (by omega) (by omega)
  refine⟨hib,s55,b56,s57,_,s59,hel 0 rfl,hib,_,hel 3 rfl,hib,s59,hel 4 rfl,Ext.refl _,by simp only[List.length_cons,List.length_nil];omega,Ext.refl _,by unfold I64;omega,⟨d+1,by push_cast;rfl,by omega,hE54,?_⟩,?_⟩
  ·rw[List.take_succ_eq_append_getElem hdl]
   unfold moreL at hmore⊢
   rw[List.flatMap_append]
   exact hmore.append ⟨⟨s55,b56,s57,s59,rfl,q1,q2⟩,⟨⟨none,0,0⟩,false,⟨none,0,0⟩,s59,rfl,isRat_zero W54,q2⟩,trivial⟩
  ·show l.length-Int.toNat ((d:Int)+1)<l.length-Int.toNat (d:Int)
   omega
 have:d=l.length:=by omega
 subst this
 rw[List.take_length] at hmore
 have hM:SX.IsSqs 268 151 W63 s62 (moreL l):=⟨l52,⟨_,hO63.row⟩,hmore.mono fun _ _ h=>h.ext hE63⟩
 have E63:=E47.trans (hE54.trans hE63)
 have hsm:=hB.sqOK (SqSub.more l) (by rw[more_len];omega)
 refine gramSum_call hM (b18.ext E63) hsm hk (by omega) fun s66 W65 hE65 h66=>⟨s66,_,rfl,?_⟩
 rw[List.drop_zero] at h44
 rw[ep] at h40
 rw[eq] at h44
 rw[er] at h48
 rw[em] at h66
 have bp:=sumP_bd hsl hk ep
 have bq:=sumP_bd (hB.sqOK (SqSub.take l c) (by rw[List.length_take];omega)) hk eq
 have br:=sumP_bd hsd hk er
 have bm:=sumP_bd hsm hk em
 have lp:=bp.2.1.len bp.2.2
 have lq:=bq.2.1.len bq.2.2
 have lr:=br.2.1.len br.2.2
 have lm:=bm.2.1.len bm.2.2
 have F:=hE47.trans (hE54.trans (hE63.trans hE65))
 refine⟨fun _=>⟨fun _=>⟨fun _=>⟨fun _=>?_,fun e=>absurd e (by simp[em])⟩,fun e=>absurd e (by simp[er])⟩,fun e=>absurd e (by simp[eq])⟩,fun e=>absurd e (by simp[ep])⟩
 refine polyAdd_call (k:=30000000) (h44.ext F) (h48.ext (hE54.trans (hE63.trans hE65))) (bq.1.mono (by omega)) (br.1.mono (by omega)) (by omega) (by simp only[Option.getD_some];omega) (by simp only[Option.getD_some];omega) fun s70 W69 hE69 h69=>⟨s70,rfl,?_⟩
 have e1:pnorm (q ++ r)=p:=(pnorm_good _).uniq gp fun n=>by
  rw[ptot_lin,ptot_lin,lin_pnorm,lin_append,vp,vq,vr,←lsq_app,List.take_append_drop]
 have e2:m=p:=gm.uniq gp fun n=>by rw[ptot_lin,ptot_lin,vm,vp,lsq_more]
 have h69:IsPoly 268 151 W69 s70 (pnorm (q ++ r)):=h69
 rw[e1] at h69
 subst e2
 have G:=(hE43.trans F).trans hE69
 refine polySame_call (k:=30000000) (h40.ext G) h69 (bp.1.mono (by omega)).sz (bp.1.mono (by omega)).sz (by omega) (by simp only[Option.getD_some];omega) fun W72 hE72 _=>⟨_,rfl,fun _=>?_,fun e=>absurd e (by simp)⟩
 refine polySame_call (k:=30000000) (h66.ext (hE69.trans hE72)) (h40.ext (G.trans hE72)) (bp.1.mono (by omega)).sz (bp.1.mono (by omega)).sz (by omega) (by simp only[Option.getD_some];omega) fun W75 hE75 _=>⟨_,rfl,fun W77 _=>⟨by simp,trivial⟩⟩
end Go.Proofs.YtnlmddaakeigdaaGreatDoor

/- cincturelaw13.GramParts answers true for every input whose bulk is at most 1048576 (the second form), and its arguments read behind the call as they did ahead of it. -/
set_option maxRecDepth 100000
set_option linter.unusedVariables false
set_option linter.unusedSimpArgs false
namespace Go.Proofs.YtnlmddaakeigdaaGreatDoor
open Go Go.SX Go.ChangeShapes Go.WideShapes Go.ChangeAt Go.RowKit Go.Deep
theorem gTab:Go.Proofs.Tryz.prog.globalNamed "math/bits.deBruijn32tab" = some 0:=by kernel_rfl
theorem gTabType:(Go.Proofs.Tryz.prog.globals[0]?).map (·.type)=some 316:=by kernel_rfl
theorem cellsTab:Go.Proofs.Tryz.prog.cellsOf 316=32:=by kernel_rfl
theorem cellsU8:Go.Proofs.Tryz.prog.cellsOf 5=1:=by kernel_rfl
theorem tabOK {W:World} (h:laidMetH Go.Proofs.Tryz.prog Rows.gramPartsUptoRow.laid W):TabOK ⟨W,fun _=>False⟩:=by
 have ht:Go.Lib.TabIs Go.Proofs.Tryz.prog W "math/bits.deBruijn32tab" .u8 (Go.Lib.deBruijn32tab.map fun n:Nat=>(n:Int)):=Go.Lib.tabIs_of_head (rest:=[]) gTab gTabType Go.Proofs.Tryz.underlying316 Go.Proofs.Tryz.underlying5 cellsU8 cellsTab h
 have hc: ∀j,j<32→W.cell? ⟨0,j,none⟩=some (.int .u8 ((Go.Lib.deBruijn32tab.getD j 0:Nat):Int)):=fun j hj=>by
  rw[ht.cell gTab j (by simpa[Go.Lib.deBruijn32tab] using hj)]
  have hall: ∀j,j<32→(Go.Lib.deBruijn32tab.map fun n:Nat=>(n:Int)).getD j 0=((Go.Lib.deBruijn32tab.getD j 0:Nat):Int):=by decide
  rw[hall j hj]
 refine⟨hc,?_,fun h=>h⟩
 have:=hc 0 (by omega)
 unfold World.cell? at this
 split at this
 ·rename_i e
  exact(Array.getElem?_eq_some_iff.1 e).1
 ·cases this
theorem contract (H:Type) (enc:TypeId×Value→H) (W:World) (base:Nat) (args:Array Value) (ds gs:List (DataW H)) (before:List MemPlace)
  (hval: ∀(j:Nat) t v,Go.Proofs.Tryz.f3.params[j]?=some t→args[j]?=some v→Value.okWide Go.Proofs.Tryz.prog W .any base t v)
  (hW:DataW.Whole enc Go.Proofs.Tryz.prog Go.Proofs.Tryz.f3.params.toList Rows.gramPartsSpec.vars false W args.toList ds gs before) (hk:Rows.uptoSmall H (ds ++ gs)=true) (hL:laidMetH Go.Proofs.Tryz.prog Rows.gramPartsUptoRow.laid W):
  Calls Go.Proofs.Tryz.prog 3 args W fun e W'=>∃v,e = .returned v∧Rows.gramPartsSpec.post enc Go.Proofs.Tryz.prog Go.Proofs.Tryz.f3 false true false false W args v W':=by
 have hW':=hW
 obtain⟨p,q,hA0,hV,rfl,hfz,hnd⟩:=hW
 have hA:DataW.TrodAll enc Go.Proofs.Tryz.prog W 0 (fun _=>true) true Go.Proofs.Tryz.f3.params.toList args.toList ds p:=hA0
 rw[Go.Proofs.Tryz.params3] at hA hval
 obtain⟨v0,vs0,d0,ds0,p0,q0,hargs,rfl,rfl,h0,r0⟩:=trodAll_cons hA
 obtain⟨v1,vs1,d1,ds1,p1,q1,rfl,rfl,rfl,h1,r1⟩:=trodAll_cons r0
 obtain⟨v2,vs2,d2,ds2,p2,q2,rfl,rfl,rfl,h2,r2⟩:=trodAll_cons r1
 obtain⟨rfl,rfl,rfl⟩:=trodAll_nil r2
 obtain rfl:args = #[v0,v1,v2]:=by cases args;simp_all
 obtain⟨rfl,rfl⟩:=trodVars_none hV
 obtain⟨a0,n0,c0,rfl⟩:=okWide_slice Go.Proofs.Tryz.underlying22 (hval 0 22 v0 rfl rfl)
 obtain⟨a1,n1,c1,rfl⟩:=okWide_slice Go.Proofs.Tryz.underlying23 (hval 1 23 v1 rfl rfl)
 obtain⟨z2,rfl⟩:=okWide_int Go.Proofs.Tryz.underlying3 (hval 2 3 v2 rfl rfl)
 clear hA0
 simp only[List.append_nil] at hW' hk
 have hlt: ∀x∈p0 ++ (p1 ++ p2),x.block<W.heap.size:=fun x hx=>by simpa using hW'.lt x (by simpa using hx)
 have hbulk:Rows.uptoBulkAll [d0,d1,d2]≤1048576:=of_decide_eq_true hk
 simp only[Rows.uptoBulkAll] at hbulk
 have h0k:=h0
 obtain⟨fuel0,hf0⟩:=h0
 have hf0':DataW.trod enc Go.Proofs.Tryz.prog W 0 (fun _=>true) true fuel0 22 [.slice a0 n0 c0]=some (d0,p0):=by simpa[Value.cells] using hf0
 obtain⟨s0,L0,hs0,hL0,hb0,hc0⟩:=open_squares hf0'
 have h1k:=h1
 obtain⟨fuel1,hf1⟩:=h1
 have hf1':DataW.trod enc Go.Proofs.Tryz.prog W 0 (fun _=>true) true fuel1 23 [.slice a1 n1 c1]=some (d1,p1):=by simpa[Value.cells] using hf1
 obtain⟨s1,L1,hs1,hL1,hb1,hc1⟩:=open_pairs hf1'
 have h2k:=h2
 have hc:=gramParts_ok (M:=fun _=>False) (k:=z2) (tabOK hL) hL0 hL1 (by omega) (fun t ht=>by have:=hc0 t ht;omega) (fun t ht=>by have:=hc0 t ht;omega) (fun t ht u hu=>by have:=(hc0 t ht).2.2 u hu;omega) (by omega) (fun t ht=>by have:=hc1 t ht;omega)
 have hcall:=hc.2 (fun b h=>h.elim)
 rw[hs0,hs1]
 refine hcall.mono fun e W' ⟨v,he,hkeep,hv,_⟩=>⟨v,he,?_⟩
 subst hv
 have hbel:=hkeep.below
 refine⟨[d0,d1,d2],[],_,[],p0 ++ (p1 ++ p2),[],(by rw[←hs0,←hs1];simpa using hW'),trodAll_mk1 (shut_bool Go.Proofs.Tryz.underlying4 _),(by rw[←hs0,←hs1];exact trodAll_mk3 (Below.trod laidOut (by kernel_rfl) (of_decide_eq_true (by kernel_rfl)) h0k hbel fun x hx=>hlt x (by simp[hx])) (Below.trod laidOut (by kernel_rfl) (of_decide_eq_true (by kernel_rfl)) h1k hbel fun x hx=>hlt x (by simp[hx])) (Below.trod laidOut (by kernel_rfl) (of_decide_eq_true (by kernel_rfl)) h2k hbel fun x hx=>hlt x (by simp[hx]))),rfl,hbel.frame _,fun h=>by cases h⟩
noncomputable def laidWorld (os:Os):World:=
 {World.holding Go.Proofs.Tryz.prog os ⟨#[],#[],[]⟩ with heap:=(World.holding Go.Proofs.Tryz.prog os ⟨#[],#[],[]⟩).heap.modify 0 fun
   | .cells _ t frozen=>.cells #[.int .u8 0,.int .u8 1,.int .u8 28,.int .u8 2,.int .u8 29,.int .u8 14,.int .u8 24,.int .u8 3,.int .u8 30,.int .u8 22,.int .u8 20,.int .u8 15,.int .u8 25,.int .u8 17,.int .u8 4,.int .u8 8,.int .u8 31,.int .u8 27,.int .u8 13,.int .u8 23,.int .u8 21,.int .u8 19,.int .u8 16,.int .u8 7,.int .u8 26,.int .u8 12,.int .u8 18,.int .u8 6,.int .u8 11,.int .u8 5,.int .u8 10,.int .u8 9] t frozen
   | o=>o }
theorem laid_met (os:Os):laidMet Go.Proofs.Tryz.prog Rows.gramPartsUptoRow.laid ((laidWorld os).forCall (fun _ _=>0) ⟨#[],#[.slice none 0 0,.slice none 0 0,.int .i64 0],[]⟩).memory:=
 laidMet_of_run' 8 (by kernel_rfl) (by kernel_rfl)
theorem reads (os:Os) {H:Type} (enc:TypeId×Value→H): ∃places,DataW.whole enc Go.Proofs.Tryz.prog ((laidWorld os).forCall (fun _ _=>0) ⟨#[],#[.slice none 0 0,.slice none 0 0,.int .i64 0],[]⟩).memory Go.Proofs.Tryz.f3.params.toList Rows.gramPartsSpec.vars false (#[.slice none 0 0,.slice none 0 0,.int .i64 0]:Array Value).toList 8=some ([.nil,.nil,.lit (.int .i64 0)],[],places):=
 ⟨[],by kernel_rfl⟩
theorem lifted (os:Os) (started:os.Started) (H:Type) (enc:TypeId×Value→H) (F:Stop.Interp):
  ReturnsInHanded {} Go.Proofs.Tryz.checked os 3 .any ((Rows.OpenSpec.upto Rows.gramPartsSpec).preRow enc Go.Proofs.Tryz.prog Go.Proofs.Tryz.f3 Rows.gramPartsUptoRow.domain false Rows.gramPartsUptoRow.laid) (((Rows.OpenSpec.upto Rows.gramPartsSpec).at F).post enc Go.Proofs.Tryz.prog Go.Proofs.Tryz.f3 false true false false):=by
 obtain⟨places,hx⟩:=reads os enc
 refine returnsInHanded_of_row (C:=Go.Proofs.Tryz.checked) (s:=Rows.OpenSpec.upto Rows.gramPartsSpec) ownKnob_none started (by kernel_rfl) Go.Proofs.Tryz.func3
  (witness_row_at (enc:=enc) (C:=Go.Proofs.Tryz.checked) false (laidWorld os) #[.slice none 0 0,.slice none 0 0,.int .i64 0] rfl (by kernel_rfl) (by kernel_rfl) (by kernel_rfl)
   (OpenSpec.preRow_of_cond 8 hx (by kernel_rfl) (fun k hk=>by cases hk;kernel_rfl) (by kernel_rfl) (laid_met os))) ?_
 intro W base args ds gs before hval hW _ hcond _ hL _ _
 exact contract H enc W base args ds gs before hval hW (hcond _ rfl) hL
theorem row_f0:facts0 Go.Proofs.Tryz.checked.prog 3 Go.Proofs.Tryz.f3 (Rows.OpenSpec.upto Rows.gramPartsSpec).bare Rows.gramPartsUptoRow=true:=by kernel_rfl
theorem row_f1:facts1 Go.Proofs.Tryz.checked.prog 3 Go.Proofs.Tryz.f3 (Rows.OpenSpec.upto Rows.gramPartsSpec).bare Rows.gramPartsUptoRow=true:=by kernel_rfl
theorem row_f2:facts2 Go.Proofs.Tryz.checked.prog 3 Go.Proofs.Tryz.f3 (Rows.OpenSpec.upto Rows.gramPartsSpec).bare Rows.gramPartsUptoRow=true:=by kernel_rfl
theorem row_f3:facts3 Go.Proofs.Tryz.checked.prog 3 Go.Proofs.Tryz.f3 (Rows.OpenSpec.upto Rows.gramPartsSpec).bare Rows.gramPartsUptoRow=true:=by kernel_rfl
theorem row_f4:facts4 Go.Proofs.Tryz.checked.prog 3 Go.Proofs.Tryz.f3 (Rows.OpenSpec.upto Rows.gramPartsSpec).bare Rows.gramPartsUptoRow=true:=by kernel_rfl
theorem saidUpto:Rows.GramPartsUptoSaid:=
 OpenClaim.holds_of_cond 3 Go.Proofs.Tryz.f3 rfl rfl rfl rfl rfl rfl rfl ⟨rfl,rfl,rfl,rfl,rfl⟩ rfl rfl rfl rfl rfl (by kernel_rfl) Go.Proofs.Tryz.func3 (joined_of row_f0 row_f1 row_f2 row_f3 row_f4)
  (of_decide_eq_true (by kernel_rfl)) (by unfold Func.isWrapper;first | (rw[if_pos (by decide +kernel)];kernel_rfl) | (rw[if_neg (by decide +kernel)];exact⟨rfl,rfl⟩))
  (fun os started H enc _ F=>by rw[OpenClaim.pre_eq_preRow];exact lifted os started H enc F)
theorem plain (f:FuncId) (fn:Func) (hf:Tryz.pinned.checked.prog.funcNamed "cincture/cincturelaw13.GramParts" = some f) (hfn:Tryz.pinned.checked.prog.funcs[f]?=some fn):
  false=Tryz.pinned.checked.prog.looks []∧∀(j:Nat) t,fn.params[j]?=some t→Tryz.pinned.checked.prog.wantsStandIn t=false:=by
 obtain rfl:f=3:=Option.some.inj ((show Go.Proofs.Tryz.prog.funcNamed "cincture/cincturelaw13.GramParts" = some 3 by kernel_rfl).symm.trans hf) |>.symm
 obtain rfl:fn=Go.Proofs.Tryz.f3:=(Option.some.inj (Go.Proofs.Tryz.func3.symm.trans hfn)).symm
 refine⟨by kernel_rfl,fun j t ht=>?_⟩
 rw[Go.Proofs.Tryz.params3] at ht
 have hm:t∈[22,23,3]:=by simpa using Array.mem_of_getElem? ht
 have hall:([22,23,3].all fun u=>!Go.Proofs.Tryz.prog.wantsStandIn u)=true:=by kernel_rfl
 exact(show Go.Proofs.Tryz.prog.wantsStandIn t=false by simpa using List.all_eq_true.1 hall t hm)
theorem gramParts_card:Rows.GramPartsUptoCardSaid:=
 Claim7.holds_tied_plain_at .later [] _ _ _ _ saidUpto (fun _ h=>by cases h) (by kernel_rfl) (fun _ h=>by cases h) gramPartsUpto_row_tie rfl ⟨rfl,rfl⟩ (by kernel_rfl) rfl plain (by kernel_rfl)
#print axioms gramParts_card
end Go.Proofs.YtnlmddaakeigdaaGreatDoor
