/- tmod.risen, tmod.Time; cinctureref1.Time. -/
import Derived.Test.YthpmkcidkcmlgaaGreatW18
import Derived.Test.YthpmkcidkcmlgaaGreatW17
import Derived.Test.YthpmkcidkcmlgaaGreatW14
set_option linter.unusedVariables false
set_option linter.unusedSimpArgs false
set_option maxRecDepth 100000
set_option linter.unusedVariables false
set_option linter.unusedSimpArgs false
namespace Go.Proofs.YthpmkcidkcmlgaaGreat
open Go Go.SX
def rsT (t:Tm):Tm:=(⟨t.1.x,t.1.y,t.1.z+1⟩,t.2/((t.1.z+1:Int):Rat))
def risP (p:List Tm):List Tm:=p.map rsT
def risM (p:List Tm) (j:Nat):List Tm:=risP (p.take j) ++ p.drop j
theorem risP_len (p:List Tm):(risP p).length=p.length:=by simp[risP]
theorem risM_at {p:List Tm} {j:Nat} (hj:j<p.length):(risM p j)[j]?=some p[j]:=by
 unfold risM risP
 rw[List.getElem?_append_right (by simp;omega)]
 simp[Nat.min_eq_left (Nat.le_of_lt hj)]
theorem risM_set {p:List Tm} {j:Nat} (hj:j<p.length):(risM p j).set j (rsT p[j])=risM p (j+1):=by
 unfold risM risP
 have hl:(List.map rsT (List.take j p)).length=j:=by simp;omega
 rw[List.set_append_right _ _ (by omega),hl,Nat.sub_self,List.drop_eq_getElem_cons hj,List.set_cons_zero,List.take_succ_eq_append_getElem hj,List.map_append,List.append_assoc]
 rfl
theorem risM_end (p:List Tm):risM p p.length=risP p:=by simp[risM]
theorem ris_ok {e:Int} {p:List Tm} (h:PExp e p) (he:e≤254):PExp (e+1) (risP p):=fun t ht=>by
 obtain⟨u,hu,rfl⟩:=List.mem_map.1 ht
 have:=h u hu
 unfold Mon.ok at this
 unfold rsT Mon.ok
 dsimp only
 omega
theorem sz_small {z:Int} (h0:0≤z) (h:z≤255):Sz 1 (z:Rat):=
 (FitQ.int z).sz (by decide) (by rw[nl_one];omega) (nl_le (Nat.lt_of_le_of_lt (show _≤255 by omega) (by decide:255<B^1)))
theorem ris_sz {p:List Tm} {k:Nat} {e:Int} (h: ∀t∈p,Sz k t.2) (he:PExp e p) (h254:e≤254): ∀t∈risP p,Sz (k+1) t.2:=fun t ht=>by
 obtain⟨u,hu,rfl⟩:=List.mem_map.1 ht
 have h1:=he u hu
 have h2:=h1.1
 unfold Mon.ok at h2
 exact(h u hu).div (sz_small (by omega) (by omega)) (by omega)
def rsI (s:Sl) (p:List Tm) (L:List PL) (W:PW):Prop:=match L with
 | [.val (.int .i64 i),.cells _]=>∃(j:Nat) (xs:List (List Value)),i=(j:Int)∧j≤p.length∧Go.SX.Own W 188 6 s xs∧All2 (PT 317 W) xs (risM p j)
 | _=>False
theorem wr_pt {W W':PW} {g:Nat} {xs:List (List Value)} {p:List Tm} (hw:Wr 188 g W W') (h:All2 (PT 317 W) xs p):All2 (PT 317 W') xs p:=
 h.mono fun _ _ ⟨h0,s1,b,s2,e1,e2⟩=>⟨h0,s1,b,s2,e1,hw.rat e2 (by decide)⟩
theorem tmodRisen_ok {W0:PW} {M:Nat→Prop} {s:Sl} {p:List Tm} {k:Nat} {e:Int} (h:IsPoly 317 188 W0 s p) (hz: ∀t∈p,Sz k t.2) (he:PExp e p) (h254:e≤254) (hk:(k+3)*p.length+1≤30000000) (hk2:k≤30000000) (hl:p.length≤32768):
  PCallsM Go.Proofs.Tryz.prog 133 [.agg ⟨[s.v]⟩] W0 M fun v W'=>∃(s':Sl),v = .tuple ⟨[.agg ⟨[Sl.v s']⟩,.bool true]⟩∧IsPoly 317 188 W' s' (pnorm (risP p)):=by
 apply calltmod_risen
 obtain⟨xs,hr,ha⟩:=h
 have hxl:=ha.len
 refine polyTerms_call hr (by omega) fun s3 W2 hE2 ⟨hF,hO⟩=>⟨s3,rfl,?_⟩
 have hM: ∀g,s3.v.ownBlock=some g→may W0 M g:=fun g hg=>.inr (hF g hg)
 have hn:s3.n=xs.length:=hO.row.1
 refine⟨rsI s3 p,cn1 p.length,⟨0,xs,rfl,Nat.zero_le _,hO,?_⟩,?_⟩
 ·show All2 _ xs (risP (p.take 0) ++ p.drop 0)
  exact ha.mono fun _ _ h=>h.ext hE2
 rintro s6 i7 W8 ⟨j,xs,rfl,hj,hO,ha⟩
 refine⟨fun hlt=>?_,fun hge=>?_⟩
 ·have hjl:j<p.length:=by omega
  obtain⟨x,hx,hok,s1,b1,s2,rfl,hq⟩:=ha.get (risM_at hjl)
  have hxe:=he _ (List.getElem_mem hjl)
  have hsz:=hz _ (List.getElem_mem hjl)
  have hok':=hok
  unfold Mon.ok at hok'
  have hib:SX.inB s3 (j:Int):=hO.row.inB (by omega) (by have:=(List.getElem?_eq_some_iff.1 hx).1;omega)
  have a1:ElemAt W8 s3 6 j 2 [.int .u8 p[j].1.z]:=hO.row.part hx 2 rfl
  have h02:(0:Int)≤2∧(2:Int)<3:=⟨by omega,by omega⟩
  refine⟨hib,h02,_,a1,fun h=>by omega,fun _=>⟨hib,h02,_,a1,hib,h02,?_⟩⟩
  rw[wrap8 (by omega) (by omega)]
  refine storeN_part hO hx (off:=2) (by simp) (by intro u hu;rw[List.mem_singleton.1 hu];rfl) hM fun W12 g hg hw hO12=>?_
  have hjx:=(List.getElem?_eq_some_iff.1 hx).1
  have hx2:(xs.set j [.int .u8 p[j].1.x,.int .u8 p[j].1.y,.int .u8 (p[j].1.z+1),s1.v,.bool b1,s2.v])[j]?=some [.int .u8 p[j].1.x,.int .u8 p[j].1.y,.int .u8 (p[j].1.z+1),s1.v,.bool b1,s2.v]:=by simp[hjx]
  have hO12:Go.SX.Own W12 188 6 s3 (xs.set j [.int .u8 p[j].1.x,.int .u8 p[j].1.y,.int .u8 (p[j].1.z+1),s1.v,.bool b1,s2.v]):=hO12
  have a2:ElemAt W12 s3 6 j 3 [s1.v,.bool b1,s2.v]:=hO12.row.part hx2 3 rfl
  have a3:ElemAt W12 s3 6 j 2 [.int .u8 (p[j].1.z+1)]:=hO12.row.part hx2 2 rfl
  refine⟨hib,s1,b1,s2,a2,hib,h02,_,a3,by unfold I64;omega,?_⟩
  refine ratOf_call (z:=p[j].1.z+1) (by unfold I64;omega) fun s19 b20 s21 W18 hE18 h18=>⟨s19,b20,s21,rfl,hE18,?_⟩
  refine ratDiv_call (k:=k) (l:=1) ((hw.rat hq (by decide)).ext hE18) h18 hsz (sz_small (by omega) (by omega)) (by omega) (by omega) (by omega) fun s24 b25 s26 W23 hE23 h23=>⟨s24,b25,s26,_,rfl,hE23,hib,?_⟩
  refine storeN_part (hO12.ext (hE18.trans hE23)) hx2 (off:=3) (by simp) (by
   intro u hu
   simp only[List.mem_cons,List.not_mem_nil,or_false] at hu
   rcases hu with rfl | rfl | rfl<;>rfl) hM fun W28 g' hg' hw' hO28=>⟨by unfold I64;omega,⟨j+1,_,by push_cast;rfl,by omega,hO28,?_⟩,?_⟩
  ·rw[Int.toNat_natCast,List.set_set,←risM_set hjl]
   have hall:=wr_pt hw' ((wr_pt hw ha).mono fun _ _ h=>h.ext (hE18.trans hE23))
   refine hall.set j (x:=[.int .u8 p[j].1.x,.int .u8 p[j].1.y,.int .u8 (p[j].1.z+1),s24.v,.bool b25,s26.v]) ⟨?_,s24,b25,s26,rfl,hw'.rat h23 (by decide)⟩
   unfold rsT Mon.ok
   dsimp only
   omega
  ·show p.length-Int.toNat ((j:Int)+1)<p.length-Int.toNat (j:Int)
   omega
 ·have hal:=ha.len
  have hml:(risM p j).length=p.length:=by simp[risM,risP];omega
  have hnn:s3.n=xs.length:=hO.row.1
  have:j=p.length:=by omega
  subst this
  rw[risM_end] at ha
  have hb:=Bd.of_sz (ris_sz hz he h254)
  rw[risP_len] at hb
  exact polyNew_call ⟨xs,hO.row,ha⟩ hb (by rw[show k+1+2=k+3 by omega];omega) (by rw[risP_len];omega) fun s31 W30 hE30 h30=>⟨s31,rfl,fun W32 hE32=>⟨_,rfl,h30.ext hE32⟩⟩
theorem tmodRisen_call {W0 W:PW} {M:Nat→Prop} {s:Sl} {p:List Tm} {k:Nat} {e:Int} {K:Value→PW→Prop} (h:IsPoly 317 188 W s p) (hz: ∀t∈p,Sz k t.2) (he:PExp e p) (h254:e≤254) (hk:(k+3)*p.length+1≤30000000) (hk2:k≤30000000) (hl:p.length≤32768) (kont: ∀(s':Sl) (W':PW),Ext W W'→(IsPoly 317 188 W' s' (pnorm (risP p)))→K (.tuple ⟨[.agg ⟨[Sl.v s']⟩,.bool true]⟩) W'):
  callN Go.Proofs.Tryz.prog W0 M 133 [.agg ⟨[s.v]⟩] W K:=
 callN_of (fun W' hE=>tmodRisen_ok (M:=fun _=>False) (h.ext hE) hz he h254 hk hk2 hl) (fun W' v W'' hE hE' hP=>by
  obtain⟨s',rfl,h⟩:=hP
  exact kont s' W'' (hE.trans hE') h)
def mdTime (b:Nat→Iv) (n:Int) (x:Mdl):Mdl:=((cutP b n (pnorm (risP x.1))).1,ivAdd (cutP b n (pnorm (risP x.1))).2 (ivMul x.2 (b 2)))
def TRight (b:Nat→Iv) (n:Int):Prop:=DRight b n∧(b 2).1=0
instance (b:Nat→Iv) (n:Int):Decidable (TRight b n):=by unfold TRight;infer_instance
theorem tmodTime_ok {W0:PW} {M:Nat→Prop} {l lx:List Value} {x:Mdl} {b:Nat→Iv} {n:Int} {kx rx m:Nat} {ex:Int} (hD:DomV 317 W0 l b n) (hx:MdV 317 188 W0 lx x) (bx:MdB kx rx ex x) (hm: ∀i,BdI m (b i)) (hm2:m≤7) (h254:ex≤254) (hk:(kx+3)*x.1.length+1≤30000000) (hk2:kx≤30000000) (hr:rx≤30000000) (lx1:x.1.length≤32768):
  PCallsM Go.Proofs.Tryz.prog 47 [.agg ⟨l⟩,.agg ⟨lx⟩] W0 M fun v W'=>∃(r:List Value),v = .tuple ⟨[.agg ⟨r⟩,.bool (decide (TRight b n))]⟩∧MdV 317 188 W' r (if TRight b n then mdTime b n x else mdlZ):=by
 obtain⟨l',rfl,hb⟩:=hD
 have hb0:=hb
 obtain⟨s0,b0,t0,s1,b1,t1,s2,b2,t2,s3,b3,t3,s4,b4,t4,s5,b5,t5,rfl,_,_,hb2⟩:=hb
 obtain⟨px,u0,c0,v0,u1,c1,v1,rfl,hxp,hxr⟩:=MdV.pts hx
 apply calltmod_Time
 have hz:=bx.bd.sz
 have hb':=Bd.of_sz (ris_sz hz bx.ok h254)
 rw[risP_len,show kx+1+2=kx+3 by omega] at hb'
 have hpe:PExp (ex+1) (pnorm (risP x.1)):=PExp.norm (ris_ok bx.ok h254)
 have hpl:=pnorm_len (risP x.1)
 rw[risP_len] at hpl
 refine tmodRisen_call hxp hz bx.ok h254 hk hk2 lx1 fun s3' W2 hE2 h2=>⟨s3',true,rfl,?_⟩
 refine tmodCut_call (DomV.mk (hb0.ext hE2)) h2 (pnorm_good _) hb'.norm hm hm2 hpe (by omega) (by omega) (by omega) fun r W6 hE6 h6=>h6.out fun s7 s8 b9 s10 s11 b12 s13 h6 hp6 hr6=>⟨fun e=>(by cases e),fun _=>⟨fun hno W16 hE16=>?_,fun hyes=>?_⟩⟩
 ·have h:¬DRight b n:=by simpa using hno
  have h':¬TRight b n:=fun e=>h e.1
  rw[decide_eq_false h',if_neg h']
  exact⟨_,rfl,MdV.zero W16⟩
 have hR:DRight b n:=by simpa using hyes
 rw[if_pos hR] at hp6 hr6
 have E0:=hE2.trans hE6
 have hq:=hb2.two
 refine⟨⟨by omega,by omega⟩,ratSign_call (hq.1.ext E0) ((hm 2).mono hm2).sz.1 (by omega) fun W18 hE18 _=>⟨_,rfl,fun hne W20 hE20=>?_,fun heq=>?_⟩⟩
 ·have h':¬TRight b n:=fun e=>hne ((cmpQ_zero _ _).2 e.2)
  rw[decide_eq_false h',if_neg h']
  exact⟨_,rfl,MdV.zero W20⟩
 have hT:TRight b n:=⟨hR,(cmpQ_zero _ _).1 (Decidable.not_not.1 heq)⟩
 rw[decide_eq_true hT,if_pos hT]
 have hc:=MdB.cut (n:=n) hb'.norm (pnorm_good _) hm hm2 hpe (by omega)
 have d1:=bx.rest.mul (hm 2)
 refine⟨⟨by omega,by omega⟩,spanMul_call (hxr.ext (E0.trans hE18)) (hb2.ext (E0.trans hE18)) (bx.rest.mono (show _≤30000000 by omega)).sz ((hm 2).mono (by omega)).sz (by omega) fun r W22 hE22 h22=>h22.out fun s23 b24 s25 s26 b27 s28 h22=>?_⟩
 exact spanAdd_call (hr6.ext (hE18.trans hE22)) h22 (hc.rest.mono (show _≤100000000 by omega)).sz (d1.mono (by omega)).sz (by omega) fun r W30 hE30 h30=>h30.out fun s31 b32 s33 s34 b35 s36 h30 W37 hE37=>⟨_,rfl,MdV.mk (x:=mdTime b n x) (hp6.ext (hE18.trans (hE22.trans (hE30.trans hE37)))) (h30.ext hE37)⟩
theorem tmodTime_call {W0 W:PW} {M:Nat→Prop} {l lx:List Value} {x:Mdl} {b:Nat→Iv} {n:Int} {kx rx m:Nat} {ex:Int} {K:Value→PW→Prop} (hD:DomV 317 W l b n) (hx:MdV 317 188 W lx x) (bx:MdB kx rx ex x) (hm: ∀i,BdI m (b i)) (hm2:m≤7) (h254:ex≤254) (hk:(kx+3)*x.1.length+1≤30000000) (hk2:kx≤30000000) (hr:rx≤30000000) (lx1:x.1.length≤32768) (kont: ∀(r:List Value) (W':PW),Ext W W'→(MdV 317 188 W' r (if TRight b n then mdTime b n x else mdlZ))→K (.tuple ⟨[.agg ⟨r⟩,.bool (decide (TRight b n))]⟩) W'):
  callN Go.Proofs.Tryz.prog W0 M 47 [.agg ⟨l⟩,.agg ⟨lx⟩] W K:=
 callN_of (fun W' hE=>tmodTime_ok (M:=fun _=>False) (hD.ext hE) (hx.ext hE) bx hm hm2 h254 hk hk2 hr lx1) (fun W' v W'' hE hE' hP=>by
  obtain⟨r,rfl,h⟩:=hP
  exact kont r W'' (hE.trans hE') h)
end Go.Proofs.YthpmkcidkcmlgaaGreat

/- span.Parse, cinctureref1.SpanParse; cincturelaw5.Is, Of. -/
set_option maxRecDepth 100000
set_option linter.unusedVariables false
set_option linter.unusedSimpArgs false
namespace Go.Proofs.YthpmkcidkcmlgaaGreat
open Go Go.SX
def spP (a b:ByteArray):Option Iv:=match parseQ a,parseQ b with
 | some p,some q=>if p≤q then some (p,q) else none
 | _,_=>none
theorem spP_some {a b:ByteArray} {x:Iv} (h:spP a b=some x):parseQ a=some x.1∧parseQ b=some x.2∧x.1≤x.2:=by
 unfold spP at h
 cases ha:parseQ a with
 | none=>rw[ha] at h;cases h
 | some p=>
  cases hb:parseQ b with
  | none=>rw[ha,hb] at h;cases h
  | some q=>
   rw[ha,hb] at h
   dsimp only at h
   split at h
   ·cases h;exact⟨rfl,rfl,by assumption⟩
   ·cases h
theorem er_zero {α:Type} {o:Option α} :er o=0↔o.isSome=true:=by
 unfold er
 cases o<;>simp
theorem parseQ_4000 {a:ByteArray} :Sz 4000 ((parseQ a).getD 0):=by
 cases h:parseQ a with
 | none=>exact Sz.zero (by omega)
 | some q=>exact(parseQ_sz h).1
theorem spanParse_ok {W0:PW} {M:Nat→Prop} {a b:ByteArray} (ha:a.size≤1099511627776) (hb:b.size≤1099511627776):
  PCallsM Go.Proofs.Tryz.prog 178 [.agg ⟨[.string a,.string b]⟩] W0 M fun v W'=>∃(l:List Value),∃(e:Int),v = .tuple ⟨[.agg ⟨l⟩,.int .i64 e]⟩∧SpV 317 W' l ((spP a b).getD (0,0))∧(e=0↔(spP a b).isSome=true):=by
 apply callspan_Parse
 refine ratParse_call ha fun s3 b4 s5 W2 hE2 h2=>⟨s3,b4,s5,_,rfl,fun hne W7 hE7=>?_,fun heq=>?_⟩
 ·have hn:parseQ a=none:=by
   cases h:parseQ a with
   | none=>rfl
   | some q=>exact absurd (er_zero.2 (by rw[h];rfl)) hne
  have hs:spP a b=none:=by unfold spP;rw[hn]
  refine⟨_,_,rfl,by rw[hs];exact SpV.zero W7,?_⟩
  rw[hs,er_zero,hn];simp
 ·have h1:=er_zero.1 (Decidable.not_not.1 heq)
  obtain⟨p,hp⟩:=Option.isSome_iff_exists.1 h1
  refine ratParse_call hb fun s10 b11 s12 W9 hE9 h9=>⟨s10,b11,s12,_,rfl,fun hne W14 hE14=>?_,fun heq2=>?_⟩
  ·have hn:parseQ b=none:=by
    cases h:parseQ b with
    | none=>rfl
    | some q=>exact absurd (er_zero.2 (by rw[h];rfl)) hne
   have hs:spP a b=none:=by unfold spP;rw[hp,hn]
   refine⟨_,_,rfl,by rw[hs];exact SpV.zero W14,?_⟩
   rw[hs,er_zero,hn];simp
  ·have h3:=er_zero.1 (Decidable.not_not.1 heq2)
   obtain⟨q,hq⟩:=Option.isSome_iff_exists.1 h3
   have z1:=parseQ_4000 (a:=a)
   have z2:=parseQ_4000 (a:=b)
   refine spanNew_call (h2.ext hE9) h9 z1 z2 (by omega) fun l W16 hE16 h16=>?_
   rw[hp,hq] at h16⊢
   simp only[Option.getD_some] at h16⊢
   have hs:spP a b=if p≤q then some (p,q) else none:=by unfold spP;rw[hp,hq]
   obtain⟨s17,b18,s19,s20,b21,s22,rfl,k1,k2⟩:=h16
   refine⟨s17,b18,s19,s20,b21,s22,_,rfl,fun hno W24 hE24=>?_,fun hyes W25 hE25=>?_⟩
   ·have hno:¬p≤q:=by simpa using hno
    rw[hs,if_neg hno]
    exact⟨_,_,rfl,SpV.zero W24,by decide⟩
   ·have hyes:p≤q:=by simpa using hyes
    rw[if_pos hyes] at k1 k2
    rw[hs,if_pos hyes]
    exact⟨_,_,rfl,SpV.mk (x:=(p,q)) (k1.ext hE25) (k2.ext hE25),by simp⟩
theorem spanParse_call {W0 W:PW} {M:Nat→Prop} {a b:ByteArray} {K:Value→PW→Prop} (ha:a.size≤1099511627776) (hb:b.size≤1099511627776) (kont: ∀(l:List Value) (e:Int) (W':PW),Ext W W'→(SpV 317 W' l ((spP a b).getD (0,0))∧(e=0↔(spP a b).isSome=true))→K (.tuple ⟨[.agg ⟨l⟩,.int .i64 e]⟩) W'):
  callN Go.Proofs.Tryz.prog W0 M 178 [.agg ⟨[.string a,.string b]⟩] W K:=
 callN_of (fun W' hE=>spanParse_ok (M:=fun _=>False) ha hb) (fun W' v W'' hE hE' hP=>by
  obtain⟨l,e,rfl,h⟩:=hP
  exact kont l e W'' (hE.trans hE') h)
theorem refSpanParse_ok {W0:PW} {M:Nat→Prop} {a b:ByteArray} (ha:a.size≤1099511627776) (hb:b.size≤1099511627776):
  PCallsM Go.Proofs.Tryz.prog 177 [.agg ⟨[.string a,.string b]⟩] W0 M fun v W'=>∃(l:List Value),∃(e:Int),v = .tuple ⟨[.agg ⟨l⟩,.int .i64 e]⟩∧RSpV 317 W' l ((spP a b).getD (0,0))∧(e=0↔(spP a b).isSome=true):=by
 apply callref1_SpanParse
 refine refRatParse_call ha fun b3 s4 s5 W2 hE2 h2=>⟨b3,s4,s5,_,rfl,refRatParse_call hb fun b9 s10 s11 W8 hE8 h8=>⟨b9,s10,s11,_,rfl,fun hno W13 hE13=>?_,fun hyes=>⟨fun hno W14 hE14=>?_,fun hyes2=>?_⟩⟩⟩
 ·have hn:parseQ a=none:=by simpa using hno
  have hs:spP a b=none:=by unfold spP;rw[hn]
  rw[hs]
  exact⟨_,_,rfl,RSpV.zero W13,by decide⟩
 ·have hn:parseQ b=none:=by simpa using hno
  have hs:spP a b=none:=by unfold spP;cases parseQ a<;>rw[hn]
  rw[hs]
  exact⟨_,_,rfl,RSpV.zero W14,by decide⟩
 ·obtain⟨p,hp⟩:=Option.isSome_iff_exists.1 (show(parseQ a).isSome=true by simpa using hyes)
  obtain⟨q,hq⟩:=Option.isSome_iff_exists.1 (show(parseQ b).isSome=true by simpa using hyes2)
  have z1:=parseQ_4000 (a:=a)
  have z2:=parseQ_4000 (a:=b)
  have hs:spP a b=if p≤q then some (p,q) else none:=by unfold spP;rw[hp,hq]
  rw[hp] at h2 z1
  rw[hq] at h8 z2
  simp only[Option.getD_some] at h2 h8 z1 z2
  refine refQCmp_call (h2.ext hE8) h8 z1 z2 (by omega) (by omega) fun W16 hE16 _=>⟨_,rfl,fun hgt W18 hE18=>?_,fun hle W19 hE19=>?_⟩
  ·have h:¬p≤q:=Rat.not_le.2 (cmpQ_gt.1 hgt)
   rw[hs,if_neg h]
   exact⟨_,_,rfl,RSpV.zero W18,by decide⟩
  ·have h:p≤q:=Rat.not_lt.1 fun e=>hle (cmpQ_gt.2 e)
   rw[hs,if_pos h]
   exact⟨_,_,rfl,RSpV.mk (x:=(p,q)) (h2.ext (hE8.trans (hE16.trans hE19))) (h8.ext (hE16.trans hE19)),by simp⟩
theorem refSpanParse_call {W0 W:PW} {M:Nat→Prop} {a b:ByteArray} {K:Value→PW→Prop} (ha:a.size≤1099511627776) (hb:b.size≤1099511627776) (kont: ∀(l:List Value) (e:Int) (W':PW),Ext W W'→(RSpV 317 W' l ((spP a b).getD (0,0))∧(e=0↔(spP a b).isSome=true))→K (.tuple ⟨[.agg ⟨l⟩,.int .i64 e]⟩) W'):
  callN Go.Proofs.Tryz.prog W0 M 177 [.agg ⟨[.string a,.string b]⟩] W K:=
 callN_of (fun W' hE=>refSpanParse_ok (M:=fun _=>False) ha hb) (fun W' v W'' hE hE' hP=>by
  obtain⟨l,e,rfl,h⟩:=hP
  exact kont l e W'' (hE.trans hE') h)
theorem law5Is_ok {W0:PW} {M:Nat→Prop} {l l':List Value} {x:Iv} {k:Nat} (h1:SpV 317 W0 l x) (h2:RSpV 317 W0 l' x) (hx:IvS k x) (hk:k≤100000000):
  PCallsM Go.Proofs.Tryz.prog 60 [.agg ⟨l⟩,.agg ⟨l'⟩] W0 M fun v W'=>v = .bool true∧True:=by
 obtain⟨s0,b0,t0,s1,b1,t1,rfl,h1,h1'⟩:=h1
 obtain⟨s2,b2,t2,s3,b3,t3,rfl,h2,h2'⟩:=h2
 apply calllaw5_Is
 exact law3Is_call h1 h2 hx.1 hx.1 hk fun W2 hE2 _=>⟨_,rfl,fun _=>law3Is_call (h1'.ext hE2) (h2'.ext hE2) hx.2 hx.2 hk fun W5 hE5 _=>⟨_,rfl,fun W7 _=>⟨by rw[decide_eq_true rfl],trivial⟩⟩,fun e=>absurd e (by simp)⟩
theorem law5Is_call {W0 W:PW} {M:Nat→Prop} {l l':List Value} {x:Iv} {k:Nat} {K:Value→PW→Prop} (h1:SpV 317 W l x) (h2:RSpV 317 W l' x) (hx:IvS k x) (hk:k≤100000000) (kont: ∀(W':PW),Ext W W'→(True)→K (.bool true) W'):
  callN Go.Proofs.Tryz.prog W0 M 60 [.agg ⟨l⟩,.agg ⟨l'⟩] W K:=
 callN_of (fun W' hE=>law5Is_ok (M:=fun _=>False) (h1.ext hE) (h2.ext hE) hx hk) (fun W' v W'' hE hE' hP=>by
  obtain⟨rfl,h⟩:=hP
  exact kont W'' (hE.trans hE') h)
theorem law5Of_ok {W0:PW} {M:Nat→Prop} {a b:ByteArray} (ha:a.size≤1099511627776) (hb:b.size≤1099511627776):
  PCallsM Go.Proofs.Tryz.prog 106 [.agg ⟨[.string a,.string b]⟩] W0 M fun v W'=>∃(l:List Value),∃(l':List Value),∃(ok:Bool),∃(x:Iv),v = .tuple ⟨[.agg ⟨l⟩,.agg ⟨l'⟩,.bool ok]⟩∧SpV 317 W' l x∧RSpV 317 W' l' x∧(ok=true→spP a b=some x∧a.size≤60∧b.size≤60)∧(ok=false→x=(0,0)∧¬((spP a b).isSome=true∧a.size≤60∧b.size≤60)):=by
 apply calllaw5_Of
 have bad: ∀(W':PW),¬((spP a b).isSome=true∧a.size≤60∧b.size≤60)→∃(l:List Value) (l':List Value) (ok:Bool) (x:Iv),Value.tuple ⟨[.agg ⟨[.slice none 0 0,.bool false,.slice none 0 0,.slice none 0 0,.bool false,.slice none 0 0]⟩,.agg ⟨[.bool false,.slice none 0 0,.slice none 0 0,.bool false,.slice none 0 0,.slice none 0 0]⟩,.bool false]⟩ = .tuple ⟨[.agg ⟨l⟩,.agg ⟨l'⟩,.bool ok]⟩∧
   SpV 317 W' l x∧RSpV 317 W' l' x∧(ok=true→spP a b=some x∧a.size≤60∧b.size≤60)∧(ok=false→x=(0,0)∧¬((spP a b).isSome=true∧a.size≤60∧b.size≤60)):=
  fun W' hn=>⟨_,_,_,(0,0),rfl,SpV.zero W',RSpV.zero W',fun e=>(by cases e),fun _=>⟨rfl,hn⟩⟩
 refine refSpanParse_call ha hb fun l e W2 hE2 ⟨h2,he⟩=>?_
 obtain⟨b3,s4,s5,b6,s7,s8,rfl,k1,k2⟩:=h2
 refine⟨b3,s4,s5,b6,s7,s8,e,rfl,fun hne W10 _=>bad W10 fun h=>hne (he.2 h.1),fun heq=>⟨fun h60 W11 _=>bad W11 fun h=>by omega,fun h60=>⟨fun h61 W12 _=>bad W12 fun h=>by omega,fun h61=>?_⟩⟩⟩
 obtain⟨x,hx⟩:=Option.isSome_iff_exists.1 (he.1 (Decidable.not_not.1 heq))
 rw[hx] at k1 k2
 refine spanParse_call ha hb fun l e' W14 hE14 ⟨h14,_⟩=>?_
 rw[hx] at h14
 obtain⟨s15,b16,s17,s18,b19,s20,rfl,q1,q2⟩:=h14
 refine⟨s15,b16,s17,s18,b19,s20,e',rfl,fun W22 hE22=>⟨_,_,_,x,rfl,SpV.mk (q1.ext hE22) (q2.ext hE22),RSpV.mk (k1.ext (hE14.trans hE22)) (k2.ext (hE14.trans hE22)),fun _=>⟨hx,by omega,by omega⟩,fun e=>(by cases e)⟩⟩
theorem law5Of_call {W0 W:PW} {M:Nat→Prop} {a b:ByteArray} {K:Value→PW→Prop} (ha:a.size≤1099511627776) (hb:b.size≤1099511627776) (kont: ∀(l:List Value) (l':List Value) (ok:Bool) (x:Iv) (W':PW),Ext W W'→(SpV 317 W' l x∧RSpV 317 W' l' x∧(ok=true→spP a b=some x∧a.size≤60∧b.size≤60)∧(ok=false→x=(0,0)∧¬((spP a b).isSome=true∧a.size≤60∧b.size≤60)))→K (.tuple ⟨[.agg ⟨l⟩,.agg ⟨l'⟩,.bool ok]⟩) W'):
  callN Go.Proofs.Tryz.prog W0 M 106 [.agg ⟨[.string a,.string b]⟩] W K:=
 callN_of (fun W' hE=>law5Of_ok (M:=fun _=>False) ha hb) (fun W' v W'' hE hE' hP=>by
  obtain⟨l,l',ok,x,rfl,h⟩:=hP
  exact kont l l' ok x W'' (hE.trans hE') h)
end Go.Proofs.YthpmkcidkcmlgaaGreat

/- cincturelaw15: Domain, Of, Is, told, alive. -/
set_option maxRecDepth 100000
set_option linter.unusedVariables false
set_option linter.unusedSimpArgs false
namespace Go.Proofs.YthpmkcidkcmlgaaGreat
open Go Go.SX
structure DT where
 a0:ByteArray
 b0:ByteArray
 a1:ByteArray
 b1:ByteArray
 a2:ByteArray
 b2:ByteArray
def DT.lo (t:DT) (i:Nat):ByteArray:=if i=0 then t.a0 else if i=1 then t.a1 else t.a2
def DT.hi (t:DT) (i:Nat):ByteArray:=if i=0 then t.b0 else if i=1 then t.b1 else t.b2
def DT.cs (t:DT):List Value:=[.string t.a0,.string t.b0,.string t.a1,.string t.b1,.string t.a2,.string t.b2]
def sideOK (t:DT) (i:Nat):Prop:=(spP (t.lo i) (t.hi i)).isSome=true∧(t.lo i).size≤16∧(t.hi i).size≤16
structure DomB (b:Nat→Iv):Prop where
 bd: ∀i,BdI 7 (b i)
 ord: ∀i,(b i).1≤(b i).2
theorem DomB.set {b:Nat→Iv} (h:DomB b) {j:Nat} {x:Iv} (hx:IvS 3 x) (ho:x.1≤x.2):DomB fun k=>if k=j then x else b k:=
 ⟨fun i=>by
  by_cases e:i=j
  ·simp only[e,if_true];exact BdI.of_sz hx
  ·simp only[e,if_false];exact h.bd i,fun i=>by
  by_cases e:i=j
  ·simp only[e,if_true];exact ho
  ·simp only[e,if_false];exact h.ord i⟩
theorem DomB.zero:DomB fun _=>(0,0):=⟨fun _=>BdI.zero (by omega),fun _=>Rat.le_refl⟩
theorem spP_sz {a b:ByteArray} {x:Iv} (h:spP a b=some x) (ha:a.size≤20) (hb:b.size≤20):IvS 3 x∧x.1≤x.2:=by
 obtain⟨h1,h2,h3⟩:=spP_some h
 exact⟨⟨(parseQ_sz h1).2 ha,(parseQ_sz h2).2 hb⟩,h3⟩
def d15 (W0:PW) (t:DT) (n:Int) (L:List PL) (W:PW):Prop:=match L with
 | [.val (.int .i64 i),_,_,.cells l,.cells l']=>∃(j:Nat) (b:Nat→Iv),i=(j:Int)∧j≤3∧DomV 317 W l b n∧RDomV 317 W l' b n∧DomB b∧∀i,i<j→sideOK t i∧spP (t.lo i) (t.hi i)=some (b i)
 | _=>False
def d5 (L:List PL) (_:PW):Nat:=match L with
 | .val (.int .i64 i) :: _=>3-i.toNat
 | _=>0
theorem law15Domain_ok {W0:PW} {M:Nat→Prop} {t:DT} {n:Int} (hz: ∀i,(t.lo i).size≤1099511627776∧(t.hi i).size≤1099511627776):
  PCallsM Go.Proofs.Tryz.prog 44 [.agg ⟨[.string t.a0,.string t.b0,.string t.a1,.string t.b1,.string t.a2,.string t.b2]⟩,.int .i64 n] W0 M fun v W'=>∃(l:List Value),∃(l':List Value),∃(ok:Bool),∃(b:Nat→Iv),v = .tuple ⟨[.agg ⟨l⟩,.agg ⟨l'⟩,.bool ok]⟩∧DomV 317 W' l b n∧RDomV 317 W' l' b n∧DomB b∧(ok=true↔∀i,i<3→sideOK t i)∧(ok=true→∀i,i<3→spP (t.lo i) (t.hi i)=some (b i)):=by
 apply calllaw15_Domain
 refine⟨d15 W0 t n,d5,⟨0,fun _=>(0,0),rfl,Nat.zero_le _,DomV.zero W0 n,RDomV.zero W0 n,DomB.zero,fun i hi=>by omega⟩,?_⟩
 rintro s3 b4 s5 s6 b7 s8 s9 b10 s11 s12 b13 s14 s15 b16 s17 s18 b19 s20 i21 b22 s23 s24 b25 s26 s27 b28 s29 s30 b31 s32 s33 b34 s35 s36 b37 s38 s39 i40 s41 b42 s43 s44 b45 s46 s47 b48 s49 s50 b51 s52 s53 b54 s55 s56 b57 s58 i59 b60 s61 s62 b63 s64 s65 b66 s67 s68 b69 s70 s71 b72 s73 s74 b75 s76 s77 i78 i79 W80 ⟨j,b,rfl,hj,hD,hR,hB,hall⟩
 refine⟨fun hlt=>?_,fun hge W103 hE103=>⟨_,_,true,b,rfl,hD.ext hE103,hR.ext hE103,hB,⟨fun _ i hi=>(hall i (by omega)).1,fun _=>rfl⟩,fun _ i hi=>(hall i (by omega)).2⟩⟩
 have hj3:j<3:=by omega
 have hbx:BoxAt t.cs (0+Int.toNat (j:Int)*2+0) [.string (t.lo j),.string (t.hi j)]:=by
  rcases(by omega:j=0∨j=1∨j=2) with rfl | rfl | rfl<;>exact⟨by simp[DT.cs],rfl⟩
 have hb1:BoxAt t.cs (0+Int.toNat (j:Int)*2+0) [.string (t.lo j)]:=by
  rcases(by omega:j=0∨j=1∨j=2) with rfl | rfl | rfl<;>exact⟨by simp[DT.cs],rfl⟩
 have hb2:BoxAt t.cs (0+Int.toNat (j:Int)*2+1) [.string (t.hi j)]:=by
  rcases(by omega:j=0∨j=1∨j=2) with rfl | rfl | rfl<;>exact⟨by simp[DT.cs],rfl⟩
 have bad:¬sideOK t j→∀(W':PW),Ext W80 W'→∀l l',DomV 317 W80 l b n→RDomV 317 W80 l' b n→∃(m:List Value) (m':List Value) (ok:Bool) (b:Nat→Iv),Value.tuple ⟨[.agg ⟨l⟩,.agg ⟨l'⟩,.bool false]⟩ = .tuple ⟨[.agg ⟨m⟩,.agg ⟨m'⟩,.bool ok]⟩∧DomV 317 W' m b n∧RDomV 317 W' m' b n∧DomB b∧(ok=true↔∀i,i<3→sideOK t i)∧(ok=true→∀i,i<3→spP (t.lo i) (t.hi i)=some (b i)):=
  fun hn W' hE l l' h1 h2=>⟨l,l',false,b,rfl,h1.ext hE,h2.ext hE,hB,⟨fun e=>(by cases e),fun h=>absurd (h j hj3) hn⟩,fun e=>(by cases e)⟩
 refine⟨⟨by omega,by omega⟩,t.lo j,t.hi j,hbx,law5Of_call (hz j).1 (hz j).2 fun l l' ok x W84 hE84 ⟨h1,h2,h3,h4⟩=>?_⟩
 obtain⟨s85,b86,s87,s88,b89,s90,rfl,k1,k2⟩:=h1
 obtain⟨b91,s92,s93,b94,s95,s96,rfl,q1,q2⟩:=h2
 refine⟨s85,b86,s87,s88,b89,s90,b91,s92,s93,b94,s95,s96,ok,rfl,fun hno W98 hE98=>bad (fun e=>?_) W98 (hE84.trans hE98) _ _ hD hR,fun hyes=>⟨⟨by omega,by omega⟩,t.lo j,hb1,fun h16 W100 hE100=>bad (fun e=>by have:=e.2.1;omega) W100 (hE84.trans hE100) _ _ hD hR,fun h16=>⟨⟨by omega,by omega⟩,t.hi j,hb2,fun h17 W102 hE102=>bad (fun e=>by have:=e.2.2;omega) W102 (hE84.trans hE102) _ _ hD hR,fun h17=>?_⟩⟩⟩
 ·have hok:ok=false:=by simpa using hno
  have h5:=(h4 hok).2
  have h6:=e.2
  exact h5 ⟨e.1,by omega,by omega⟩
 have hok:ok=true:=by simpa using hyes
 obtain⟨hs,_,_⟩:=h3 hok
 have hsz:=spP_sz hs (by omega) (by omega)
 have hside:sideOK t j:=⟨by rw[hs];rfl,by omega,by omega⟩
 have hB':=hB.set (j:=j) hsz.1 hsz.2
 obtain⟨d0,d1,d2⟩:=(hD.ext hE84).set0 (SpV.mk k1 k2)
 obtain⟨e0,e1,e2⟩:=(hR.ext hE84).set0 (RSpV.mk q1 q2)
 have hall': ∀i,i<j+1→sideOK t i∧spP (t.lo i) (t.hi i)=some (if i=j then x else b i):=fun i hi=>by
  by_cases e:i=j
  ·subst e;rw[if_pos rfl];exact⟨hside,hs⟩
  ·rw[if_neg e];exact hall i (by omega)
 have hmu:3-Int.toNat ((j:Int)+1)<3-Int.toNat (j:Int):=by omega
 have hi64:I64 ((j:Int)+1):=by unfold I64;omega
 refine⟨⟨by omega,by omega⟩,by omega,⟨⟨⟨trivial,fun _=>⟨⟨by omega,by omega⟩,by omega,⟨⟨⟨trivial,fun _=>?_⟩,fun h=>absurd h (by omega)⟩,fun h=>absurd h (by omega)⟩⟩⟩,fun _=>⟨⟨by omega,by omega⟩,by omega,⟨⟨⟨trivial,fun h=>absurd h (by omega)⟩,fun _=>?_⟩,fun h=>absurd h (by omega)⟩⟩⟩,fun _=>⟨⟨by omega,by omega⟩,by omega,⟨⟨⟨trivial,fun h=>absurd h (by omega)⟩,fun h=>absurd h (by omega)⟩,fun _=>?_⟩⟩⟩⟩
 ·have:j=0:=by omega
  subst this
  exact⟨hi64,⟨1,_,rfl,by omega,d0,e0,hB',hall'⟩,hmu⟩
 ·have:j=1:=by omega
  subst this
  exact⟨hi64,⟨2,_,rfl,by omega,d1,e1,hB',hall'⟩,hmu⟩
 ·have:j=2:=by omega
  subst this
  exact⟨hi64,⟨3,_,rfl,by omega,d2,e2,hB',hall'⟩,hmu⟩
theorem law15Domain_call {W0 W:PW} {M:Nat→Prop} {t:DT} {n:Int} {K:Value→PW→Prop} (hz: ∀i,(t.lo i).size≤1099511627776∧(t.hi i).size≤1099511627776) (kont: ∀(l:List Value) (l':List Value) (ok:Bool) (b:Nat→Iv) (W':PW),Ext W W'→(DomV 317 W' l b n∧RDomV 317 W' l' b n∧DomB b∧(ok=true↔∀i,i<3→sideOK t i)∧(ok=true→∀i,i<3→spP (t.lo i) (t.hi i)=some (b i)))→K (.tuple ⟨[.agg ⟨l⟩,.agg ⟨l'⟩,.bool ok]⟩) W'):
  callN Go.Proofs.Tryz.prog W0 M 44 [.agg ⟨[.string t.a0,.string t.b0,.string t.a1,.string t.b1,.string t.a2,.string t.b2]⟩,.int .i64 n] W K:=
 callN_of (fun W' hE=>law15Domain_ok (M:=fun _=>False) hz) (fun W' v W'' hE hE' hP=>by
  obtain⟨l,l',ok,b,rfl,h⟩:=hP
  exact kont l l' ok b W'' (hE.trans hE') h)
end Go.Proofs.YthpmkcidkcmlgaaGreat
