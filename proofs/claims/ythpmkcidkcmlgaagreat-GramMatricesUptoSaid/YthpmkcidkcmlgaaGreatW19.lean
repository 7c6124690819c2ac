/- cincturelaw13.GramForms. -/
import Derived.Test.YthpmkcidkcmlgaaGreatW18
import Derived.Test.YthpmkcidkcmlgaaGreatW13
import Derived.Test.YthpmkcidkcmlgaaGreatW17
import Derived.Test.YthpmkcidkcmlgaaGreatW16
import Derived.Test.YthpmkcidkcmlgaaGreatR14
import Derived.Test.YthpmkcidkcmlgaaGreatW15
import Derived.Test.YthpmkcidkcmlgaaGreatW14
set_option linter.unusedVariables false
set_option linter.unusedSimpArgs false
set_option maxRecDepth 100000
set_option linter.unusedVariables false
set_option linter.unusedSimpArgs false
namespace Go.Proofs.YthpmkcidkcmlgaaGreat
open Go Go.SX
def g0:ByteArray:=⟨⟨[48]⟩⟩
def g1:ByteArray:=⟨⟨[49]⟩⟩
def gh:ByteArray:=⟨⟨[49,47,50]⟩⟩
def gT:List (List ByteArray):=[[g1,gh],[gh,g0]]
theorem parse_g0:parseQ g0=some 0:=by decide +kernel
theorem parse_g1:parseQ g1=some 1:=by decide +kernel
theorem parse_gh:parseQ gh=some (1/2):=by decide +kernel
def gM (i j:Nat):Rat:=(parseQ (txt gT i j)).getD 0
def gM' (i j:Nat):Rat:=if i=0 then(if j=0 then 1 else 1/2) else if j=0 then 1/2 else 0
theorem gM_eq {i j:Nat} (hi:i<2) (hj:j<2):gM i j=gM' i j:=by
 rcases(show i=0∨i=1 by omega) with rfl | rfl<;>rcases(show j=0∨j=1 by omega) with rfl | rfl
 ·show(parseQ g1).getD 0=1;rw[parse_g1];rfl
 ·show(parseQ gh).getD 0=1/2;rw[parse_gh];rfl
 ·show(parseQ gh).getD 0=1/2;rw[parse_gh];rfl
 ·show(parseQ g0).getD 0=0;rw[parse_g0];rfl
theorem formK_congr {q:Nat→List Tm} {m m':Nat→Nat→Rat} {i:Nat} {a:Option (List Tm)} : ∀{k:Nat} (_: ∀t,t<k→m i t=m' i t),formK q m i a k=formK q m' i a k
 | 0,_=>rfl
 | k+1,h=>by
  rw[formK,formK,formK_congr fun t ht=>h t (by omega)]
  unfold stepA
  rw[h k (by omega)]
theorem formI_congr {q:Nat→List Tm} {m m':Nat→Nat→Rat} {n:Nat} : ∀{i:Nat} (_: ∀t u,t<i→u<n→m t u=m' t u),formI q m n i=formI q m' n i
 | 0,_=>rfl
 | i+1,h=>by
  rw[formI,formI,formI_congr fun t u ht hu=>h t u (by omega) hu,formK_congr fun t ht=>h i t (by omega) ht]
def gPs:List (List Tm):=[[(⟨1,0,0⟩,1)],[(⟨0,0,0⟩,1)]]
def gP:List Tm:=[(⟨1,0,0⟩,1),(⟨2,0,0⟩,1)]
theorem g_form:formI (qat gPs) gM' 2 2=some gP:=by decide +kernel
theorem g_one:pnorm [((⟨0,0,0⟩:Mon),((1:Int):Rat))] = [(⟨0,0,0⟩,1)]:=by decide +kernel
theorem g_var:varP 0 = [(⟨1,0,0⟩,1)]:=rfl
theorem txt_le {T:List (List ByteArray)} {n:Nat} (h: ∀l∈T,∀t∈l,t.size≤n) (i j:Nat):(txt T i j).size≤n:=by
 unfold txt
 cases e:T[i]? with
 | none=>exact Nat.zero_le _
 | some l=>
  show(l[j]?.getD ⟨⟨[]⟩⟩).size≤_
  cases e2:l[j]? with
  | none=>exact Nat.zero_le _
  | some t=>exact h l (List.mem_of_getElem? e) t (List.mem_of_getElem? e2)
theorem g_le: ∀l∈gT,∀t∈l,t.size≤20:=by decide
theorem gSz (i j:Nat):Sz 3 (gM i j):=by
 unfold gM
 cases e:parseQ (txt gT i j) with
 | none=>exact Sz.zero (by omega)
 | some q=>exact(parseQ_sz e).2 (txt_le g_le i j)
theorem g_good:FormOK gPs 2 (tw gT):=by
 have h0:tw gT 0=2:=rfl
 have h1:tw gT 1=2:=rfl
 refine⟨⟨fun i hi=>?_,by omega,by omega,by omega,by omega⟩,h0,rfl⟩
 rcases(show i=0∨i=1 by omega) with rfl | rfl
 ·rfl
 ·rw[h0,h1]
theorem g_res:formP gPs 2 (tw gT) gM=some gP:=by
 rw[formP_good g_good,←g_form]
 exact formI_congr fun t u ht hu=>gM_eq ht hu
theorem g_bd (m:Mon):Bd 56029 [(m,(1:Rat))]:=(bd_one (Sz.one (Nat.le_refl 1))).mono (by decide)
theorem g_sys:SysOK gPs:=⟨fun q hq=>by
 simp only[gPs,List.mem_cons,List.not_mem_nil,or_false] at hq
 rcases hq with rfl | rfl
 ·exact⟨g_bd _,by simp⟩
 ·exact⟨g_bd _,by simp⟩,by decide⟩
theorem dec_g1:decQ 1=g1:=by
 have h:(1:Rat).den=1:=by decide
 have h2:(1:Rat).num=1:=by decide
 unfold decQ
 rw[if_pos h,h2]
 unfold decI decN
 rw[if_neg (by decide),if_neg (by decide),show Int.natAbs 1=1 from rfl,dec_pos (by decide),show 1/10=0 from rfl,dec_zero]
 decide
theorem g_txt:ptxt gP = [(⟨1,0,0⟩,g1),(⟨2,0,0⟩,g1)]:=by
 simp only[ptxt,gP,List.map_cons,List.map_nil,dec_g1]
theorem gTx {W:PW} {s1 s4 s7:Sl} (h1:Row W 9 1 s1 [[.string g1],[.string gh]]) (h4:Row W 9 1 s4 [[.string gh],[.string g0]]) (h7:Row W 179 1 s7 [[s1.v],[s4.v]]):IsTx W s7 gT:=
 ⟨[s1,s4],⟨_,h7⟩,rfl,fun i hi hi'=>by
  have hi2:i<2:=hi
  rcases(show i=0∨i=1 by omega) with rfl | rfl
  ·exact⟨_,h1⟩
  ·exact⟨_,h4⟩⟩
theorem law13alive_ok {W0:PW} {M:Nat→Prop} :
  PCallsM Go.Proofs.Tryz.prog 13 [] W0 M fun v W'=>v = .bool true∧True:=by
 apply calllaw13_alive
 intro s1 W2 hE2 hO1 hf1 s3 W4 hE4 hO3 hf3 s5 W6 hE6 hO5 hf5
 have ht:=gTx (((hO1.ext hE4).ext hE6).row) (hO3.ext hE6).row hO5.row
 have hnn:NewFrom W6.w.heap.size W6:=Nat.le_refl _
 refine matParse_call hnn ht (by decide) (fun i j=>Nat.le_trans (txt_le g_le i j) (by omega)) fun s9 e W8 hE8 ⟨h1,h2⟩=>⟨s9,e,rfl,?_⟩
 have he:e=0:=by
  apply Decidable.byContradiction
  intro hne
  refine h2 hne ⟨g_good.1,fun i j hi hj=>?_⟩
  have hi2:i<2:=hi
  rcases(show i=0∨i=1 by omega) with rfl | rfl
  ·have hj2:j<2:=hj
   rcases(show j=0∨j=1 by omega) with rfl | rfl
   ·show(parseQ g1).isSome=true;rw[parse_g1];rfl
   ·show(parseQ gh).isSome=true;rw[parse_gh];rfl
  ·have hj2:j<2:=hj
   rcases(show j=0∨j=1 by omega) with rfl | rfl
   ·show(parseQ gh).isSome=true;rw[parse_gh];rfl
   ·show(parseQ g0).isSome=true;rw[parse_g0];rfl
 subst he
 have hm:IsMat 317 51 100 W8 s9 2 (fun _=>tw gT 0) gM:=(h1 rfl).2.mat
 have hm:IsMat 317 51 100 W8 s9 2 (tw gT) gM:=by
  obtain⟨ss,k1,k2,k3⟩:=hm
  refine⟨ss,k1,k2,fun i hi=>?_⟩
  have:=k3 i hi
  rcases(show i=0∨i=1 by omega) with rfl | rfl
  ·exact this
  ·exact this
 refine polyVar_call fun s13 W12 hE12 h13=>⟨s13,rfl,?_⟩
 refine ratOf_call (z:=1) (by unfold I64;omega) fun s16 b17 s18 W15 hE15 h15=>⟨s16,b17,s18,rfl,?_⟩
 refine polyConst_call h15 (Sz.one (show 1≤1 by omega)) (by omega) fun s21 W20 hE20 h21=>⟨s21,rfl,fun s22 W23 hE23 hO22 _=>?_⟩
 rw[g_one] at h21
 rw[g_var] at h13
 have hps:Ps W23 s22 gPs:=⟨_,⟨_,hO22.row⟩,⟨s13,rfl,h13.ext (hE15.trans (hE20.trans hE23))⟩,⟨s21,rfl,h21.ext hE23⟩,trivial⟩
 refine gramForm_call hps (hm.ext (hE12.trans (hE15.trans (hE20.trans hE23)))) g_sys (by omega) (fun i j=>(gSz i j).mono (by omega)) fun s26 W25 hE25 h26=>⟨s26,_,rfl,?_⟩
 rw[g_res] at h26⊢
 have h26:IsPoly 317 188 W25 s26 gP:=h26
 refine⟨fun _=>⟨fun _=>?_,fun e=>(by cases e)⟩,fun e=>absurd rfl e⟩
 have hs1: ∀t∈gP,Sz 1 t.2:=fun t ht=>by
  simp only[gP,List.mem_cons,List.not_mem_nil,or_false] at ht
  rcases ht with rfl | rfl<;>exact Sz.one (Nat.le_refl 1)
 refine polyPlain_call h26 hs1 (by omega) (by simp[gP]) fun s30 W29 hE29 h30=>⟨s30,rfl,fun s31 W32 hE32 hO31 _=>?_⟩
 rw[g_txt] at h30
 have h31:IsAPoly W32 s31 [(⟨1,0,0⟩,g1),(⟨2,0,0⟩,g1)]:=⟨_,⟨_,hO31.row⟩,⟨(by decide:(⟨1,0,0⟩:Mon).ok),rfl⟩,⟨(by decide:(⟨2,0,0⟩:Mon).ok),rfl⟩,trivial⟩
 exact sameTerms_call (h30.ext hE32) h31 (by simp) fun W34 hE34 _=>⟨true,rfl,fun W36 _=>⟨rfl,trivial⟩⟩
theorem law13alive_call {W0 W:PW} {M:Nat→Prop} {K:Value→PW→Prop} (kont: ∀(W':PW),Ext W W'→(True)→K (.bool true) W'):
  callN Go.Proofs.Tryz.prog W0 M 13 [] W K:=
 callN_of (fun W' hE=>law13alive_ok (M:=fun _=>False) ) (fun W' v W'' hE hE' hP=>by
  obtain⟨rfl,h⟩:=hP
  exact kont W'' (hE.trans hE') h)
theorem pmap_ok {p:List Tm} (h:POk p) (r:Rat):POk (pmap p r):=fun t ht=>by
 obtain⟨u,hu,rfl⟩:=List.mem_map.1 ht
 exact h u hu
theorem pairs_ok2 {p q:List Tm} (h:MulOK p q):POk (pnorm (ppairs p q)):=POk.norm fun t ht=>by
 obtain⟨a,ha,hm⟩:=List.mem_flatMap.1 ht
 obtain⟨b,hb,rfl⟩:=List.mem_map.1 hm
 exact h a ha b hb
theorem formK_ok {ps:List (List Tm)} {m:Nat→Nat→Rat} (hp:SysOK ps) (hz: ∀i j,Sz 4001 (m i j)) {i:Nat} (hi:i<ps.length) {a0:List Tm} {t:Nat} (h0:Bd (cmb t) a0∧PGood a0∧POk a0): ∀{k:Nat} {a:List Tm} (_:k≤ps.length) (_:formK (qat ps) m i (some a0) k=some a),Bd (cmb (t+k)) a∧PGood a∧POk a
 | 0,a,_,h=>by
  simp only[formK,Option.some.injEq] at h
  subst h
  exact h0
 | k+1,a,hk,h=>by
  rw[formK] at h
  unfold stepA at h
  split at h
  ·cases h
  ·rename_i a' ha'
   split at h
   ·rename_i hM
    simp only[Option.some.injEq] at h
    subst h
    have ih:=formK_ok hp hz hi h0 (by omega) ha'
    have m1:=hp.bd _ (List.getElem_mem hi)
    have m2:=hp.bd _ (List.getElem_mem (show k<ps.length by omega))
    rw[qat_at hi,qat_at (show k<ps.length by omega)] at hM⊢
    have hzb:Bd (56029+56029+4001) (pmap (pnorm (ppairs ps[i] ps[k])) (m i k)):=Bd.pmap ((m1.1.pairs m2.1).norm) (hz i k)
    refine⟨(ih.1.append hzb.norm).norm.mono ?_,pnorm_good _,(ih.2.2.append (pmap_ok (pairs_ok2 hM) _).norm).norm⟩
    rw[show t+(k+1)=(t+k)+1 by omega,cmb_succ]
    omega
   ·cases h
theorem formI_ok {ps:List (List Tm)} {m:Nat→Nat→Rat} (hp:SysOK ps) (hz: ∀i j,Sz 4001 (m i j)): ∀{i:Nat} {a:List Tm} (_:i≤ps.length) (_:formI (qat ps) m ps.length i=some a),Bd (cmb (i*ps.length)) a∧PGood a∧POk a
 | 0,a,_,h=>by
  simp only[formI,Option.some.injEq] at h
  subst h
  exact⟨⟨1,0,trivial,by decide,by rw[nl_one];simp[cmb],by rw[nl_zero];exact Nat.zero_le _⟩,PGood.nil,fun t ht=>by simp at ht⟩
 | i+1,a,hi,h=>by
  rw[formI] at h
  cases hb:formI (qat ps) m ps.length i with
  | none=>
   rw[hb,formK_none (k:=0) rfl _ (Nat.zero_le _)] at h
   cases h
  | some a0=>
   rw[hb] at h
   have:=formK_ok hp hz (by omega) (formI_ok hp hz (by omega) hb) (Nat.le_refl _) h
   rw[Nat.add_mul,Nat.one_mul]
   exact this
end Go.Proofs.YthpmkcidkcmlgaaGreat

/- poly.Compose, cinctureref1.Compose. -/
set_option maxRecDepth 100000
set_option linter.unusedVariables false
set_option linter.unusedSimpArgs false
namespace Go.Proofs.YthpmkcidkcmlgaaGreat
open Go Go.SX
def cst (r:Rat):List Tm:=pnorm [(⟨0,0,0⟩,r)]
end Go.Proofs.YthpmkcidkcmlgaaGreat

/- The form of a polynomial's matrix is the polynomial: plain law. -/
set_option maxRecDepth 100000
set_option linter.unusedVariables false
set_option linter.unusedSimpArgs false
namespace Go.Proofs.YthpmkcidkcmlgaaGreat
open Go Go.SX
theorem tsum_lin (G:Mon→Rat) (p:List Tm):tsum (fun t=>t.2*G t.1) p=lin G p:=by
 have key: ∀(p:List Tm) (a:Rat),p.foldl (fun a t=>a+t.2*G t.1) a=a+lin G p:=by
  intro p
  induction p with
  | nil=>intro a;simp[lin,Rat.add_zero]
  | cons t r ih=>
   intro a
   rw[List.foldl_cons,ih,lin,Rat.add_assoc]
 rw[tsum,key,Rat.zero_add]
theorem formK_lin {q:Nat→List Tm} (m:Nat→Nat→Rat) {i:Nat} {a0:List Tm} : ∀k,(∀t,t<k→MulOK (q i) (q t))→∃a,formK q m i (some a0) k=some a∧∀G,lin G a=lin G a0+lsum (fun t=>m i t*lin G (ppairs (q i) (q t))) k
 | 0,_=>⟨a0,rfl,fun G=>by simp only[lsum];rw[Rat.add_zero]⟩
 | k+1,h=>by
  obtain⟨a,e,hv⟩:=formK_lin (q:=q) m (i:=i) (a0:=a0) k fun t ht=>h t (by omega)
  refine⟨pnorm (a ++ pnorm (pmap (pnorm (ppairs (q i) (q k))) (m i k))),?_,fun G=>?_⟩
  ·rw[formK,e,stepA,if_pos (h k (by omega))]
  ·rw[lin_pnorm,lin_append,lin_pnorm,show ∀r,lin G (pmap (pnorm (ppairs (q i) (q k))) r)=r*lin G (pnorm (ppairs (q i) (q k))) from fun r=>lin_pmap G r _,lin_pnorm,hv,lsum,Rat.add_assoc]
theorem formI_lin {q:Nat→List Tm} (m:Nat→Nat→Rat) {n:Nat} : ∀j,(∀i t,i<j→t<n→MulOK (q i) (q t))→∃a,formI q m n j=some a∧∀G,lin G a=lsum (fun i=>lsum (fun t=>m i t*lin G (ppairs (q i) (q t))) n) j
 | 0,_=>⟨[],rfl,fun G=>rfl⟩
 | j+1,h=>by
  obtain⟨a,e,hv⟩:=formI_lin (q:=q) m (n:=n) j fun i t hi ht=>h i t (by omega) ht
  obtain⟨b,e2,hv2⟩:=formK_lin (q:=q) m (i:=j) (a0:=a) n fun t ht=>h j t (by omega) ht
  exact⟨b,by rw[formI,e,e2],fun G=>by rw[hv2,hv,lsum]⟩
def ze (n i:Nat):Mon:=if i<n then unitM i else⟨0,0,0⟩
def zs (n:Nat):List (List Tm):=((List.range n).map fun i:Nat=>varP (i:Int)) ++ [cst 1]
theorem zs_len (n:Nat):(zs n).length=n+1:=by simp[zs]
theorem cst_1:cst 1 = [(⟨0,0,0⟩,1)]:=by decide +kernel
theorem zs_at {n i:Nat} (h3:n≤3) (hi:i≤n):qat (zs n) i = [(ze n i,1)]:=by
 unfold qat zs ze
 rw[cst_1]
 rcases(by omega:n=0∨n=1∨n=2∨n=3) with rfl | rfl | rfl | rfl<;>rcases(by omega:i=0∨i=1∨i=2∨i=3) with rfl | rfl | rfl | rfl<;>first | (exfalso;omega) | rfl
theorem ze_place: ∀n∈[1,2,3],∀m∈mons,varsM m≤((n:Nat):Int)→(ze n (pa m n)).add (ze n (pb m n))=m:=by decide
theorem ze_ok (n i k:Nat):((ze n i).add (ze n k)).ok:=by
 unfold ze unitM
 (repeat' split)<;>decide
theorem zs_sys {n:Nat} (h3:n≤3):SysOK (zs n):=⟨fun q hq=>by
 obtain⟨i,hi,rfl⟩:=List.getElem_of_mem hq
 rw[←qat_at hi,zs_at h3 (by rw[zs_len] at hi;omega)]
 exact⟨g_bd _,by simp⟩,by rw[zs_len];omega⟩
theorem form_gmat {n:Nat} {p:List Tm} (h1:1≤n) (h3:n≤3) (hG:PGood p) (hok:POk p) (hd: ∀t∈p,t.1.deg≤2) (hv: ∀t∈p,varsM t.1≤(n:Int)) (hz: ∀i j,Sz 4001 (gmat n p i j)):formP (zs n) (n+1) (fun _=>n+1) (gmat n p)=some p:=by
 have hl:=zs_len n
 have hF:FormOK (zs n) (n+1) (fun _=>n+1):=⟨⟨fun i _=>rfl,by omega,by omega,by dsimp only;omega,by dsimp only;omega⟩,rfl,hl⟩
 rw[formP_good hF]
 have hM: ∀i t,i<(zs n).length→t<(zs n).length→MulOK (qat (zs n) i) (qat (zs n) t):=fun i t hi ht a ha b hb=>by
  rw[zs_at h3 (by omega)] at ha hb
  rw[List.mem_singleton.1 ha,List.mem_singleton.1 hb]
  exact ze_ok n i t
 obtain⟨a,ea,hv2⟩:=formI_lin (q:=qat (zs n)) (gmat n p) (n:=(zs n).length) (zs n).length hM
 have hg:=formI_ok (zs_sys h3) hz (Nat.le_refl _) ea
 rw[ea,hg.2.1.uniq hG fun m=>?_]
 rw[ptot_lin,ptot_lin,hv2,←tsum_lin,←gmatH h1 h3 hG hok hd hv (H:=fun i k=>(fun n=>if n=m then(1:Rat) else 0) ((ze n i).add (ze n k))) (V:=fun t=>t.2*(fun n=>if n=m then(1:Rat) else 0) t.1) (fun i k=>by rw[Mon.add_comm]) fun t ht=>by
  have hn:n∈[1,2,3]:=by simp;omega
  rw[ze_place n hn t.1 (mem_mons (hok _ ht) (hd _ ht)) (hv _ ht)],hl]
 unfold quadH
 refine lsum_congr fun i hi=>lsum_congr fun k hk=>?_
 rw[zs_at h3 (by omega),zs_at h3 (by omega)]
 show gmat n p i k*lin _ [((ze n i).add (ze n k),1*1)]=_
 simp only[lin]
 grind
end Go.Proofs.YthpmkcidkcmlgaaGreat

/- cinctureref1: MonoVars, PolyDegree, PolyVars, Top. -/
set_option maxRecDepth 100000
set_option linter.unusedVariables false
set_option linter.unusedSimpArgs false
namespace Go.Proofs.YthpmkcidkcmlgaaGreat
open Go Go.SX
def mvI (m:Mon) (L:List PL):Prop:=match L with
 | [.val (.int .i64 a),.val (.int .i64 i)]=>∃k:Nat,i=(k:Int)∧k≤3∧a=(if 2<k∧0<m.z then 3 else if 1<k∧0<m.y then 2 else if 0<k∧0<m.x then 1 else 0)
 | _=>False
theorem refMonoVars_ok {W0:PW} {M:Nat→Prop} {m:Mon} (hm:m.ok):
  PCallsM Go.Proofs.Tryz.prog 167 [.agg ⟨[.int .u8 m.x,.int .u8 m.y,.int .u8 m.z]⟩] W0 M fun v W'=>v = .int .i64 (varsM m)∧True:=by
 apply callref1_MonoVars
 refine⟨fun L _=>mvI m L,fun L _=>match L with | [_,.val (.int .i64 i)]=>3-i.toNat | _=>0,⟨0,rfl,by omega,rfl⟩,?_⟩
 rintro i3 i4 W5 ⟨k,rfl,hk,rfl⟩
 refine⟨fun hlt=>?_,fun hge W7 _=>⟨?_,trivial⟩⟩
 ·have hk3:k<3:=by omega
  have hmu:3-Int.toNat ((k:Int)+1)<3-Int.toNat (k:Int):=by omega
  refine⟨⟨by omega,by omega⟩,_,boxAt_mon m hk3 _ _ _ rfl rfl rfl,fun hp=>⟨by unfold I64;omega,by unfold I64;omega,⟨k+1,by push_cast;rfl,by omega,?_⟩,hmu⟩,fun hp=>⟨by unfold I64;omega,⟨k+1,by push_cast;rfl,by omega,?_⟩,hmu⟩⟩
  all_goals
   rcases(by omega:k=0∨k=1∨k=2) with rfl | rfl | rfl<;>simp[eget] at hp⊢<;>(try simp[hp])<;>(repeat' split)<;>first | rfl | omega
 ·have:k=3:=by omega
  subst this
  congr 1
  unfold varsM
  (repeat' split)<;>first | rfl | omega
theorem refMonoVars_call {W0 W:PW} {M:Nat→Prop} {m:Mon} {K:Value→PW→Prop} (hm:m.ok) (kont: ∀(W':PW),Ext W W'→(True)→K (.int .i64 (varsM m)) W'):
  callN Go.Proofs.Tryz.prog W0 M 167 [.agg ⟨[.int .u8 m.x,.int .u8 m.y,.int .u8 m.z]⟩] W K:=
 callN_of (fun W' hE=>refMonoVars_ok (M:=fun _=>False) hm) (fun W' v W'' hE hE' hP=>by
  obtain⟨rfl,h⟩:=hP
  exact kont W'' (hE.trans hE') h)
def rdI (w:Mon→Int) (n:Int) (W0:PW) (p:List Tm) (L:List PL) (W:PW):Prop:=match L with
 | [.val (.int .i64 a),.val (.int .i64 k)]=>∃j:Nat,k=(j:Int)∧j≤p.length∧Ext W0 W∧a=maxf w n (p.take j)
 | _=>False
theorem refPolyDegree_ok {W0:PW} {M:Nat→Prop} {s:Sl} {p:List Tm} (h:IsRPoly 317 195 W0 s p) (hl:p.length≤1099511627776):
  PCallsM Go.Proofs.Tryz.prog 67 [s.v] W0 M fun v W'=>v = .int .i64 (maxf Mon.deg (-1) p)∧True:=by
 apply callref1_PolyDegree
 have hn:=h.n
 refine⟨rdI Mon.deg (-1) W0 p,topM p,⟨0,rfl,by omega,Ext.refl _,rfl⟩,?_⟩
 rintro i3 i4 W5 ⟨j,rfl,hj,hE,rfl⟩
 refine⟨fun hlt=>?_,fun hge W13 _=>⟨?_,trivial⟩⟩
 ·have hjl:j<p.length:=by omega
  have hP:=h.ext hE
  obtain⟨k0,c1,d1,c2,_,e1,_,hr⟩:=hP.at (List.getElem?_eq_getElem hjl)
  have hmu:p.length-Int.toNat ((j:Int)+1)<p.length-Int.toNat (j:Int):=by omega
  exact⟨hP.inB (by omega) (by omega),_,_,_,e1,refDegree_call k0 fun W13 hE13 _=>⟨_,rfl,by unfold I64;omega,⟨j+1,by push_cast;rfl,by omega,hE.trans hE13,by rw[take_snocR hjl,maxf_snoc]⟩,hmu⟩⟩
 ·have:j=p.length:=by omega
  subst this
  rw[List.take_length]
theorem refPolyDegree_call {W0 W:PW} {M:Nat→Prop} {s:Sl} {p:List Tm} {K:Value→PW→Prop} (h:IsRPoly 317 195 W s p) (hl:p.length≤1099511627776) (kont: ∀(W':PW),Ext W W'→(True)→K (.int .i64 (maxf Mon.deg (-1) p)) W'):
  callN Go.Proofs.Tryz.prog W0 M 67 [s.v] W K:=
 callN_of (fun W' hE=>refPolyDegree_ok (M:=fun _=>False) (h.ext hE) hl) (fun W' v W'' hE hE' hP=>by
  obtain⟨rfl,h⟩:=hP
  exact kont W'' (hE.trans hE') h)
theorem refPolyVars_ok {W0:PW} {M:Nat→Prop} {s:Sl} {p:List Tm} (h:IsRPoly 317 195 W0 s p) (hl:p.length≤1099511627776):
  PCallsM Go.Proofs.Tryz.prog 88 [s.v] W0 M fun v W'=>v = .int .i64 (maxf varsM 0 p)∧True:=by
 apply callref1_PolyVars
 have hn:=h.n
 refine⟨rdI varsM 0 W0 p,topM p,⟨0,rfl,by omega,Ext.refl _,rfl⟩,?_⟩
 rintro i3 i4 W5 ⟨j,rfl,hj,hE,rfl⟩
 refine⟨fun hlt=>?_,fun hge W13 _=>⟨?_,trivial⟩⟩
 ·have hjl:j<p.length:=by omega
  have hP:=h.ext hE
  obtain⟨k0,c1,d1,c2,_,e1,_,hr⟩:=hP.at (List.getElem?_eq_getElem hjl)
  have hmu:p.length-Int.toNat ((j:Int)+1)<p.length-Int.toNat (j:Int):=by omega
  exact⟨hP.inB (by omega) (by omega),_,_,_,e1,refMonoVars_call k0 fun W13 hE13 _=>⟨_,rfl,by unfold I64;omega,⟨j+1,by push_cast;rfl,by omega,hE.trans hE13,by rw[take_snocR hjl,maxf_snoc]⟩,hmu⟩⟩
 ·have:j=p.length:=by omega
  subst this
  rw[List.take_length]
theorem refPolyVars_call {W0 W:PW} {M:Nat→Prop} {s:Sl} {p:List Tm} {K:Value→PW→Prop} (h:IsRPoly 317 195 W s p) (hl:p.length≤1099511627776) (kont: ∀(W':PW),Ext W W'→(True)→K (.int .i64 (maxf varsM 0 p)) W'):
  callN Go.Proofs.Tryz.prog W0 M 88 [s.v] W K:=
 callN_of (fun W' hE=>refPolyVars_ok (M:=fun _=>False) (h.ext hE) hl) (fun W' v W'' hE hE' hP=>by
  obtain⟨rfl,h⟩:=hP
  exact kont W'' (hE.trans hE') h)
end Go.Proofs.YthpmkcidkcmlgaaGreat
