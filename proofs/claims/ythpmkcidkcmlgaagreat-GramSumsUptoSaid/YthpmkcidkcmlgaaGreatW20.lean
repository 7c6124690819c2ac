/- cincturelaw11.Raw. -/
import Derived.Test.YthpmkcidkcmlgaaGreatW19
import Derived.Test.YthpmkcidkcmlgaaGreatLib2
import Derived.Test.YthpmkcidkcmlgaaGreatW13
import Derived.Test.YthpmkcidkcmlgaaGreatW18
import Derived.Test.YthpmkcidkcmlgaaGreatW16
import Derived.Test.YthpmkcidkcmlgaaGreatLib4
set_option linter.unusedVariables false
set_option linter.unusedSimpArgs false
set_option maxRecDepth 100000
set_option linter.unusedVariables false
set_option linter.unusedSimpArgs false
namespace Go.Proofs.YthpmkcidkcmlgaaGreat
open Go Go.SX
def qw (Q:List (List Rat)) (i:Nat):Nat:=(Q[i]?.getD []).length
end Go.Proofs.YthpmkcidkcmlgaaGreat

/- The matrix of the document's program as a function. -/
set_option linter.unusedVariables false
namespace Go.Proofs.YthpmkcidkcmlgaaGreat
open Go Go.SX
end Go.Proofs.YthpmkcidkcmlgaaGreat

/- cincturelaw13.GramForms. -/
set_option maxRecDepth 100000
set_option linter.unusedVariables false
set_option linter.unusedSimpArgs false
namespace Go.Proofs.YthpmkcidkcmlgaaGreat
open Go Go.SX
def g0:ByteArray:=⟨⟨[48]⟩⟩
def g1:ByteArray:=⟨⟨[49]⟩⟩
def gh:ByteArray:=⟨⟨[49,47,50]⟩⟩
def gT:List (List ByteArray):=[[g1,gh],[gh,g0]]
theorem parse_g0:parseQ g0=some 0:=by decide +kernel
theorem parse_g1:parseQ g1=some 1:=by decide +kernel
theorem parse_gh:parseQ gh=some (1/2):=by decide +kernel
def gM (i j:Nat):Rat:=(parseQ (txt gT i j)).getD 0
def gM' (i j:Nat):Rat:=if i=0 then(if j=0 then 1 else 1/2) else if j=0 then 1/2 else 0
theorem gM_eq {i j:Nat} (hi:i<2) (hj:j<2):gM i j=gM' i j:=by
 rcases(show i=0∨i=1 by omega) with rfl | rfl<;>rcases(show j=0∨j=1 by omega) with rfl | rfl
 ·show(parseQ g1).getD 0=1;rw[parse_g1];rfl
 ·show(parseQ gh).getD 0=1/2;rw[parse_gh];rfl
 ·show(parseQ gh).getD 0=1/2;rw[parse_gh];rfl
 ·show(parseQ g0).getD 0=0;rw[parse_g0];rfl
theorem formK_congr {q:Nat→List Tm} {m m':Nat→Nat→Rat} {i:Nat} {a:Option (List Tm)} : ∀{k:Nat} (_: ∀t,t<k→m i t=m' i t),formK q m i a k=formK q m' i a k
 | 0,_=>rfl
 | k+1,h=>by
  rw[formK,formK,formK_congr fun t ht=>h t (by omega)]
  unfold stepA
  rw[h k (by omega)]
theorem formI_congr {q:Nat→List Tm} {m m':Nat→Nat→Rat} {n:Nat} : ∀{i:Nat} (_: ∀t u,t<i→u<n→m t u=m' t u),formI q m n i=formI q m' n i
 | 0,_=>rfl
 | i+1,h=>by
  rw[formI,formI,formI_congr fun t u ht hu=>h t u (by omega) hu,formK_congr fun t ht=>h i t (by omega) ht]
def gPs:List (List Tm):=[[(⟨1,0,0⟩,1)],[(⟨0,0,0⟩,1)]]
def gP:List Tm:=[(⟨1,0,0⟩,1),(⟨2,0,0⟩,1)]
theorem g_form:formI (qat gPs) gM' 2 2=some gP:=by decide +kernel
theorem g_one:pnorm [((⟨0,0,0⟩:Mon),((1:Int):Rat))] = [(⟨0,0,0⟩,1)]:=by decide +kernel
theorem g_var:varP 0 = [(⟨1,0,0⟩,1)]:=rfl
theorem txt_le {T:List (List ByteArray)} {n:Nat} (h: ∀l∈T,∀t∈l,t.size≤n) (i j:Nat):(txt T i j).size≤n:=by
 unfold txt
 cases e:T[i]? with
 | none=>exact Nat.zero_le _
 | some l=>
  show(l[j]?.getD ⟨⟨[]⟩⟩).size≤_
  cases e2:l[j]? with
  | none=>exact Nat.zero_le _
  | some t=>exact h l (List.mem_of_getElem? e) t (List.mem_of_getElem? e2)
theorem g_le: ∀l∈gT,∀t∈l,t.size≤20:=by decide
theorem gSz (i j:Nat):Sz 3 (gM i j):=by
 unfold gM
 cases e:parseQ (txt gT i j) with
 | none=>exact Sz.zero (by omega)
 | some q=>exact(parseQ_sz e).2 (txt_le g_le i j)
theorem g_good:FormOK gPs 2 (tw gT):=by
 have h0:tw gT 0=2:=rfl
 have h1:tw gT 1=2:=rfl
 refine⟨⟨fun i hi=>?_,by omega,by omega,by omega,by omega⟩,h0,rfl⟩
 rcases(show i=0∨i=1 by omega) with rfl | rfl
 ·rfl
 ·rw[h0,h1]
theorem g_res:formP gPs 2 (tw gT) gM=some gP:=by
 rw[formP_good g_good,←g_form]
 exact formI_congr fun t u ht hu=>gM_eq ht hu
theorem g_bd (m:Mon):Bd 56029 [(m,(1:Rat))]:=(bd_one (Sz.one (Nat.le_refl 1))).mono (by decide)
theorem g_sys:SysOK gPs:=⟨fun q hq=>by
 simp only[gPs,List.mem_cons,List.not_mem_nil,or_false] at hq
 rcases hq with rfl | rfl
 ·exact⟨g_bd _,by simp⟩
 ·exact⟨g_bd _,by simp⟩,by decide⟩
theorem dec_g1:decQ 1=g1:=by
 have h:(1:Rat).den=1:=by decide
 have h2:(1:Rat).num=1:=by decide
 unfold decQ
 rw[if_pos h,h2]
 unfold decI decN
 rw[if_neg (by decide),if_neg (by decide),show Int.natAbs 1=1 from rfl,dec_pos (by decide),show 1/10=0 from rfl,dec_zero]
 decide
theorem g_txt:ptxt gP = [(⟨1,0,0⟩,g1),(⟨2,0,0⟩,g1)]:=by
 simp only[ptxt,gP,List.map_cons,List.map_nil,dec_g1]
theorem gTx {W:PW} {s1 s4 s7:Sl} (h1:Row W 9 1 s1 [[.string g1],[.string gh]]) (h4:Row W 9 1 s4 [[.string gh],[.string g0]]) (h7:Row W 179 1 s7 [[s1.v],[s4.v]]):IsTx W s7 gT:=
 ⟨[s1,s4],⟨_,h7⟩,rfl,fun i hi hi'=>by
  have hi2:i<2:=hi
  rcases(show i=0∨i=1 by omega) with rfl | rfl
  ·exact⟨_,h1⟩
  ·exact⟨_,h4⟩⟩
theorem law13alive_ok {W0:PW} {M:Nat→Prop} :
  PCallsM Go.Proofs.Tryz.prog 13 [] W0 M fun v W'=>v = .bool true∧True:=by
 apply calllaw13_alive
 intro s1 W2 hE2 hO1 hf1 s3 W4 hE4 hO3 hf3 s5 W6 hE6 hO5 hf5
 have ht:=gTx (((hO1.ext hE4).ext hE6).row) (hO3.ext hE6).row hO5.row
 have hnn:NewFrom W6.w.heap.size W6:=Nat.le_refl _
 refine matParse_call hnn ht (by decide) (fun i j=>Nat.le_trans (txt_le g_le i j) (by omega)) fun s9 e W8 hE8 ⟨h1,h2⟩=>⟨s9,e,rfl,?_⟩
 have he:e=0:=by
  apply Decidable.byContradiction
  intro hne
  refine h2 hne ⟨g_good.1,fun i j hi hj=>?_⟩
  have hi2:i<2:=hi
  rcases(show i=0∨i=1 by omega) with rfl | rfl
  ·have hj2:j<2:=hj
   rcases(show j=0∨j=1 by omega) with rfl | rfl
   ·show(parseQ g1).isSome=true;rw[parse_g1];rfl
   ·show(parseQ gh).isSome=true;rw[parse_gh];rfl
  ·have hj2:j<2:=hj
   rcases(show j=0∨j=1 by omega) with rfl | rfl
   ·show(parseQ gh).isSome=true;rw[parse_gh];rfl
   ·show(parseQ g0).isSome=true;rw[parse_g0];rfl
 subst he
 have hm:IsMat 317 51 100 W8 s9 2 (fun _=>tw gT 0) gM:=(h1 rfl).2.mat
 have hm:IsMat 317 51 100 W8 s9 2 (tw gT) gM:=by
  obtain⟨ss,k1,k2,k3⟩:=hm
  refine⟨ss,k1,k2,fun i hi=>?_⟩
  have:=k3 i hi
  rcases(show i=0∨i=1 by omega) with rfl | rfl
  ·exact this
  ·exact this
 refine polyVar_call fun s13 W12 hE12 h13=>⟨s13,rfl,?_⟩
 refine ratOf_call (z:=1) (by unfold I64;omega) fun s16 b17 s18 W15 hE15 h15=>⟨s16,b17,s18,rfl,?_⟩
 refine polyConst_call h15 (Sz.one (show 1≤1 by omega)) (by omega) fun s21 W20 hE20 h21=>⟨s21,rfl,fun s22 W23 hE23 hO22 _=>?_⟩
 rw[g_one] at h21
 rw[g_var] at h13
 have hps:Ps W23 s22 gPs:=⟨_,⟨_,hO22.row⟩,⟨s13,rfl,h13.ext (hE15.trans (hE20.trans hE23))⟩,⟨s21,rfl,h21.ext hE23⟩,trivial⟩
 refine gramForm_call hps (hm.ext (hE12.trans (hE15.trans (hE20.trans hE23)))) g_sys (by omega) (fun i j=>(gSz i j).mono (by omega)) fun s26 W25 hE25 h26=>⟨s26,_,rfl,?_⟩
 rw[g_res] at h26⊢
 have h26:IsPoly 317 188 W25 s26 gP:=h26
 refine⟨fun _=>⟨fun _=>?_,fun e=>(by cases e)⟩,fun e=>absurd rfl e⟩
 have hs1: ∀t∈gP,Sz 1 t.2:=fun t ht=>by
  simp only[gP,List.mem_cons,List.not_mem_nil,or_false] at ht
  rcases ht with rfl | rfl<;>exact Sz.one (Nat.le_refl 1)
 refine polyPlain_call h26 hs1 (by omega) (by simp[gP]) fun s30 W29 hE29 h30=>⟨s30,rfl,fun s31 W32 hE32 hO31 _=>?_⟩
 rw[g_txt] at h30
 have h31:IsAPoly W32 s31 [(⟨1,0,0⟩,g1),(⟨2,0,0⟩,g1)]:=⟨_,⟨_,hO31.row⟩,⟨(by decide:(⟨1,0,0⟩:Mon).ok),rfl⟩,⟨(by decide:(⟨2,0,0⟩:Mon).ok),rfl⟩,trivial⟩
 exact sameTerms_call (h30.ext hE32) h31 (by simp) fun W34 hE34 _=>⟨true,rfl,fun W36 _=>⟨rfl,trivial⟩⟩
theorem law13alive_call {W0 W:PW} {M:Nat→Prop} {K:Value→PW→Prop} (kont: ∀(W':PW),Ext W W'→(True)→K (.bool true) W'):
  callN Go.Proofs.Tryz.prog W0 M 13 [] W K:=
 callN_of (fun W' hE=>law13alive_ok (M:=fun _=>False) ) (fun W' v W'' hE hE' hP=>by
  obtain⟨rfl,h⟩:=hP
  exact kont W'' (hE.trans hE') h)
end Go.Proofs.YthpmkcidkcmlgaaGreat

/- cincturelaw13.GramSums. -/
set_option maxRecDepth 100000
set_option linter.unusedVariables false
set_option linter.unusedSimpArgs false
namespace Go.Proofs.YthpmkcidkcmlgaaGreat
open Go Go.SX
theorem sqOK_of {e:Int} {l:List SqP} (h: ∀x∈l,SqGood e x) (hl:l.length≤6) (hok: ∀x∈l,POk x.q):SqOK 60000 4000 l where
 bd s hs:=let⟨_,L,op⟩:=h s hs;⟨op.bd.mono (by omega),by have:=op.len;omega,op.1.good,hok s hs⟩
 ws s hs:=(h s hs).1
 len:=hl
 K1:=by omega
 w1:=by omega
theorem sqs_ok {tu tt:TypeId} {W:PW} {s:Sl} {l:List SqP} (h:SX.IsSqs tu tt W s l): ∀x∈l,POk x.q:=fun x hx=>by
 obtain⟨xs,_,ha⟩:=h
 obtain⟨v,_,⟨_,_,_,_,_,_,hp⟩⟩:=all2_mem ha hx
 exact hp.ok
theorem gramSums_ok {W0:PW} {M:Nat→Prop} {s t:Sl} {L:List SqT} {B:List (ByteArray×ByteArray)} (h1:Go.Proofs.YthpmkcidkcmlgaaGreat.IsSqs W0 s L) (h2:IsPrs W0 t B) (l1:L.length≤1099511627776) (za: ∀t∈L,t.1.size≤1099511627776) (zb: ∀t∈L,t.2.2.length≤1099511627776) (zc: ∀t∈L,∀u∈t.2.2,u.2.size≤1099511627776) (l2:B.length≤1099511627776) (z2: ∀t∈B,t.1.size≤1099511627776∧t.2.size≤1099511627776):
  PCallsM Go.Proofs.Tryz.prog 4 [s.v,t.v] W0 M fun v W'=>v = .bool true∧True:=by
 apply calllaw13_GramSums
 refine law13alive_call fun W2 hE2 _=>⟨true,rfl,fun e=>(by cases e),fun _=>?_⟩
 refine law13Squares_call (IsSqs.ext h1 hE2) l1 (fun t ht=>⟨za t ht,zb t ht,zc t ht⟩) fun s7 s8 l W6 hE6 ⟨a1,a2,al,ag⟩=>⟨s7,s8,rfl,?_⟩
 have hB:IsPrs W6 t B:=let⟨ty,h⟩:=h2;⟨ty,h.ext (hE2.trans hE6)⟩
 refine law6Raw_call hB l2 z2 fun s11 s12 bs W10 hE10 ⟨b1,b2,bl,bg⟩=>⟨s11,s12,rfl,?_⟩
 have hq:=sqOK_of ag al (sqs_ok a1)
 have hk: ∀x∈bs,IvS 4000 x:=fun x hx=>(bg x hx).1
 refine gramSum_call (SX.IsSqs.ext a1 hE10) b1 hq hk (by omega) fun s15 W14 hE14 h15=>⟨s15,_,rfl,?_⟩
 refine refSum_call (a2.ext (hE10.trans hE14)) (b2.ext hE14) hq hk (by omega) fun s19 W18 hE18 h19=>⟨s19,_,rfl,fun _=>?_,fun e=>absurd rfl e⟩
 have hsz:(∀t∈(sumP l bs).getD [],Sz 2000000 t.2)∧((sumP l bs).getD []).length≤1073741824:=by
  cases e:sumP l bs with
  | none=>exact⟨fun t ht=>(by cases ht),by simp⟩
  | some a=>
   have e2:(l.take l.length).foldl (sqStep bs) (some [])=some a:=by
    rw[List.take_length]
    unfold sumP at e
    split at e
    ·exact e
    ·cases e
   obtain⟨k1,k2,k3⟩:=sumS_b hq hk (Nat.le_refl _) e2
   have hm:=Nat.mul_le_mul_right (2*60000+4000+8019) al
   have k4:=k2.len k3
   exact⟨fun t ht=>(k1.sz t ht).mono (by omega),by simp only[Option.getD_some];omega⟩
 exact law8Is_call (h15.ext hE18) h19 hsz.1 (by omega) hsz.2 fun W22 hE22 _=>⟨true,rfl,fun W24 _=>⟨rfl,trivial⟩⟩
end Go.Proofs.YthpmkcidkcmlgaaGreat

/- cincturelaw13.GramSums answers true for every input whose bulk is at most 1048576 (the second form), and its arguments read behind the call as they did ahead of it. -/
set_option maxRecDepth 100000
set_option linter.unusedVariables false
set_option linter.unusedSimpArgs false
namespace Go.Proofs.YthpmkcidkcmlgaaGreat
open Go Go.SX Go.ChangeShapes Go.WideShapes Go.ChangeAt Go.RowKit Go.Deep
theorem contract (H:Type) (enc:TypeId×Value→H) (W:World) (base:Nat) (args:Array Value) (ds gs:List (DataW H)) (before:List MemPlace)
  (hval: ∀(j:Nat) t v,Go.Proofs.Tryz.f4.params[j]?=some t→args[j]?=some v→Value.okWide Go.Proofs.Tryz.prog W .any base t v)
  (hW:DataW.Whole enc Go.Proofs.Tryz.prog Go.Proofs.Tryz.f4.params.toList Rows.gramSumsSpec.vars false W args.toList ds gs before) (hk:Rows.uptoSmall H (ds ++ gs)=true):
  Calls Go.Proofs.Tryz.prog 4 args W fun e W'=>∃v,e = .returned v∧Rows.gramSumsSpec.post enc Go.Proofs.Tryz.prog Go.Proofs.Tryz.f4 false true false false W args v W':=by
 have hW':=hW
 obtain⟨p,q,hA0,hV,rfl,hfz,hnd⟩:=hW
 have hA:DataW.TrodAll enc Go.Proofs.Tryz.prog W 0 (fun _=>true) true Go.Proofs.Tryz.f4.params.toList args.toList ds p:=hA0
 rw[Go.Proofs.Tryz.params4] at hA hval
 obtain⟨v0,vs0,d0,ds0,p0,q0,hargs,rfl,rfl,h0,r0⟩:=trodAll_cons hA
 obtain⟨v1,vs1,d1,ds1,p1,q1,rfl,rfl,rfl,h1,r1⟩:=trodAll_cons r0
 obtain⟨rfl,rfl,rfl⟩:=trodAll_nil r1
 obtain rfl:args = #[v0,v1]:=by cases args;simp_all
 obtain⟨rfl,rfl⟩:=trodVars_none hV
 obtain⟨a0,n0,c0,rfl⟩:=okWide_slice Go.Proofs.Tryz.underlying57 (hval 0 57 v0 rfl rfl)
 obtain⟨a1,n1,c1,rfl⟩:=okWide_slice Go.Proofs.Tryz.underlying58 (hval 1 58 v1 rfl rfl)
 clear hA0
 simp only[List.append_nil] at hW' hk
 have hlt: ∀x∈p0 ++ p1,x.block<W.heap.size:=fun x hx=>by simpa using hW'.lt x (by simpa using hx)
 have hbulk:Rows.uptoBulkAll [d0,d1]≤1048576:=of_decide_eq_true hk
 simp only[Rows.uptoBulkAll] at hbulk
 have h0k:=h0
 obtain⟨fuel0,hf0⟩:=h0
 have hf0':DataW.trod enc Go.Proofs.Tryz.prog W 0 (fun _=>true) true fuel0 57 [.slice a0 n0 c0]=some (d0,p0):=by simpa[Value.cells] using hf0
 obtain⟨s0,L0,hs0,hL0,hb0,hc0⟩:=open_squares hf0'
 have h1k:=h1
 obtain⟨fuel1,hf1⟩:=h1
 have hf1':DataW.trod enc Go.Proofs.Tryz.prog W 0 (fun _=>true) true fuel1 58 [.slice a1 n1 c1]=some (d1,p1):=by simpa[Value.cells] using hf1
 obtain⟨s1,L1,hs1,hL1,hb1,hc1⟩:=open_pairs hf1'
 have hc:=gramSums_ok (M:=fun _=>False) hL0 hL1 (by omega) (fun t ht=>by have:=hc0 t ht;omega) (fun t ht=>by have:=hc0 t ht;omega) (fun t ht u hu=>by have:=(hc0 t ht).2.2 u hu;omega) (by omega) (fun t ht=>by have:=hc1 t ht;omega)
 have hcall:=hc.2 (fun b h=>h.elim)
 rw[hs0,hs1]
 refine hcall.mono fun e W' ⟨v,he,hkeep,hv,_⟩=>⟨v,he,?_⟩
 subst hv
 have hbel:=hkeep.below
 refine⟨[d0,d1],[],_,[],p0 ++ p1,[],(by rw[←hs0,←hs1];simpa using hW'),trodAll_mk1 (shut_bool Go.Proofs.Tryz.underlying4 _),(by rw[←hs0,←hs1];exact trodAll_mk2 (Below.trod laidOut (by kernel_rfl) (of_decide_eq_true (by kernel_rfl)) h0k hbel fun x hx=>hlt x (by simp[hx])) (Below.trod laidOut (by kernel_rfl) (of_decide_eq_true (by kernel_rfl)) h1k hbel fun x hx=>hlt x (by simp[hx]))),rfl,hbel.frame _,fun h=>by cases h⟩
theorem lifted (os:Os) (started:os.Started) (H:Type) (enc:TypeId×Value→H) (F:Stop.Interp):
  ReturnsInHanded {} Go.Proofs.Tryz.checked os 4 .any ((Rows.OpenSpec.upto Rows.gramSumsSpec).pre6 enc Go.Proofs.Tryz.prog Go.Proofs.Tryz.f4 Rows.gramSumsUptoRow.domain false) (((Rows.OpenSpec.upto Rows.gramSumsSpec).at F).post enc Go.Proofs.Tryz.prog Go.Proofs.Tryz.f4 false true false false):=by
 refine returnsInHanded_of_cond (C:=Go.Proofs.Tryz.checked) (s:=Rows.OpenSpec.upto Rows.gramSumsSpec) (k:=Rows.uptoSmall) rfl ownKnob_none started (by kernel_rfl) Go.Proofs.Tryz.func4
  (OpenSpec.witness (enc:=enc) (C:=Go.Proofs.Tryz.checked) (s:=Rows.OpenSpec.upto Rows.gramSumsSpec) (k:=Rows.uptoSmall) rfl false ⟨#[],#[.slice none 0 0,.slice none 0 0],[]⟩ 8 (by kernel_rfl) (by kernel_rfl) (by kernel_rfl)
   (x:=([.nil,.nil],[],[])) (by kernel_rfl) rfl (by kernel_rfl)) ?_
 intro W base args ds gs before hval hW _ hk _
 exact contract H enc W base args ds gs before hval hW hk
theorem row_f0:facts0 Go.Proofs.Tryz.checked.prog 4 Go.Proofs.Tryz.f4 (Rows.OpenSpec.upto Rows.gramSumsSpec).bare Rows.gramSumsUptoRow=true:=by kernel_rfl
theorem row_f1:facts1 Go.Proofs.Tryz.checked.prog 4 Go.Proofs.Tryz.f4 (Rows.OpenSpec.upto Rows.gramSumsSpec).bare Rows.gramSumsUptoRow=true:=by kernel_rfl
theorem row_f2:facts2 Go.Proofs.Tryz.checked.prog 4 Go.Proofs.Tryz.f4 (Rows.OpenSpec.upto Rows.gramSumsSpec).bare Rows.gramSumsUptoRow=true:=by kernel_rfl
theorem row_f3:facts3 Go.Proofs.Tryz.checked.prog 4 Go.Proofs.Tryz.f4 (Rows.OpenSpec.upto Rows.gramSumsSpec).bare Rows.gramSumsUptoRow=true:=by kernel_rfl
theorem row_f4:facts4 Go.Proofs.Tryz.checked.prog 4 Go.Proofs.Tryz.f4 (Rows.OpenSpec.upto Rows.gramSumsSpec).bare Rows.gramSumsUptoRow=true:=by kernel_rfl
theorem gramSums_holds:Rows.GramSumsUptoSaid:=
 OpenClaim.holds_of_cond 4 Go.Proofs.Tryz.f4 rfl rfl rfl rfl rfl rfl rfl ⟨rfl,rfl,rfl,rfl,rfl⟩ rfl rfl rfl rfl rfl (by kernel_rfl) Go.Proofs.Tryz.func4 (joined_of row_f0 row_f1 row_f2 row_f3 row_f4)
  (of_decide_eq_true (by kernel_rfl)) (by unfold Func.isWrapper;first | (rw[if_pos (by decide +kernel)];kernel_rfl) | (rw[if_neg (by decide +kernel)];exact⟨rfl,rfl⟩))
  (fun os started H enc _ F=>lifted os started H enc F)
#print axioms gramSums_holds
end Go.Proofs.YthpmkcidkcmlgaaGreat
