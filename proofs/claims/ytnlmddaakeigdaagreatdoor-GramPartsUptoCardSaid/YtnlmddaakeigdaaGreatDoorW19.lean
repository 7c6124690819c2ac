/- Tables of texts: mat.Parse, cincturelaw14.even, alive. -/
import Derived.Test.YtnlmddaakeigdaaGreatDoorW18
import Derived.Test.YtnlmddaakeigdaaGreatDoorW10
import Derived.Test.YtnlmddaakeigdaaGreatDoorW8
import Derived.Test.YtnlmddaakeigdaaGreatDoorLib3
import Derived.Test.YtnlmddaakeigdaaGreatDoorLib2
import Derived.Test.YtnlmddaakeigdaaGreatDoorW13
import Derived.Test.YtnlmddaakeigdaaGreatDoorR10
set_option linter.unusedVariables false
set_option linter.unusedSimpArgs false
set_option maxRecDepth 100000
set_option linter.unusedVariables false
set_option linter.unusedSimpArgs false
namespace Go.Proofs.YtnlmddaakeigdaaGreatDoor
open Go Go.SX
def tw (T:List (List ByteArray)) (i:Nat):Nat:=(T[i]?.getD []).length
theorem tw_eq {T:List (List ByteArray)} {i:Nat} (h:i<T.length):tw T i=T[i].length:=by
 unfold tw
 rw[List.getElem?_eq_getElem h];rfl
def txt (T:List (List ByteArray)) (i j:Nat):ByteArray:=(T[i]?.getD [])[j]?.getD ⟨⟨[]⟩⟩
theorem txt_eq {T:List (List ByteArray)} {i j:Nat} (h:i<T.length) (hj:j<T[i].length):txt T i j=T[i][j]:=by
 unfold txt
 rw[List.getElem?_eq_getElem h]
 simp[hj]
theorem txEven_ok {W0:PW} {M:Nat→Prop} {s:Sl} {T:List (List ByteArray)} (h:IsTx W0 s T) (hr:T.length≤1099511627776):
  PCallsM Go.Proofs.Tryz.prog 111 [s.v] W0 M fun v W'=>∃(b:Bool),v = .bool b∧(b=true↔RightP T.length (tw T)):=by
 apply callmat_even_string
 have hn:=h.n
 refine⟨fun l W=>match l with | [.val (.int .i64 i)]=>Ext W0 W∧∃k:Nat,i=(k:Int)∧k≤T.length∧∀i,i<k→tw T i=tw T 0 | _=>False,fun l _=>match l with | [.val (.int .i64 i)]=>T.length-i.toNat | _=>0,⟨Ext.refl _,0,rfl,Nat.zero_le _,fun i h=>(by omega)⟩,?_⟩
 rintro i3 W4 ⟨hE4,k,rfl,hk,hck⟩
 have h4:=h.ext hE4
 refine⟨fun hlt=>?_,fun hge=>⟨fun h1=>⟨fun h12=>?_,fun h12=>fun W14 _=>⟨false,rfl,?_⟩⟩,fun h1=>fun W21 _=>⟨false,rfl,?_⟩⟩⟩
 ·obtain⟨x,e1,e2⟩:=h4.at (i:=k) (by omega)
  obtain⟨y,f1,f2⟩:=h4.at (i:=0) (by omega)
  have n1:=e2.nt.trans (tw_eq (by omega)).symm
  have n2:=f2.nt.trans (tw_eq (by omega)).symm
  refine⟨h4.inB (by omega) (by omega),x,e1,h4.inB (by omega) (by omega),y,f1,fun hne W7 _=>⟨false,rfl,?_⟩,fun heq=>⟨by unfold I64;omega,⟨hE4,k+1,by push_cast;rfl,by omega,fun i hi=>?_⟩,?_⟩⟩
  ·refine⟨fun h=>(by cases h),fun h=>?_⟩
   have:=h.1 k (by omega)
   omega
  ·by_cases e:i=k
   ·subst e;omega
   ·exact hck i (by omega)
  ·show T.length-Int.toNat ((k:Int)+1)<T.length-Int.toNat (k:Int)
   omega
 ·have hkr:k=T.length:=by omega
  obtain⟨y,f1,f2⟩:=h4.at (i:=0) (by omega)
  have n2:=f2.nt.trans (tw_eq (by omega)).symm
  have ib:=h4.inB (i:=0) (by omega) (by omega)
  refine⟨ib,y,f1,fun hy=>⟨ib,y,f1,fun W10 _=>⟨_,rfl,?_⟩⟩,fun hy W11 _=>⟨false,rfl,?_⟩⟩
  ·rw[decide_eq_true_iff]
   exact⟨fun h=>⟨fun i hi=>hck i (by omega),by omega,by omega,by omega,by omega⟩,fun h=>by have:=h.2.2.2.2;omega⟩
  ·refine⟨fun h=>(by cases h),fun h=>?_⟩
   have:=h.2.2.2.1
   omega
 ·refine⟨fun h=>(by cases h),fun h=>?_⟩
  have:=h.2.2.1
  omega
 ·refine⟨fun h=>(by cases h),fun h=>?_⟩
  have:=h.2.1
  omega
theorem txEven_call {W0 W:PW} {M:Nat→Prop} {s:Sl} {T:List (List ByteArray)} {K:Value→PW→Prop} (h:IsTx W s T) (hr:T.length≤1099511627776) (kont: ∀(b:Bool) (W':PW),Ext W W'→((b=true↔RightP T.length (tw T)))→K (.bool b) W'):
  callN Go.Proofs.Tryz.prog W0 M 111 [s.v] W K:=
 callN_of (fun W' hE=>txEven_ok (M:=fun _=>False) (h.ext hE) hr) (fun W' v W'' hE hE' hP=>by
  obtain⟨b,rfl,h⟩:=hP
  exact kont b W'' (hE.trans hE') h)
theorem matParse_ok {W0:PW} {M:Nat→Prop} {n0:Nat} {s:Sl} {T:List (List ByteArray)} (hn:NewFrom n0 W0) (h:IsTx W0 s T) (hr:T.length≤1099511627776) (ht: ∀i j,(txt T i j).size≤1099511627776):
  PCallsM Go.Proofs.Tryz.prog 54 [s.v] W0 M fun v W'=>∃(s':Sl),∃(e:Int),v = .tuple #[Sl.v s',.int .i64 e]∧(e=0→RightP T.length (tw T)∧OMat 268 56 65 (n0≤·) W' s' T.length (tw T 0) (fun i j=>(parseQ (txt T i j)).getD 0))∧(e≠0→¬(RightP T.length (tw T)∧∀i j,i<T.length→j<tw T i→(parseQ (txt T i j)).isSome=true)):=by
 apply callmat_Parse
 have hsn:=h.n
 refine txEven_call h hr fun b W2 hE2 hb=>⟨b,rfl,fun hf W4 _=>⟨⟨none,0,0⟩,1,rfl,fun h=>(by cases h),fun _ h=>?_⟩,fun ht'=>?_⟩
 ·rw[hb.2 h.1] at hf;cases hf
 have hbt:b=true:=by simpa using ht'
 have hR:=hb.1 hbt
 have hR':=hR
 obtain⟨hc,hr1,hr12,hc1,hc12⟩:=hR'
 have h2:=h.ext hE2
 obtain⟨y,f1,f2⟩:=h2.at (i:=0) (by omega)
 have ny:=f2.nt.trans (tw_eq (by omega)).symm
 refine⟨h2.inB (by omega) (by omega),y,f1,?_⟩
 rw[ny,hsn]
 obtain⟨n1,hn1⟩: ∃n1,W2.w.heap.size=n1:=⟨_,rfl⟩
 have hle:W2.w.heap.size≤n1:=by omega
 have hn1':NewFrom n1 W2:=by unfold NewFrom;omega
 have h01:W0.w.heap.size≤n1:=Nat.le_trans hE2.size hle
 refine matNone_call hn1' (by omega) (by omega) fun s8 W7 hE7 h8=>⟨s8,rfl,?_⟩
 refine⟨fun l W=>match l with | [.val (.int .i64 i)]=>∃k:Nat,i=(k:Int)∧k≤T.length∧ExtN n1 W2 W∧OMat 268 56 65 (n1≤·) W s8 T.length (tw T 0) (fun a b=>if a<k then(parseQ (txt T a b)).getD 0 else 0) | _=>False,fun l _=>match l with | [.val (.int .i64 i)]=>T.length-i.toNat | _=>0,⟨0,rfl,Nat.zero_le _,hE7.toM _,h8.congr fun i j _ _=>by simp⟩,?_⟩
 rintro i11 W12 ⟨k,rfl,hk,hE12,h12⟩
 refine⟨fun hlt=>?_,fun hge W28 hE28=>⟨s8,0,rfl,fun _=>⟨hR,?_⟩,fun h=>absurd rfl h⟩⟩
 ·have hkr:k<T.length:=by omega
  obtain⟨x,e1,e2⟩:=h2.at (i:=k) hkr
  have nx:=e2.nt.trans (tw_eq hkr).symm
  have hck:=hc k hkr
  have hkt:=tw_eq hkr
  refine⟨(h2.new hE12 hle).inB (by omega) (by omega),x,e1.new hE12 hle,?_⟩
  refine⟨fun l W=>match l with | [.val (.int .i64 i)]=>∃l:Nat,i=(l:Int)∧l≤tw T 0∧ExtN n1 W2 W∧OMat 268 56 65 (n1≤·) W s8 T.length (tw T 0) (fun a b=>if a<k∨(a=k∧b<l) then(parseQ (txt T a b)).getD 0 else 0) | _=>False,fun l _=>match l with | [.val (.int .i64 i)]=>tw T 0-i.toNat | _=>0,⟨0,rfl,Nat.zero_le _,hE12,h12.congr fun i j _ _=>by simp⟩,?_⟩
  rintro i16 W17 ⟨l,rfl,hl,hE17,h17⟩
  refine⟨fun hlt2=>?_,fun hge2=>⟨by unfold I64;omega,⟨k+1,by push_cast;rfl,by omega,hE17,h17.congr fun a b ha hb=>?_⟩,?_⟩⟩
  ·have hlc:l<tw T 0:=by omega
   have e17:=e2.new hE17 hle
   have hlt3:l<T[k].length:=by omega
   have htx:=txt_eq hkr hlt3
   refine⟨e17.inBt (by omega) (by omega),_,e17.text hlt3,?_⟩
   rw[←htx]
   refine ratParse_call (ht k l) fun s21 b22 s23 W20 hE20 h21=>⟨s21,b22,s23,_,rfl,fun hne W25 _=>⟨⟨none,0,0⟩,_,rfl,fun h=>absurd h hne,fun _ hall=>?_⟩,fun heq=>?_⟩
   ·have:=hall.2 k l hkr (by omega)
    rw[er_ne hne] at this
    cases this
   ·have h20:=h17.ext hE20
    obtain⟨z,z1,z2⟩:=h20.mat.at (i:=k) hkr
    refine⟨h20.mat.inB (by omega) (by omega),z,z1,z2.inB (by omega) (by omega),?_⟩
    refine h20.store (j:=l) z1 hkr hlc h21 (by decide) (by decide) (fun g hg=>.inr (Nat.le_trans h01 hg)) fun W22 hp h22=>⟨by unfold I64;omega,⟨l+1,by push_cast;rfl,by omega,(hE17.trans (hE20.toM _)).trans (hp.extN fun g hg=>hg),h22.congr fun a b ha hb=>?_⟩,?_⟩
    ·unfold setM
     by_cases e:a=k∧b=l
     ·rw[if_pos e,if_pos (by omega),e.1,e.2]
     ·rw[if_neg e]
      dsimp only
      by_cases e':a<k∨(a=k∧b<l)
      ·rw[if_pos e',if_pos (by omega)]
      ·rw[if_neg e',if_neg (by omega)]
    ·show tw T 0-Int.toNat ((l:Int)+1)<tw T 0-Int.toNat (l:Int)
     omega
  ·by_cases e':a<k∨(a=k∧b<l)
   ·rw[if_pos e',if_pos (by omega)]
   ·rw[if_neg e',if_neg (by omega)]
  ·show T.length-Int.toNat ((k:Int)+1)<T.length-Int.toNat (k:Int)
   omega
 ·refine((h12.ext hE28).mono fun g hg=>Nat.le_trans (hn.ext hE2) (Nat.le_trans hle hg)).congr fun a b ha hb=>?_
  rw[if_pos (by omega)]
theorem matParse_call {W0 W:PW} {M:Nat→Prop} {n0:Nat} {s:Sl} {T:List (List ByteArray)} {K:Value→PW→Prop} (hn:NewFrom n0 W) (h:IsTx W s T) (hr:T.length≤1099511627776) (ht: ∀i j,(txt T i j).size≤1099511627776) (kont: ∀(s':Sl) (e:Int) (W':PW),Ext W W'→((e=0→RightP T.length (tw T)∧OMat 268 56 65 (n0≤·) W' s' T.length (tw T 0) (fun i j=>(parseQ (txt T i j)).getD 0))∧(e≠0→¬(RightP T.length (tw T)∧∀i j,i<T.length→j<tw T i→(parseQ (txt T i j)).isSome=true)))→K (.tuple #[Sl.v s',.int .i64 e]) W'):
  callN Go.Proofs.Tryz.prog W0 M 54 [s.v] W K:=
 callN_of (fun W' hE=>matParse_ok (M:=fun _=>False) (hn.ext hE) (h.ext hE) hr ht) (fun W' v W'' hE hE' hP=>by
  obtain⟨s',e,rfl,h⟩:=hP
  exact kont s' e W'' (hE.trans hE') h)
end Go.Proofs.YtnlmddaakeigdaaGreatDoor

/- cincturelaw11.Raw. -/
set_option maxRecDepth 100000
set_option linter.unusedVariables false
set_option linter.unusedSimpArgs false
namespace Go.Proofs.YtnlmddaakeigdaaGreatDoor
open Go Go.SX
def qw (Q:List (List Rat)) (i:Nat):Nat:=(Q[i]?.getD []).length
end Go.Proofs.YtnlmddaakeigdaaGreatDoor

/- The matrix of the document's program as a function. -/
set_option linter.unusedVariables false
namespace Go.Proofs.YtnlmddaakeigdaaGreatDoor
open Go Go.SX
end Go.Proofs.YtnlmddaakeigdaaGreatDoor

/- cincturelaw13.GramForms. -/
set_option maxRecDepth 100000
set_option linter.unusedVariables false
set_option linter.unusedSimpArgs false
namespace Go.Proofs.YtnlmddaakeigdaaGreatDoor
open Go Go.SX
def g0:ByteArray:=⟨⟨[48]⟩⟩
def g1:ByteArray:=⟨⟨[49]⟩⟩
def gh:ByteArray:=⟨⟨[49,47,50]⟩⟩
def gT:List (List ByteArray):=[[g1,gh],[gh,g0]]
theorem parse_g0:parseQ g0=some 0:=by decide +kernel
theorem parse_g1:parseQ g1=some 1:=by decide +kernel
theorem parse_gh:parseQ gh=some (1/2):=by decide +kernel
def gM (i j:Nat):Rat:=(parseQ (txt gT i j)).getD 0
def gM' (i j:Nat):Rat:=if i=0 then(if j=0 then 1 else 1/2) else if j=0 then 1/2 else 0
theorem gM_eq {i j:Nat} (hi:i<2) (hj:j<2):gM i j=gM' i j:=by
 rcases(show i=0∨i=1 by omega) with rfl | rfl<;>rcases(show j=0∨j=1 by omega) with rfl | rfl
 ·show(parseQ g1).getD 0=1;rw[parse_g1];rfl
 ·show(parseQ gh).getD 0=1/2;rw[parse_gh];rfl
 ·show(parseQ gh).getD 0=1/2;rw[parse_gh];rfl
 ·show(parseQ g0).getD 0=0;rw[parse_g0];rfl
theorem formK_congr {q:Nat→List Tm} {m m':Nat→Nat→Rat} {i:Nat} {a:Option (List Tm)} : ∀{k:Nat} (_: ∀t,t<k→m i t=m' i t),formK q m i a k=formK q m' i a k
 | 0,_=>rfl
 | k+1,h=>by
  rw[formK,formK,formK_congr fun t ht=>h t (by omega)]
  unfold stepA
  rw[h k (by omega)]
theorem formI_congr {q:Nat→List Tm} {m m':Nat→Nat→Rat} {n:Nat} : ∀{i:Nat} (_: ∀t u,t<i→u<n→m t u=m' t u),formI q m n i=formI q m' n i
 | 0,_=>rfl
 | i+1,h=>by
  rw[formI,formI,formI_congr fun t u ht hu=>h t u (by omega) hu,formK_congr fun t ht=>h i t (by omega) ht]
def gPs:List (List Tm):=[[(⟨1,0,0⟩,1)],[(⟨0,0,0⟩,1)]]
def gP:List Tm:=[(⟨1,0,0⟩,1),(⟨2,0,0⟩,1)]
theorem g_form:formI (qat gPs) gM' 2 2=some gP:=by decide +kernel
theorem g_one:pnorm [((⟨0,0,0⟩:Mon),((1:Int):Rat))] = [(⟨0,0,0⟩,1)]:=by decide +kernel
theorem g_var:varP 0 = [(⟨1,0,0⟩,1)]:=rfl
theorem txt_le {T:List (List ByteArray)} {n:Nat} (h: ∀l∈T,∀t∈l,t.size≤n) (i j:Nat):(txt T i j).size≤n:=by
 unfold txt
 cases e:T[i]? with
 | none=>exact Nat.zero_le _
 | some l=>
  show(l[j]?.getD ⟨⟨[]⟩⟩).size≤_
  cases e2:l[j]? with
  | none=>exact Nat.zero_le _
  | some t=>exact h l (List.mem_of_getElem? e) t (List.mem_of_getElem? e2)
theorem g_le: ∀l∈gT,∀t∈l,t.size≤20:=by decide
theorem gSz (i j:Nat):Sz 3 (gM i j):=by
 unfold gM
 cases e:parseQ (txt gT i j) with
 | none=>exact Sz.zero (by omega)
 | some q=>exact(parseQ_sz e).2 (txt_le g_le i j)
theorem g_good:FormOK gPs 2 (tw gT):=by
 have h0:tw gT 0=2:=rfl
 have h1:tw gT 1=2:=rfl
 refine⟨⟨fun i hi=>?_,by omega,by omega,by omega,by omega⟩,h0,rfl⟩
 rcases(show i=0∨i=1 by omega) with rfl | rfl
 ·rfl
 ·rw[h0,h1]
theorem g_res:formP gPs 2 (tw gT) gM=some gP:=by
 rw[formP_good g_good,←g_form]
 exact formI_congr fun t u ht hu=>gM_eq ht hu
theorem g_bd (m:Mon):Bd 56029 [(m,(1:Rat))]:=(bd_one (Sz.one (Nat.le_refl 1))).mono (by decide)
theorem g_sys:SysOK gPs:=⟨fun q hq=>by
 simp only[gPs,List.mem_cons,List.not_mem_nil,or_false] at hq
 rcases hq with rfl | rfl
 ·exact⟨g_bd _,by simp⟩
 ·exact⟨g_bd _,by simp⟩,by decide⟩
theorem dec_g1:decQ 1=g1:=by
 have h:(1:Rat).den=1:=by decide
 have h2:(1:Rat).num=1:=by decide
 unfold decQ
 rw[if_pos h,h2]
 unfold decI decN
 rw[if_neg (by decide),if_neg (by decide),show Int.natAbs 1=1 from rfl,dec_pos (by decide),show 1/10=0 from rfl,dec_zero]
 decide
theorem g_txt:ptxt gP = [(⟨1,0,0⟩,g1),(⟨2,0,0⟩,g1)]:=by
 simp only[ptxt,gP,List.map_cons,List.map_nil,dec_g1]
theorem gTx {W:PW} {s1 s4 s7:Sl} (h1:Row W 9 1 s1 [[.string g1],[.string gh]]) (h4:Row W 9 1 s4 [[.string gh],[.string g0]]) (h7:Row W 130 1 s7 [[s1.v],[s4.v]]):IsTx W s7 gT:=
 ⟨[s1,s4],⟨_,h7⟩,rfl,fun i hi hi'=>by
  have hi2:i<2:=hi
  rcases(show i=0∨i=1 by omega) with rfl | rfl
  ·exact⟨_,h1⟩
  ·exact⟨_,h4⟩⟩
theorem law13alive_ok {W0:PW} {M:Nat→Prop} :
  PCallsM Go.Proofs.Tryz.prog 12 [] W0 M fun v W'=>v = .bool true∧True:=by
 apply calllaw13_alive
 intro s1 W2 hE2 hO1 hf1 s3 W4 hE4 hO3 hf3 s5 W6 hE6 hO5 hf5
 have ht:=gTx (((hO1.ext hE4).ext hE6).row) (hO3.ext hE6).row hO5.row
 have hnn:NewFrom W6.w.heap.size W6:=Nat.le_refl _
 refine matParse_call hnn ht (by decide) (fun i j=>Nat.le_trans (txt_le g_le i j) (by omega)) fun s9 e W8 hE8 ⟨h1,h2⟩=>⟨s9,e,rfl,?_⟩
 have he:e=0:=by
  apply Decidable.byContradiction
  intro hne
  refine h2 hne ⟨g_good.1,fun i j hi hj=>?_⟩
  have hi2:i<2:=hi
  rcases(show i=0∨i=1 by omega) with rfl | rfl
  ·have hj2:j<2:=hj
   rcases(show j=0∨j=1 by omega) with rfl | rfl
   ·show(parseQ g1).isSome=true;rw[parse_g1];rfl
   ·show(parseQ gh).isSome=true;rw[parse_gh];rfl
  ·have hj2:j<2:=hj
   rcases(show j=0∨j=1 by omega) with rfl | rfl
   ·show(parseQ gh).isSome=true;rw[parse_gh];rfl
   ·show(parseQ g0).isSome=true;rw[parse_g0];rfl
 subst he
 have hm:IsMat 268 56 65 W8 s9 2 (fun _=>tw gT 0) gM:=(h1 rfl).2.mat
 have hm:IsMat 268 56 65 W8 s9 2 (tw gT) gM:=by
  obtain⟨ss,k1,k2,k3⟩:=hm
  refine⟨ss,k1,k2,fun i hi=>?_⟩
  have:=k3 i hi
  rcases(show i=0∨i=1 by omega) with rfl | rfl
  ·exact this
  ·exact this
 refine polyVar_call fun s13 W12 hE12 h13=>⟨s13,rfl,?_⟩
 refine ratOf_call (z:=1) (by unfold I64;omega) fun s16 b17 s18 W15 hE15 h15=>⟨s16,b17,s18,rfl,?_⟩
 refine polyConst_call h15 (Sz.one (show 1≤1 by omega)) (by omega) fun s21 W20 hE20 h21=>⟨s21,rfl,fun s22 W23 hE23 hO22 _=>?_⟩
 rw[g_one] at h21
 rw[g_var] at h13
 have hps:Ps W23 s22 gPs:=⟨_,⟨_,hO22.row⟩,⟨s13,rfl,h13.ext (hE15.trans (hE20.trans hE23))⟩,⟨s21,rfl,h21.ext hE23⟩,trivial⟩
 refine gramForm_call hps (hm.ext (hE12.trans (hE15.trans (hE20.trans hE23)))) g_sys (by omega) (fun i j=>(gSz i j).mono (by omega)) fun s26 W25 hE25 h26=>⟨s26,_,rfl,?_⟩
 rw[g_res] at h26⊢
 have h26:IsPoly 268 151 W25 s26 gP:=h26
 refine⟨fun _=>⟨fun _=>?_,fun e=>(by cases e)⟩,fun e=>absurd rfl e⟩
 have hs1: ∀t∈gP,Sz 1 t.2:=fun t ht=>by
  simp only[gP,List.mem_cons,List.not_mem_nil,or_false] at ht
  rcases ht with rfl | rfl<;>exact Sz.one (Nat.le_refl 1)
 refine polyPlain_call h26 hs1 (by omega) (by simp[gP]) fun s30 W29 hE29 h30=>⟨s30,rfl,fun s31 W32 hE32 hO31 _=>?_⟩
 rw[g_txt] at h30
 have h31:IsAPoly W32 s31 [(⟨1,0,0⟩,g1),(⟨2,0,0⟩,g1)]:=⟨_,⟨_,hO31.row⟩,⟨(by decide:(⟨1,0,0⟩:Mon).ok),rfl⟩,⟨(by decide:(⟨2,0,0⟩:Mon).ok),rfl⟩,trivial⟩
 exact sameTerms_call (h30.ext hE32) h31 (by simp) fun W34 hE34 _=>⟨true,rfl,fun W36 _=>⟨rfl,trivial⟩⟩
theorem law13alive_call {W0 W:PW} {M:Nat→Prop} {K:Value→PW→Prop} (kont: ∀(W':PW),Ext W W'→(True)→K (.bool true) W'):
  callN Go.Proofs.Tryz.prog W0 M 12 [] W K:=
 callN_of (fun W' hE=>law13alive_ok (M:=fun _=>False) ) (fun W' v W'' hE hE' hP=>by
  obtain⟨rfl,h⟩:=hP
  exact kont W'' (hE.trans hE') h)
end Go.Proofs.YtnlmddaakeigdaaGreatDoor

/- poly.Diff, cinctureref1.Diff; cincturelaw8.PolyDiffs. -/
set_option maxRecDepth 100000
set_option linter.unusedVariables false
set_option linter.unusedSimpArgs false
namespace Go.Proofs.YtnlmddaakeigdaaGreatDoor
open Go Go.SX
end Go.Proofs.YtnlmddaakeigdaaGreatDoor
