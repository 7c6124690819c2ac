/- cinctureref1: PolyAdd, PolyScale, PolySub, Var, Const, PolySame. -/
import Derived.Test.YthpmkcidkcmlgaaGreatW16
import Derived.Test.YthpmkcidkcmlgaaGreatR14
import Derived.Test.YthpmkcidkcmlgaaGreatW14
import Derived.Test.YthpmkcidkcmlgaaGreatR13
import Derived.Test.YthpmkcidkcmlgaaGreatLib4
import Derived.Test.YthpmkcidkcmlgaaGreatW10
import Derived.Test.YthpmkcidkcmlgaaGreatW8
import Derived.Test.YthpmkcidkcmlgaaGreatR6
import Derived.Test.YthpmkcidkcmlgaaGreatLib3
set_option linter.unusedVariables false
set_option linter.unusedSimpArgs false
set_option maxRecDepth 100000
set_option linter.unusedVariables false
set_option linter.unusedSimpArgs false
namespace Go.Proofs.YthpmkcidkcmlgaaGreat
open Go Go.SX
end Go.Proofs.YthpmkcidkcmlgaaGreat

/- cinctureref1.PolyMul. -/
set_option maxRecDepth 100000
set_option linter.unusedVariables false
set_option linter.unusedSimpArgs false
namespace Go.Proofs.YthpmkcidkcmlgaaGreat
open Go Go.SX
end Go.Proofs.YthpmkcidkcmlgaaGreat

/- gram.Form, cinctureref1.Form. -/
set_option maxRecDepth 100000
set_option linter.unusedVariables false
set_option linter.unusedSimpArgs false
namespace Go.Proofs.YthpmkcidkcmlgaaGreat
open Go Go.SX
def stepA (q:Nat→List Tm) (m:Nat→Nat→Rat) (i k:Nat) (a:Option (List Tm)):Option (List Tm):=match a with
 | none=>none
 | some a=>if MulOK (q i) (q k) then some (pnorm (a ++ pnorm (pmap (pnorm (ppairs (q i) (q k))) (m i k)))) else none
def formK (q:Nat→List Tm) (m:Nat→Nat→Rat) (i:Nat) (a:Option (List Tm)):Nat→Option (List Tm)
 | 0=>a
 | k+1=>stepA q m i k (formK q m i a k)
def formI (q:Nat→List Tm) (m:Nat→Nat→Rat) (n:Nat):Nat→Option (List Tm)
 | 0=>some []
 | i+1=>formK q m i (formI q m n i) n
theorem formK_none {q:Nat→List Tm} {m:Nat→Nat→Rat} {i:Nat} {a:Option (List Tm)} {k:Nat} (h:formK q m i a k=none): ∀n,k≤n→formK q m i a n=none
 | 0,hk=>by
  have:k=0:=by omega
  subst this
  exact h
 | n+1,hk=>by
  by_cases e:k=n+1
  ·subst e;exact h
  ·rw[formK,formK_none h n (by omega)]
   rfl
theorem formI_none {q:Nat→List Tm} {m:Nat→Nat→Rat} {n i:Nat} (h:formI q m n i=none): ∀j,i≤j→formI q m n j=none
 | 0,hj=>by
  have:i=0:=by omega
  subst this
  exact h
 | j+1,hj=>by
  by_cases e:i=j+1
  ·subst e;exact h
  ·rw[formI,formI_none h j (by omega)]
   exact formK_none (k:=0) rfl n (Nat.zero_le _)
def qat (ps:List (List Tm)) (i:Nat):List Tm:=ps.getD i []
def FormOK (ps:List (List Tm)) (r:Nat) (c:Nat→Nat):Prop:=RightP r c∧c 0=r∧ps.length=r
noncomputable def formP (ps:List (List Tm)) (r:Nat) (c:Nat→Nat) (m:Nat→Nat→Rat):Option (List Tm):=by
 classical exact if FormOK ps r c then formI (qat ps) m ps.length ps.length else none
theorem formP_bad {ps:List (List Tm)} {r:Nat} {c:Nat→Nat} {m:Nat→Nat→Rat} (h:¬FormOK ps r c):formP ps r c m=none:=by unfold formP;rw[if_neg h]
theorem formP_good {ps:List (List Tm)} {r:Nat} {c:Nat→Nat} {m:Nat→Nat→Rat} (h:FormOK ps r c):formP ps r c m=formI (qat ps) m ps.length ps.length:=by unfold formP;rw[if_pos h]
theorem qat_at {ps:List (List Tm)} {i:Nat} (h:i<ps.length):qat ps i=ps[i]:=by unfold qat;rw[List.getD_eq_getElem?_getD,List.getElem?_eq_getElem h];rfl
def cmb:Nat→Nat:=fun t=>1+t*116070
theorem cmb_succ (t:Nat):cmb (t+1)=cmb t+116070:=by unfold cmb;omega
theorem cmb_le {n i k:Nat} (hn:n≤5) (hi:i<n) (hk:k≤n):cmb (i*n+k)≤3000000:=by
 unfold cmb
 have h1:i*n≤4*5:=Nat.mul_le_mul (by omega) hn
 have h2:=Nat.mul_le_mul_right 116070 (show i*n+k≤25 by omega)
 omega
def foO (W0:PW) (ps:List (List Tm)) (m:Nat→Nat→Rat) (L:List PL) (W:PW):Prop:=match L with
 | [.val (.int .i64 i),_,.cells [.slice A n c]]=>∃(j:Nat) (a:List Tm),i=(j:Int)∧j≤ps.length∧Ext W0 W∧formI (qat ps) m ps.length j=some a∧IsPoly 317 188 W ⟨A,n,c⟩ a∧Bd (cmb (j*ps.length)) a∧PGood a
 | _=>False
def foI (W0:PW) (ps:List (List Tm)) (m:Nat→Nat→Rat) (j:Nat) (a0:List Tm) (L:List PL) (W:PW):Prop:=match L with
 | [.val (.int .i64 i),_,.cells [.slice A n c]]=>∃(k:Nat) (a:List Tm),i=(k:Int)∧k≤ps.length∧Ext W0 W∧formK (qat ps) m j (some a0) k=some a∧IsPoly 317 188 W ⟨A,n,c⟩ a∧Bd (cmb (j*ps.length+k)) a∧PGood a
 | _=>False
structure SysOK (ps:List (List Tm)):Prop where
 bd: ∀q∈ps,Bd 56029 q∧q.length≤14
 len:ps.length≤5
theorem gramForm_ok {W0:PW} {M:Nat→Prop} {s sm:Sl} {ps:List (List Tm)} {r:Nat} {c:Nat→Nat} {m:Nat→Nat→Rat} (h:Ps W0 s ps) (hm:IsMat 317 51 100 W0 sm r c m) (hp:SysOK ps) (hr:r≤1099511627776) (hz: ∀i j,Sz 4001 (m i j)):
  PCallsM Go.Proofs.Tryz.prog 18 [s.v,sm.v] W0 M fun v W'=>∃(s':Sl),v = .tuple ⟨[.agg ⟨[Sl.v s']⟩,.bool (formP ps r c m).isSome]⟩∧IsPoly 317 188 W' s' ((formP ps r c m).getD []):=by
 apply callgram_Form
 have hn:=h.n
 have hmn:=hm.n
 have h4:=hp.len
 have bad:formP ps r c m=none→∀W':PW,∃s':Sl,(Value.tuple ⟨[.agg ⟨[.slice none 0 0]⟩,.bool false]⟩) = .tuple ⟨[.agg ⟨[Sl.v s']⟩,.bool (formP ps r c m).isSome]⟩∧IsPoly 317 188 W' s' ((formP ps r c m).getD []):=fun hb W'=>by rw[hb];exact⟨⟨none,0,0⟩,rfl,IsPoly.nil W'⟩
 refine matRight_call hm hr fun b3 W2 hE2 hR=>⟨b3,rfl,fun hno W4 _=>bad (formP_bad fun hF=>?_) W4,fun hyes=>?_⟩
 ·have:=hR.2 hF.1
  rw[this] at hno
  cases hno
 have hRP:RightP r c:=hR.1 (by simpa using hyes)
 have hr1:=hRP.2.1
 obtain⟨x0,hx0,hq0⟩:=(hm.ext hE2).at (i:=0) (by omega)
 have hn0:=hq0.n
 refine⟨(hm.ext hE2).inB (by omega) (by omega),x0,hx0,fun hne W6 _=>bad (formP_bad fun hF=>?_) W6,fun hsq=>⟨fun hne W7 _=>bad (formP_bad fun hF=>?_) W7,fun hlen=>?_⟩⟩
 ·have:=hF.2.1
  omega
 ·have:=hF.2.2
  omega
 have hF:FormOK ps r c:=⟨hRP,by omega,by omega⟩
 refine⟨foO W0 ps m,fun L _=>match L with | [.val (.int .i64 i),_,_]=>ps.length-i.toNat | _=>0,⟨0,[],rfl,Nat.zero_le _,hE2,rfl,IsPoly.nil W2,⟨1,0,trivial,by decide,by rw[nl_one];simp[cmb],by rw[nl_zero];exact Nat.zero_le _⟩,PGood.nil⟩,?_⟩
 rintro s10 s11 i12 W13 ⟨j,a0,rfl,hj,hE13,ha0,hP0,hB0,hG0⟩
 refine⟨fun hlt=>?_,fun hge W37 hE37=>⟨s11,?_,?_⟩⟩
 ·have hjl:j<ps.length:=by omega
  obtain⟨x,hx,hxp⟩:=(h.ext hE13).at hjl
  refine⟨(h.ext hE13).inB (by omega) (by omega),x,hx,?_⟩
  refine⟨foI W13 ps m j a0,fun L _=>match L with | [.val (.int .i64 i),_,_]=>ps.length-i.toNat | _=>0,⟨0,a0,rfl,Nat.zero_le _,Ext.refl _,rfl,hP0,hB0,hG0⟩,?_⟩
  rintro s17 s18 i19 W20 ⟨k,a,rfl,hk,hE20,ha,hP,hB,hG⟩
  have hP:IsPoly 317 188 W20 s18 a:=hP
  refine⟨fun hltk=>?_,fun hgek=>⟨by unfold I64;omega,⟨j+1,a,by push_cast;rfl,by omega,hE13.trans hE20,?_,hP,?_,hG⟩,?_⟩⟩
  ·have hkl:k<ps.length:=by omega
   have hE0:=hE13.trans hE20
   obtain⟨y,hy,hyp⟩:=(h.ext hE0).at hkl
   have m1:=hp.bd _ (List.getElem_mem hjl)
   have m2:=hp.bd _ (List.getElem_mem hkl)
   refine⟨(h.ext hE0).inB (by omega) (by omega),y,hy,polyMul_call (hxp.ext hE20) hyp m1.1 m2.1 (by omega) (by omega) (by omega) (by have:=Nat.mul_le_mul m1.2 m2.2;omega) fun s24 W23 hE23 h23=>⟨s24,_,rfl,fun hno W26 _=>bad ?_ W26,fun hyes=>?_⟩⟩
   ·have hM:¬MulOK ps[j] ps[k]:=by simpa using hno
    rw[formP_good hF]
    refine formI_none (i:=j+1) ?_ _ hjl
    rw[formI,ha0]
    refine formK_none (k:=k+1) ?_ _ hkl
    rw[formK,ha,stepA,qat_at hjl,qat_at hkl]
    rw[if_neg hM]
   ·have hM:MulOK ps[j] ps[k]:=by simpa using hyes
    rw[mulP_of hM] at h23
    have hpl:(pnorm (ppairs ps[j] ps[k])).length≤196:=by have:=pnorm_len (ppairs ps[j] ps[k]);rw[ppairs_len] at this;have:=Nat.mul_le_mul m1.2 m2.2;omega
    have hpb:=(m1.1.pairs m2.1).norm
    have hmE:=hm.ext (hE0.trans hE23)
    obtain⟨z,hz1,hz2⟩:=hmE.at (i:=j) (by omega)
    have hck:k<c j:=by rw[hRP.1 j (by omega)];omega
    obtain⟨s1,b1,s2,e1,e2⟩:=hz2.at hck
    have hzb:Bd (56029+56029+4001) (pmap (pnorm (ppairs ps[j] ps[k])) (m j k)):=Bd.pmap hpb (hz j k)
    have hzl:=pmap_len (pnorm (ppairs ps[j] ps[k])) (m j k)
    have hzl2:=pnorm_len (pmap (pnorm (ppairs ps[j] ps[k])) (m j k))
    have hal:=PGood.len hG hP.ok
    have hcm:=cmb_le h4 hjl (Nat.le_of_lt hkl)
    refine⟨hmE.inB (by omega) (by omega),z,hz1,hz2.inB (by omega) (by omega),s1,b1,s2,e1,polyScale_call h23 e2 hpb (hz j k) (by omega) (by omega) (by omega) fun s33 W32 hE32 h32=>⟨s33,rfl,hE32,?_⟩⟩
    refine polyAdd_call (k:=3000000) (hP.ext (hE23.trans hE32)) h32 (hB.mono hcm) (hzb.norm.mono (by omega)) (by omega) (by omega) (by omega) fun s36 W35 hE35 h35=>⟨s36,rfl,hE35,by unfold I64;omega,⟨k+1,pnorm (a ++ pnorm (pmap (pnorm (ppairs ps[j] ps[k])) (m j k))),by push_cast;rfl,by omega,hE20.trans (hE23.trans (hE32.trans hE35)),?_,h35,?_,pnorm_good _⟩,?_⟩
    ·rw[formK,ha,stepA,qat_at hjl,qat_at hkl]
     rw[if_pos hM]
    ·refine(hB.append hzb.norm).norm.mono ?_
     rw[show j*ps.length+(k+1)=(j*ps.length+k)+1 by omega,cmb_succ]
     omega
    ·show ps.length-Int.toNat ((k:Int)+1)<ps.length-Int.toNat (k:Int)
     omega
  ·have:k=ps.length:=by omega
   subst this
   rw[formI,ha0]
   exact ha
  ·have:k=ps.length:=by omega
   subst this
   rw[Nat.add_mul,Nat.one_mul]
   exact hB
  ·show ps.length-Int.toNat ((j:Int)+1)<ps.length-Int.toNat (j:Int)
   omega
 ·have:j=ps.length:=by omega
  subst this
  rw[formP_good hF,ha0]
  rfl
 ·have:j=ps.length:=by omega
  subst this
  rw[formP_good hF,ha0]
  exact IsPoly.ext hP0 hE37
theorem gramForm_call {W0 W:PW} {M:Nat→Prop} {s sm:Sl} {ps:List (List Tm)} {r:Nat} {c:Nat→Nat} {m:Nat→Nat→Rat} {K:Value→PW→Prop} (h:Ps W s ps) (hm:IsMat 317 51 100 W sm r c m) (hp:SysOK ps) (hr:r≤1099511627776) (hz: ∀i j,Sz 4001 (m i j)) (kont: ∀(s':Sl) (W':PW),Ext W W'→(IsPoly 317 188 W' s' ((formP ps r c m).getD []))→K (.tuple ⟨[.agg ⟨[Sl.v s']⟩,.bool (formP ps r c m).isSome]⟩) W'):
  callN Go.Proofs.Tryz.prog W0 M 18 [s.v,sm.v] W K:=
 callN_of (fun W' hE=>gramForm_ok (M:=fun _=>False) (h.ext hE) (hm.ext hE) hp hr hz) (fun W' v W'' hE hE' hP=>by
  obtain⟨s',rfl,h⟩:=hP
  exact kont s' W'' (hE.trans hE') h)
end Go.Proofs.YthpmkcidkcmlgaaGreat

/- Tables of texts: mat.Parse, cincturelaw14.even, alive. -/
set_option maxRecDepth 100000
set_option linter.unusedVariables false
set_option linter.unusedSimpArgs false
namespace Go.Proofs.YthpmkcidkcmlgaaGreat
open Go Go.SX
def tw (T:List (List ByteArray)) (i:Nat):Nat:=(T[i]?.getD []).length
theorem tw_eq {T:List (List ByteArray)} {i:Nat} (h:i<T.length):tw T i=T[i].length:=by
 unfold tw
 rw[List.getElem?_eq_getElem h];rfl
def txt (T:List (List ByteArray)) (i j:Nat):ByteArray:=(T[i]?.getD [])[j]?.getD ⟨⟨[]⟩⟩
theorem txt_eq {T:List (List ByteArray)} {i j:Nat} (h:i<T.length) (hj:j<T[i].length):txt T i j=T[i][j]:=by
 unfold txt
 rw[List.getElem?_eq_getElem h]
 simp[hj]
theorem txEven_ok {W0:PW} {M:Nat→Prop} {s:Sl} {T:List (List ByteArray)} (h:IsTx W0 s T) (hr:T.length≤1099511627776):
  PCallsM Go.Proofs.Tryz.prog 162 [s.v] W0 M fun v W'=>∃(b:Bool),v = .bool b∧(b=true↔RightP T.length (tw T)):=by
 apply callmat_even_string
 have hn:=h.n
 refine⟨fun l W=>match l with | [.val (.int .i64 i)]=>Ext W0 W∧∃k:Nat,i=(k:Int)∧k≤T.length∧∀i,i<k→tw T i=tw T 0 | _=>False,fun l _=>match l with | [.val (.int .i64 i)]=>T.length-i.toNat | _=>0,⟨Ext.refl _,0,rfl,Nat.zero_le _,fun i h=>(by omega)⟩,?_⟩
 rintro i3 W4 ⟨hE4,k,rfl,hk,hck⟩
 have h4:=h.ext hE4
 refine⟨fun hlt=>?_,fun hge=>⟨fun h1=>⟨fun h12=>?_,fun h12=>fun W14 _=>⟨false,rfl,?_⟩⟩,fun h1=>fun W21 _=>⟨false,rfl,?_⟩⟩⟩
 ·obtain⟨x,e1,e2⟩:=h4.at (i:=k) (by omega)
  obtain⟨y,f1,f2⟩:=h4.at (i:=0) (by omega)
  have n1:=e2.nt.trans (tw_eq (by omega)).symm
  have n2:=f2.nt.trans (tw_eq (by omega)).symm
  refine⟨h4.inB (by omega) (by omega),x,e1,h4.inB (by omega) (by omega),y,f1,fun hne W7 _=>⟨false,rfl,?_⟩,fun heq=>⟨by unfold I64;omega,⟨hE4,k+1,by push_cast;rfl,by omega,fun i hi=>?_⟩,?_⟩⟩
  ·refine⟨fun h=>(by cases h),fun h=>?_⟩
   have:=h.1 k (by omega)
   omega
  ·by_cases e:i=k
   ·subst e;omega
   ·exact hck i (by omega)
  ·show T.length-Int.toNat ((k:Int)+1)<T.length-Int.toNat (k:Int)
   omega
 ·have hkr:k=T.length:=by omega
  obtain⟨y,f1,f2⟩:=h4.at (i:=0) (by omega)
  have n2:=f2.nt.trans (tw_eq (by omega)).symm
  have ib:=h4.inB (i:=0) (by omega) (by omega)
  refine⟨ib,y,f1,fun hy=>⟨ib,y,f1,fun W10 _=>⟨_,rfl,?_⟩⟩,fun hy W11 _=>⟨false,rfl,?_⟩⟩
  ·rw[decide_eq_true_iff]
   exact⟨fun h=>⟨fun i hi=>hck i (by omega),by omega,by omega,by omega,by omega⟩,fun h=>by have:=h.2.2.2.2;omega⟩
  ·refine⟨fun h=>(by cases h),fun h=>?_⟩
   have:=h.2.2.2.1
   omega
 ·refine⟨fun h=>(by cases h),fun h=>?_⟩
  have:=h.2.2.1
  omega
 ·refine⟨fun h=>(by cases h),fun h=>?_⟩
  have:=h.2.1
  omega
theorem txEven_call {W0 W:PW} {M:Nat→Prop} {s:Sl} {T:List (List ByteArray)} {K:Value→PW→Prop} (h:IsTx W s T) (hr:T.length≤1099511627776) (kont: ∀(b:Bool) (W':PW),Ext W W'→((b=true↔RightP T.length (tw T)))→K (.bool b) W'):
  callN Go.Proofs.Tryz.prog W0 M 162 [s.v] W K:=
 callN_of (fun W' hE=>txEven_ok (M:=fun _=>False) (h.ext hE) hr) (fun W' v W'' hE hE' hP=>by
  obtain⟨b,rfl,h⟩:=hP
  exact kont b W'' (hE.trans hE') h)
theorem matParse_ok {W0:PW} {M:Nat→Prop} {n0:Nat} {s:Sl} {T:List (List ByteArray)} (hn:NewFrom n0 W0) (h:IsTx W0 s T) (hr:T.length≤1099511627776) (ht: ∀i j,(txt T i j).size≤1099511627776):
  PCallsM Go.Proofs.Tryz.prog 81 [s.v] W0 M fun v W'=>∃(s':Sl),∃(e:Int),v = .tuple #[Sl.v s',.int .i64 e]∧(e=0→RightP T.length (tw T)∧OMat 317 51 100 (n0≤·) W' s' T.length (tw T 0) (fun i j=>(parseQ (txt T i j)).getD 0))∧(e≠0→¬(RightP T.length (tw T)∧∀i j,i<T.length→j<tw T i→(parseQ (txt T i j)).isSome=true)):=by
 apply callmat_Parse
 have hsn:=h.n
 refine txEven_call h hr fun b W2 hE2 hb=>⟨b,rfl,fun hf W4 _=>⟨⟨none,0,0⟩,1,rfl,fun h=>(by cases h),fun _ h=>?_⟩,fun ht'=>?_⟩
 ·rw[hb.2 h.1] at hf;cases hf
 have hbt:b=true:=by simpa using ht'
 have hR:=hb.1 hbt
 have hR':=hR
 obtain⟨hc,hr1,hr12,hc1,hc12⟩:=hR'
 have h2:=h.ext hE2
 obtain⟨y,f1,f2⟩:=h2.at (i:=0) (by omega)
 have ny:=f2.nt.trans (tw_eq (by omega)).symm
 refine⟨h2.inB (by omega) (by omega),y,f1,?_⟩
 rw[ny,hsn]
 obtain⟨n1,hn1⟩: ∃n1,W2.w.heap.size=n1:=⟨_,rfl⟩
 have hle:W2.w.heap.size≤n1:=by omega
 have hn1':NewFrom n1 W2:=by unfold NewFrom;omega
 have h01:W0.w.heap.size≤n1:=Nat.le_trans hE2.size hle
 refine matNone_call hn1' (by omega) (by omega) fun s8 W7 hE7 h8=>⟨s8,rfl,?_⟩
 refine⟨fun l W=>match l with | [.val (.int .i64 i)]=>∃k:Nat,i=(k:Int)∧k≤T.length∧ExtN n1 W2 W∧OMat 317 51 100 (n1≤·) W s8 T.length (tw T 0) (fun a b=>if a<k then(parseQ (txt T a b)).getD 0 else 0) | _=>False,fun l _=>match l with | [.val (.int .i64 i)]=>T.length-i.toNat | _=>0,⟨0,rfl,Nat.zero_le _,hE7.toM _,h8.congr fun i j _ _=>by simp⟩,?_⟩
 rintro i11 W12 ⟨k,rfl,hk,hE12,h12⟩
 refine⟨fun hlt=>?_,fun hge W28 hE28=>⟨s8,0,rfl,fun _=>⟨hR,?_⟩,fun h=>absurd rfl h⟩⟩
 ·have hkr:k<T.length:=by omega
  obtain⟨x,e1,e2⟩:=h2.at (i:=k) hkr
  have nx:=e2.nt.trans (tw_eq hkr).symm
  have hck:=hc k hkr
  have hkt:=tw_eq hkr
  refine⟨(h2.new hE12 hle).inB (by omega) (by omega),x,e1.new hE12 hle,?_⟩
  refine⟨fun l W=>match l with | [.val (.int .i64 i)]=>∃l:Nat,i=(l:Int)∧l≤tw T 0∧ExtN n1 W2 W∧OMat 317 51 100 (n1≤·) W s8 T.length (tw T 0) (fun a b=>if a<k∨(a=k∧b<l) then(parseQ (txt T a b)).getD 0 else 0) | _=>False,fun l _=>match l with | [.val (.int .i64 i)]=>tw T 0-i.toNat | _=>0,⟨0,rfl,Nat.zero_le _,hE12,h12.congr fun i j _ _=>by simp⟩,?_⟩
  rintro i16 W17 ⟨l,rfl,hl,hE17,h17⟩
  refine⟨fun hlt2=>?_,fun hge2=>⟨by unfold I64;omega,⟨k+1,by push_cast;rfl,by omega,hE17,h17.congr fun a b ha hb=>?_⟩,?_⟩⟩
  ·have hlc:l<tw T 0:=by omega
   have e17:=e2.new hE17 hle
   have hlt3:l<T[k].length:=by omega
   have htx:=txt_eq hkr hlt3
   refine⟨e17.inBt (by omega) (by omega),_,e17.text hlt3,?_⟩
   rw[←htx]
   refine ratParse_call (ht k l) fun s21 b22 s23 W20 hE20 h21=>⟨s21,b22,s23,_,rfl,fun hne W25 _=>⟨⟨none,0,0⟩,_,rfl,fun h=>absurd h hne,fun _ hall=>?_⟩,fun heq=>?_⟩
   ·have:=hall.2 k l hkr (by omega)
    rw[er_ne hne] at this
    cases this
   ·have h20:=h17.ext hE20
    obtain⟨z,z1,z2⟩:=h20.mat.at (i:=k) hkr
    refine⟨h20.mat.inB (by omega) (by omega),z,z1,z2.inB (by omega) (by omega),?_⟩
    refine h20.store (j:=l) z1 hkr hlc h21 (by decide) (by decide) (fun g hg=>.inr (Nat.le_trans h01 hg)) fun W22 hp h22=>⟨by unfold I64;omega,⟨l+1,by push_cast;rfl,by omega,(hE17.trans (hE20.toM _)).trans (hp.extN fun g hg=>hg),h22.congr fun a b ha hb=>?_⟩,?_⟩
    ·unfold setM
     by_cases e:a=k∧b=l
     ·rw[if_pos e,if_pos (by omega),e.1,e.2]
     ·rw[if_neg e]
      dsimp only
      by_cases e':a<k∨(a=k∧b<l)
      ·rw[if_pos e',if_pos (by omega)]
      ·rw[if_neg e',if_neg (by omega)]
    ·show tw T 0-Int.toNat ((l:Int)+1)<tw T 0-Int.toNat (l:Int)
     omega
  ·by_cases e':a<k∨(a=k∧b<l)
   ·rw[if_pos e',if_pos (by omega)]
   ·rw[if_neg e',if_neg (by omega)]
  ·show T.length-Int.toNat ((k:Int)+1)<T.length-Int.toNat (k:Int)
   omega
 ·refine((h12.ext hE28).mono fun g hg=>Nat.le_trans (hn.ext hE2) (Nat.le_trans hle hg)).congr fun a b ha hb=>?_
  rw[if_pos (by omega)]
theorem matParse_call {W0 W:PW} {M:Nat→Prop} {n0:Nat} {s:Sl} {T:List (List ByteArray)} {K:Value→PW→Prop} (hn:NewFrom n0 W) (h:IsTx W s T) (hr:T.length≤1099511627776) (ht: ∀i j,(txt T i j).size≤1099511627776) (kont: ∀(s':Sl) (e:Int) (W':PW),Ext W W'→((e=0→RightP T.length (tw T)∧OMat 317 51 100 (n0≤·) W' s' T.length (tw T 0) (fun i j=>(parseQ (txt T i j)).getD 0))∧(e≠0→¬(RightP T.length (tw T)∧∀i j,i<T.length→j<tw T i→(parseQ (txt T i j)).isSome=true)))→K (.tuple #[Sl.v s',.int .i64 e]) W'):
  callN Go.Proofs.Tryz.prog W0 M 81 [s.v] W K:=
 callN_of (fun W' hE=>matParse_ok (M:=fun _=>False) (hn.ext hE) (h.ext hE) hr ht) (fun W' v W'' hE hE' hP=>by
  obtain⟨s',e,rfl,h⟩:=hP
  exact kont s' e W'' (hE.trans hE') h)
end Go.Proofs.YthpmkcidkcmlgaaGreat
