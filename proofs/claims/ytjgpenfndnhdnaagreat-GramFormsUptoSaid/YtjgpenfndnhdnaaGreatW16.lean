/- Tables of texts: mat.Parse, cincturelaw14.even, alive. -/
import Derived.Test.YtjgpenfndnhdnaaGreatW15
import Derived.Test.YtjgpenfndnhdnaaGreatW10
import Derived.Test.YtjgpenfndnhdnaaGreatW8
import Derived.Test.YtjgpenfndnhdnaaGreatR9
import Derived.Test.YtjgpenfndnhdnaaGreatLib2
import Derived.Test.YtjgpenfndnhdnaaGreatW13
import Derived.Test.YtjgpenfndnhdnaaGreatLib3
import Derived.Test.YtjgpenfndnhdnaaGreatRows
import Derived.WalkKit
import Derived.ProofKit
import Derived.OpenShut
import Derived.JoinedCond
import Derived.Carry
import Derived.Deep.Strs
import Derived.Deep.Slices
set_option linter.unusedVariables false
set_option linter.unusedSimpArgs false
set_option maxRecDepth 100000
set_option linter.unusedVariables false
set_option linter.unusedSimpArgs false
namespace Go.Proofs.YtjgpenfndnhdnaaGreat
open Go Go.SX
def tw (T:List (List ByteArray)) (i:Nat):Nat:=(T[i]?.getD []).length
theorem tw_eq {T:List (List ByteArray)} {i:Nat} (h:i<T.length):tw T i=T[i].length:=by
 unfold tw
 rw[List.getElem?_eq_getElem h];rfl
def txt (T:List (List ByteArray)) (i j:Nat):ByteArray:=(T[i]?.getD [])[j]?.getD ⟨⟨[]⟩⟩
theorem txt_eq {T:List (List ByteArray)} {i j:Nat} (h:i<T.length) (hj:j<T[i].length):txt T i j=T[i][j]:=by
 unfold txt
 rw[List.getElem?_eq_getElem h]
 simp[hj]
theorem txEven_ok {W0:PW} {M:Nat→Prop} {s:Sl} {T:List (List ByteArray)} (h:IsTx W0 s T) (hr:T.length≤1099511627776):
  PCallsM Go.Proofs.Tryz.prog 98 [s.v] W0 M fun v W'=>∃(b:Bool),v = .bool b∧(b=true↔RightP T.length (tw T)):=by
 apply callmat_even_string
 have hn:=h.n
 refine⟨fun l W=>match l with | [.val (.int .i64 i)]=>Ext W0 W∧∃k:Nat,i=(k:Int)∧k≤T.length∧∀i,i<k→tw T i=tw T 0 | _=>False,fun l _=>match l with | [.val (.int .i64 i)]=>T.length-i.toNat | _=>0,⟨Ext.refl _,0,rfl,Nat.zero_le _,fun i h=>(by omega)⟩,?_⟩
 rintro i3 W4 ⟨hE4,k,rfl,hk,hck⟩
 have h4:=h.ext hE4
 refine⟨fun hlt=>?_,fun hge=>⟨fun h1=>⟨fun h12=>?_,fun h12=>fun W14 _=>⟨false,rfl,?_⟩⟩,fun h1=>fun W21 _=>⟨false,rfl,?_⟩⟩⟩
 ·obtain⟨x,e1,e2⟩:=h4.at (i:=k) (by omega)
  obtain⟨y,f1,f2⟩:=h4.at (i:=0) (by omega)
  have n1:=e2.nt.trans (tw_eq (by omega)).symm
  have n2:=f2.nt.trans (tw_eq (by omega)).symm
  refine⟨h4.inB (by omega) (by omega),x,e1,h4.inB (by omega) (by omega),y,f1,fun hne W7 _=>⟨false,rfl,?_⟩,fun heq=>⟨by unfold I64;omega,⟨hE4,k+1,by push_cast;rfl,by omega,fun i hi=>?_⟩,?_⟩⟩
  ·refine⟨fun h=>(by cases h),fun h=>?_⟩
   have:=h.1 k (by omega)
   omega
  ·by_cases e:i=k
   ·subst e;omega
   ·exact hck i (by omega)
  ·show T.length-Int.toNat ((k:Int)+1)<T.length-Int.toNat (k:Int)
   omega
 ·have hkr:k=T.length:=by omega
  obtain⟨y,f1,f2⟩:=h4.at (i:=0) (by omega)
  have n2:=f2.nt.trans (tw_eq (by omega)).symm
  have ib:=h4.inB (i:=0) (by omega) (by omega)
  refine⟨ib,y,f1,fun hy=>⟨ib,y,f1,fun W10 _=>⟨_,rfl,?_⟩⟩,fun hy W11 _=>⟨false,rfl,?_⟩⟩
  ·rw[decide_eq_true_iff]
   exact⟨fun h=>⟨fun i hi=>hck i (by omega),by omega,by omega,by omega,by omega⟩,fun h=>by have:=h.2.2.2.2;omega⟩
  ·refine⟨fun h=>(by cases h),fun h=>?_⟩
   have:=h.2.2.2.1
   omega
 ·refine⟨fun h=>(by cases h),fun h=>?_⟩
  have:=h.2.2.1
  omega
 ·refine⟨fun h=>(by cases h),fun h=>?_⟩
  have:=h.2.1
  omega
theorem txEven_call {W0 W:PW} {M:Nat→Prop} {s:Sl} {T:List (List ByteArray)} {K:Value→PW→Prop} (h:IsTx W s T) (hr:T.length≤1099511627776) (kont: ∀(b:Bool) (W':PW),Ext W W'→((b=true↔RightP T.length (tw T)))→K (.bool b) W'):
  callN Go.Proofs.Tryz.prog W0 M 98 [s.v] W K:=
 callN_of (fun W' hE=>txEven_ok (M:=fun _=>False) (h.ext hE) hr) (fun W' v W'' hE hE' hP=>by
  obtain⟨b,rfl,h⟩:=hP
  exact kont b W'' (hE.trans hE') h)
theorem matParse_ok {W0:PW} {M:Nat→Prop} {n0:Nat} {s:Sl} {T:List (List ByteArray)} (hn:NewFrom n0 W0) (h:IsTx W0 s T) (hr:T.length≤1099511627776) (ht: ∀i j,(txt T i j).size≤1099511627776):
  PCallsM Go.Proofs.Tryz.prog 44 [s.v] W0 M fun v W'=>∃(s':Sl),∃(e:Int),v = .tuple #[Sl.v s',.int .i64 e]∧(e=0→RightP T.length (tw T)∧OMat 260 62 119 (n0≤·) W' s' T.length (tw T 0) (fun i j=>(parseQ (txt T i j)).getD 0))∧(e≠0→¬(RightP T.length (tw T)∧∀i j,i<T.length→j<tw T i→(parseQ (txt T i j)).isSome=true)):=by
 apply callmat_Parse
 have hsn:=h.n
 refine txEven_call h hr fun b W2 hE2 hb=>⟨b,rfl,fun hf W4 _=>⟨⟨none,0,0⟩,1,rfl,fun h=>(by cases h),fun _ h=>?_⟩,fun ht'=>?_⟩
 ·rw[hb.2 h.1] at hf;cases hf
 have hbt:b=true:=by simpa using ht'
 have hR:=hb.1 hbt
 have hR':=hR
 obtain⟨hc,hr1,hr12,hc1,hc12⟩:=hR'
 have h2:=h.ext hE2
 obtain⟨y,f1,f2⟩:=h2.at (i:=0) (by omega)
 have ny:=f2.nt.trans (tw_eq (by omega)).symm
 refine⟨h2.inB (by omega) (by omega),y,f1,?_⟩
 rw[ny,hsn]
 obtain⟨n1,hn1⟩: ∃n1,W2.w.heap.size=n1:=⟨_,rfl⟩
 have hle:W2.w.heap.size≤n1:=by omega
 have hn1':NewFrom n1 W2:=by unfold NewFrom;omega
 have h01:W0.w.heap.size≤n1:=Nat.le_trans hE2.size hle
 refine matNone_call hn1' (by omega) (by omega) fun s8 W7 hE7 h8=>⟨s8,rfl,?_⟩
 refine⟨fun l W=>match l with | [.val (.int .i64 i)]=>∃k:Nat,i=(k:Int)∧k≤T.length∧ExtN n1 W2 W∧OMat 260 62 119 (n1≤·) W s8 T.length (tw T 0) (fun a b=>if a<k then(parseQ (txt T a b)).getD 0 else 0) | _=>False,fun l _=>match l with | [.val (.int .i64 i)]=>T.length-i.toNat | _=>0,⟨0,rfl,Nat.zero_le _,hE7.toM _,h8.congr fun i j _ _=>by simp⟩,?_⟩
 rintro i11 W12 ⟨k,rfl,hk,hE12,h12⟩
 refine⟨fun hlt=>?_,fun hge W28 hE28=>⟨s8,0,rfl,fun _=>⟨hR,?_⟩,fun h=>absurd rfl h⟩⟩
 ·have hkr:k<T.length:=by omega
  obtain⟨x,e1,e2⟩:=h2.at (i:=k) hkr
  have nx:=e2.nt.trans (tw_eq hkr).symm
  have hck:=hc k hkr
  have hkt:=tw_eq hkr
  refine⟨(h2.new hE12 hle).inB (by omega) (by omega),x,e1.new hE12 hle,?_⟩
  refine⟨fun l W=>match l with | [.val (.int .i64 i)]=>∃l:Nat,i=(l:Int)∧l≤tw T 0∧ExtN n1 W2 W∧OMat 260 62 119 (n1≤·) W s8 T.length (tw T 0) (fun a b=>if a<k∨(a=k∧b<l) then(parseQ (txt T a b)).getD 0 else 0) | _=>False,fun l _=>match l with | [.val (.int .i64 i)]=>tw T 0-i.toNat | _=>0,⟨0,rfl,Nat.zero_le _,hE12,h12.congr fun i j _ _=>by simp⟩,?_⟩
  rintro i16 W17 ⟨l,rfl,hl,hE17,h17⟩
  refine⟨fun hlt2=>?_,fun hge2=>⟨by unfold I64;omega,⟨k+1,by push_cast;rfl,by omega,hE17,h17.congr fun a b ha hb=>?_⟩,?_⟩⟩
  ·have hlc:l<tw T 0:=by omega
   have e17:=e2.new hE17 hle
   have hlt3:l<T[k].length:=by omega
   have htx:=txt_eq hkr hlt3
   refine⟨e17.inBt (by omega) (by omega),_,e17.text hlt3,?_⟩
   rw[←htx]
   refine ratParse_call (ht k l) fun s21 b22 s23 W20 hE20 h21=>⟨s21,b22,s23,_,rfl,fun hne W25 _=>⟨⟨none,0,0⟩,_,rfl,fun h=>absurd h hne,fun _ hall=>?_⟩,fun heq=>?_⟩
   ·have:=hall.2 k l hkr (by omega)
    rw[er_ne hne] at this
    cases this
   ·have h20:=h17.ext hE20
    obtain⟨z,z1,z2⟩:=h20.mat.at (i:=k) hkr
    refine⟨h20.mat.inB (by omega) (by omega),z,z1,z2.inB (by omega) (by omega),?_⟩
    refine h20.store (j:=l) z1 hkr hlc h21 (by decide) (by decide) (fun g hg=>.inr (Nat.le_trans h01 hg)) fun W22 hp h22=>⟨by unfold I64;omega,⟨l+1,by push_cast;rfl,by omega,(hE17.trans (hE20.toM _)).trans (hp.extN fun g hg=>hg),h22.congr fun a b ha hb=>?_⟩,?_⟩
    ·unfold setM
     by_cases e:a=k∧b=l
     ·rw[if_pos e,if_pos (by omega),e.1,e.2]
     ·rw[if_neg e]
      dsimp only
      by_cases e':a<k∨(a=k∧b<l)
      ·rw[if_pos e',if_pos (by omega)]
      ·rw[if_neg e',if_neg (by omega)]
    ·show tw T 0-Int.toNat ((l:Int)+1)<tw T 0-Int.toNat (l:Int)
     omega
  ·by_cases e':a<k∨(a=k∧b<l)
   ·rw[if_pos e',if_pos (by omega)]
   ·rw[if_neg e',if_neg (by omega)]
  ·show T.length-Int.toNat ((k:Int)+1)<T.length-Int.toNat (k:Int)
   omega
 ·refine((h12.ext hE28).mono fun g hg=>Nat.le_trans (hn.ext hE2) (Nat.le_trans hle hg)).congr fun a b ha hb=>?_
  rw[if_pos (by omega)]
theorem matParse_call {W0 W:PW} {M:Nat→Prop} {n0:Nat} {s:Sl} {T:List (List ByteArray)} {K:Value→PW→Prop} (hn:NewFrom n0 W) (h:IsTx W s T) (hr:T.length≤1099511627776) (ht: ∀i j,(txt T i j).size≤1099511627776) (kont: ∀(s':Sl) (e:Int) (W':PW),Ext W W'→((e=0→RightP T.length (tw T)∧OMat 260 62 119 (n0≤·) W' s' T.length (tw T 0) (fun i j=>(parseQ (txt T i j)).getD 0))∧(e≠0→¬(RightP T.length (tw T)∧∀i j,i<T.length→j<tw T i→(parseQ (txt T i j)).isSome=true)))→K (.tuple #[Sl.v s',.int .i64 e]) W'):
  callN Go.Proofs.Tryz.prog W0 M 44 [s.v] W K:=
 callN_of (fun W' hE=>matParse_ok (M:=fun _=>False) (hn.ext hE) (h.ext hE) hr ht) (fun W' v W'' hE hE' hP=>by
  obtain⟨s',e,rfl,h⟩:=hP
  exact kont s' e W'' (hE.trans hE') h)
end Go.Proofs.YtjgpenfndnhdnaaGreat

/- cincturelaw11.Raw. -/
set_option maxRecDepth 100000
set_option linter.unusedVariables false
set_option linter.unusedSimpArgs false
namespace Go.Proofs.YtjgpenfndnhdnaaGreat
open Go Go.SX
theorem and_dup {p:Prop} (h:p):dup 1 p∧p:=⟨dup_of h 1,h⟩
def QL (t:TypeId) (W:PW) (xs:List (List Value)) (qs:List Rat):Prop:=xs.length=qs.length∧∀i (h:i<qs.length),∃(s:Sl) (b:Bool) (s':Sl),xs[i]?=some [s.v,.bool b,s'.v]∧IsRat t W s b s' qs[i]
def RQL (t:TypeId) (W:PW) (xs:List (List Value)) (qs:List Rat):Prop:=xs.length=qs.length∧∀i (h:i<qs.length),∃(b:Bool) (s s':Sl),xs[i]?=some [.bool b,s.v,s'.v]∧IsRefQ t W b s s' qs[i]
theorem QL.ext {t:TypeId} {W W':PW} {xs:List (List Value)} {qs:List Rat} (h:QL t W xs qs) (hE:Ext W W'):QL t W' xs qs:=⟨h.1,fun i hi=>let⟨s,b,s',h1,h2⟩:=h.2 i hi;⟨s,b,s',h1,h2.ext hE⟩⟩
theorem RQL.ext {t:TypeId} {W W':PW} {xs:List (List Value)} {qs:List Rat} (h:RQL t W xs qs) (hE:Ext W W'):RQL t W' xs qs:=⟨h.1,fun i hi=>let⟨b,s,s',h1,h2⟩:=h.2 i hi;⟨b,s,s',h1,h2.ext hE⟩⟩
theorem QL.snoc {t:TypeId} {W:PW} {xs:List (List Value)} {qs:List Rat} {s s':Sl} {b:Bool} {q:Rat} (h:QL t W xs qs) (hq:IsRat t W s b s' q):QL t W (xs ++ [[s.v,.bool b,s'.v]]) (qs ++ [q]):=by
 refine⟨by simp[h.1],fun i hi=>?_⟩
 by_cases e:i<qs.length
 ·obtain⟨a,c,d,h1,h2⟩:=h.2 i e
  exact⟨a,c,d,by rw[List.getElem?_append_left (by rw[h.1];exact e)];exact h1,by rw[List.getElem_append_left e];exact h2⟩
 ·have:i=qs.length:=by simp at hi;omega
  subst this
  exact⟨s,b,s',by rw[List.getElem?_append_right (by rw[h.1];exact Nat.le_refl _),h.1];simp,by rw[List.getElem_concat_length rfl];exact hq⟩
theorem RQL.snoc {t:TypeId} {W:PW} {xs:List (List Value)} {qs:List Rat} {s s':Sl} {b:Bool} {q:Rat} (h:RQL t W xs qs) (hq:IsRefQ t W b s s' q):RQL t W (xs ++ [[.bool b,s.v,s'.v]]) (qs ++ [q]):=by
 refine⟨by simp[h.1],fun i hi=>?_⟩
 by_cases e:i<qs.length
 ·obtain⟨a,c,d,h1,h2⟩:=h.2 i e
  exact⟨a,c,d,by rw[List.getElem?_append_left (by rw[h.1];exact e)];exact h1,by rw[List.getElem_append_left e];exact h2⟩
 ·have:i=qs.length:=by simp at hi;omega
  subst this
  exact⟨b,s,s',by rw[List.getElem?_append_right (by rw[h.1];exact Nat.le_refl _),h.1];simp,by rw[List.getElem_concat_length rfl];exact hq⟩
def QMs (t tq:TypeId) (W:PW) (ss:List Sl) (Q:List (List Rat)):Prop:=ss.length=Q.length∧∀i (h:i<ss.length) (h':i<Q.length),∃xs,Row W tq 3 ss[i] xs∧QL t W xs Q[i]
def RQMs (t tq:TypeId) (W:PW) (ss:List Sl) (Q:List (List Rat)):Prop:=ss.length=Q.length∧∀i (h:i<ss.length) (h':i<Q.length),∃xs,Row W tq 3 ss[i] xs∧RQL t W xs Q[i]
theorem QMs.ext {t tq:TypeId} {W W':PW} {ss:List Sl} {Q:List (List Rat)} (h:QMs t tq W ss Q) (hE:Ext W W'):QMs t tq W' ss Q:=⟨h.1,fun i hi hi'=>let⟨xs,h1,h2⟩:=h.2 i hi hi';⟨xs,h1.ext hE,h2.ext hE⟩⟩
theorem RQMs.ext {t tq:TypeId} {W W':PW} {ss:List Sl} {Q:List (List Rat)} (h:RQMs t tq W ss Q) (hE:Ext W W'):RQMs t tq W' ss Q:=⟨h.1,fun i hi hi'=>let⟨xs,h1,h2⟩:=h.2 i hi hi';⟨xs,h1.ext hE,h2.ext hE⟩⟩
theorem QMs.snoc {t tq:TypeId} {W:PW} {ss:List Sl} {Q:List (List Rat)} {s:Sl} {xs:List (List Value)} {qs:List Rat} (h:QMs t tq W ss Q) (hr:Row W tq 3 s xs) (hq:QL t W xs qs):QMs t tq W (ss ++ [s]) (Q ++ [qs]):=by
 refine⟨by simp[h.1],fun i hi hi'=>?_⟩
 by_cases e:i<ss.length
 ·rw[List.getElem_append_left e,List.getElem_append_left (by have:=h.1;omega)]
  exact h.2 i e _
 ·have:i=ss.length:=by simp at hi;omega
  subst this
  have e2:(Q ++ [qs])[ss.length]'hi'=qs:=by
   rw[List.getElem_append_right (by rw[h.1];exact Nat.le_refl _)]
   simp[h.1]
  rw[List.getElem_concat_length rfl,e2]
  exact⟨xs,hr,hq⟩
theorem RQMs.snoc {t tq:TypeId} {W:PW} {ss:List Sl} {Q:List (List Rat)} {s:Sl} {xs:List (List Value)} {qs:List Rat} (h:RQMs t tq W ss Q) (hr:Row W tq 3 s xs) (hq:RQL t W xs qs):RQMs t tq W (ss ++ [s]) (Q ++ [qs]):=by
 refine⟨by simp[h.1],fun i hi hi'=>?_⟩
 by_cases e:i<ss.length
 ·rw[List.getElem_append_left e,List.getElem_append_left (by have:=h.1;omega)]
  exact h.2 i e _
 ·have:i=ss.length:=by simp at hi;omega
  subst this
  have e2:(Q ++ [qs])[ss.length]'hi'=qs:=by
   rw[List.getElem_append_right (by rw[h.1];exact Nat.le_refl _)]
   simp[h.1]
  rw[List.getElem_concat_length rfl,e2]
  exact⟨xs,hr,hq⟩
def qw (Q:List (List Rat)) (i:Nat):Nat:=(Q[i]?.getD []).length
def qm (Q:List (List Rat)) (i j:Nat):Rat:=(Q[i]?.getD [])[j]?.getD 0
theorem QMs.mat {t tq ts:TypeId} {W:PW} {s:Sl} {ss:List Sl} {Q:List (List Rat)} (h:QMs t tq W ss Q) (hr:Row W ts 1 s (ss.map fun x=>[x.v])):IsMat t tq ts W s Q.length (qw Q) (qm Q):=by
 refine⟨ss,hr,h.1,fun i hi=>?_⟩
 have hi':i<Q.length:=by have:=h.1;omega
 obtain⟨xs,h1,h2⟩:=h.2 i hi hi'
 have e:Q[i]?.getD []=Q[i]:=by rw[List.getElem?_eq_getElem hi'];rfl
 refine⟨xs,h1,by unfold qw;rw[e];exact h2.1,fun j hj=>?_⟩
 unfold qw at hj
 rw[e] at hj
 obtain⟨a,b,c,k1,k2⟩:=h2.2 j hj
 refine⟨a,b,c,k1,?_⟩
 unfold qm
 rw[e,List.getElem?_eq_getElem hj]
 exact k2
def IsRefMat (t tq ts:TypeId) (W:PW) (s:Sl) (Q:List (List Rat)):Prop:=∃ss:List Sl,Row W ts 1 s (ss.map fun x=>[x.v])∧RQMs t tq W ss Q
def Small (Q:List (List Rat)):Prop:=Q.length≤5∧∀qs∈Q,qs.length≤5∧∀q∈qs,Sz 3 q
theorem Small.sz {Q:List (List Rat)} (h:Small Q) (i j:Nat):Sz 3 (qm Q i j):=by
 unfold qm
 cases e:Q[i]? with
 | none=>exact Sz.zero (by omega)
 | some qs=>
  show Sz 3 (qs[j]?.getD 0)
  cases e2:qs[j]? with
  | none=>exact Sz.zero (by omega)
  | some q=>exact(h.2 qs (List.mem_of_getElem? e)).2 q (List.mem_of_getElem? e2)
def rawI (W0:PW) (n:Nat) (l:List PL) (W:PW):Prop:=
 match l with
 | [.row l3,.row l4,.val (.int .i64 i)]=>Ext W0 W∧∃(ss ss':List Sl) (Q:List (List Rat)),l3=(ss.map fun x=>[x.v])∧l4=(ss'.map fun x=>[x.v])∧i=(Q.length:Int)∧Q.length≤n∧QMs 260 62 W ss Q∧RQMs 260 96 W ss' Q∧Small Q
 | _=>False
def rawI2 (W6:PW) (n:Nat) (l:List PL) (W:PW):Prop:=
 match l with
 | [.row l9,.row l10,.val (.int .i64 i)]=>Ext W6 W∧∃(qs:List Rat) (j:Nat),i=(j:Int)∧qs.length≤j∧j≤5∧j≤n∧QL 260 W l9 qs∧RQL 260 W l10 qs∧∀q∈qs,Sz 3 q
 | _=>False
def rawM (n:Nat) (l:List PL) (W:PW):Nat:=
 match l with
 | [_,_,.val (.int .i64 i)]=>n-i.toNat
 | _=>0
theorem lawRaw_ok {W0:PW} {M:Nat→Prop} {s:Sl} {T:List (List ByteArray)} (h:IsTx W0 s T) (hT: ∀i j,(txt T i j).size≤1099511627776):
  PCallsM Go.Proofs.Tryz.prog 11 [s.v] W0 M fun v W'=>∃(m:Sl),∃(x:Sl),∃(Q:List (List Rat)),v = .tuple #[Sl.v m,Sl.v x]∧IsMat 260 62 119 W' m Q.length (qw Q) (qm Q)∧IsRefMat 260 96 120 W' x Q∧Small Q:=by
 apply calllaw11_Raw
 have hn:=h.n
 refine⟨rawI W0 T.length,rawM T.length,⟨Ext.refl _,[],[],[],rfl,rfl,rfl,Nat.zero_le _,⟨rfl,fun i h=>by simp at h⟩,⟨rfl,fun i h=>by simp at h⟩,by simp,fun qs h=>by simp at h⟩,?_⟩
 rintro l3 l4 i5 W6 ⟨hE6,ss,ss',Q,rfl,rfl,rfl,hQn,hQ,hR,hSm⟩
 refine⟨fun hlt=>⟨fun h5=>?_,fun h5=>?_⟩,fun hge=>?_⟩
 rotate_left
 ·intro s104 W105 hE105 hO105 hf105 s107 W108 hE108 hO108 hf108 W110 hE110
  exact⟨s104,s107,Q,rfl,(((hQ.ext hE105).ext hE108).ext hE110).mat ((hO105.ext hE108).ext hE110).row,⟨ss',(hO108.ext hE110).row,((hR.ext hE105).ext hE108).ext hE110⟩,hSm⟩
 ·intro s104 W105 hE105 hO105 hf105 s107 W108 hE108 hO108 hf108 W110 hE110
  exact⟨s104,s107,Q,rfl,(((hQ.ext hE105).ext hE108).ext hE110).mat ((hO105.ext hE108).ext hE110).row,⟨ss',(hO108.ext hE110).row,((hR.ext hE105).ext hE108).ext hE110⟩,hSm⟩
 have hk:Q.length<T.length:=by omega
 have h6:=h.ext hE6
 have hS1:=hSm.1
 obtain⟨r,e1,e2⟩:=h6.at (i:=Q.length) hk
 have nr:=e2.nt
 refine⟨rawI2 W6 T[Q.length].length,rawM T[Q.length].length,⟨Ext.refl _,[],0,rfl,Nat.le_refl _,by omega,Nat.zero_le _,⟨rfl,fun i h=>by simp at h⟩,⟨rfl,fun i h=>by simp at h⟩,fun q h=>by simp at h⟩,?_⟩
 rintro l9 l10 i11 W12 ⟨hE12,qs,j,rfl,hqj,hj5,hjn,hl9,hl10,hsz⟩
 have ib:inB s (Q.length:Int):=h6.inB (by omega) (by omega)
 refine⟨ib,r,e1.ext hE12,fun hlt2=>⟨fun h52=>?_,fun h52=>?_⟩,fun hge2=>?_⟩
 rotate_left
 ·intro s27 W28 hE28 hO28 hf28
  refine⟨by simp only[List.length_map,hQ.1,List.length_cons,List.length_nil];omega,fun s30 W31 hE31 hO31 hf31=>⟨by simp only[List.length_map,hR.1,List.length_cons,List.length_nil];omega,by unfold I64;omega,⟨((hE6.trans hE12).trans hE28).trans hE31,ss ++ [s27],ss' ++ [s30],Q ++ [qs],by simp,by simp,by simp,by simp;omega,(((hQ.ext hE12).ext hE28).ext hE31).snoc (hO28.ext hE31).row ((hl9.ext hE28).ext hE31),(((hR.ext hE12).ext hE28).ext hE31).snoc hO31.row ((hl10.ext hE28).ext hE31),by simp;omega,fun q hq=>?_⟩,?_⟩⟩
  ·rcases List.mem_append.1 hq with h | h
   ·exact hSm.2 q h
   ·rw[List.mem_singleton.1 h]
    exact⟨by omega,hsz⟩
  ·show T.length-Int.toNat ((Q.length:Int)+1)<T.length-Int.toNat (Q.length:Int)
   omega
 ·intro s27 W28 hE28 hO28 hf28
  refine⟨by simp only[List.length_map,hQ.1,List.length_cons,List.length_nil];omega,fun s30 W31 hE31 hO31 hf31=>⟨by simp only[List.length_map,hR.1,List.length_cons,List.length_nil];omega,by unfold I64;omega,⟨((hE6.trans hE12).trans hE28).trans hE31,ss ++ [s27],ss' ++ [s30],Q ++ [qs],by simp,by simp,by simp,by simp;omega,(((hQ.ext hE12).ext hE28).ext hE31).snoc (hO28.ext hE31).row ((hl9.ext hE28).ext hE31),(((hR.ext hE12).ext hE28).ext hE31).snoc hO31.row ((hl10.ext hE28).ext hE31),by simp;omega,fun q hq=>?_⟩,?_⟩⟩
  ·rcases List.mem_append.1 hq with h | h
   ·exact hSm.2 q h
   ·rw[List.mem_singleton.1 h]
    exact⟨by omega,hsz⟩
  ·show T.length-Int.toNat ((Q.length:Int)+1)<T.length-Int.toNat (Q.length:Int)
   omega
 have hjT:j<T[Q.length].length:=by omega
 have r12:=e2.ext hE12
 have htx:=txt_eq hk hjT
 refine⟨ib,r,e1.ext hE12,r12.inBt (by omega) (by omega),_,r12.text hjT,?_⟩
 rw[←htx]
 obtain⟨t,ht⟩: ∃t,txt T Q.length j=t:=⟨_,rfl⟩
 rw[ht] at htx⊢
 have hts:t.size≤1099511627776:=by rw[←ht];exact hT _ _
 have next: ∀W17,Ext W12 W17→I64 ((j:Int)+1)∧rawI2 W6 T[Q.length].length [PL.row l9,PL.row l10,PL.val (Value.int IntKind.i64 ((j:Int)+1))] W17∧rawM T[Q.length].length [PL.row l9,PL.row l10,PL.val (Value.int IntKind.i64 ((j:Int)+1))] W17<rawM T[Q.length].length [PL.row l9,PL.row l10,PL.val (Value.int IntKind.i64 (j:Int))] W12:=by
  intro W17 hE17
  refine⟨by unfold I64;omega,⟨hE12.trans hE17,qs,j+1,by push_cast;rfl,by omega,by omega,by omega,hl9.ext hE17,hl10.ext hE17,hsz⟩,?_⟩
  show T[Q.length].length-Int.toNat ((j:Int)+1)<T[Q.length].length-Int.toNat (j:Int)
  omega
 refine law3Num_call hts fun s18 b19 s20 b21 s22 s23 W17 hE17 ⟨h18,h22⟩=>⟨s18,b19,s20,b21,s22,s23,_,rfl,fun hb=>?_,fun hb=>next W17 hE17⟩
 obtain⟨q,hq⟩:=Option.isSome_iff_exists.1 hb
 rw[hq] at h18 h22
 have h18:IsRat 260 W17 s18 b19 s20 q:=h18
 have h22:IsRefQ 260 W17 b21 s22 s23 q:=h22
 have r17:=r12.ext hE17
 have et:=r17.text hjT
 rw[←htx] at et
 refine⟨ib,r,(e1.ext hE12).ext hE17,r17.inBt (by omega) (by omega),t,et,fun h20=>?_,fun h20=>next W17 hE17⟩
 refine and_dup ?_
 have hqs:Sz 3 q:=by
  unfold numQ at hq
  rw[if_pos (by omega)] at hq
  exact(parseQ_sz hq).2 (by omega)
 refine⟨by rw[hl9.1];simp only[List.length_cons,List.length_nil];omega,by rw[hl10.1];simp only[List.length_cons,List.length_nil];omega,by unfold I64;omega,⟨hE12.trans hE17,qs ++ [q],j+1,by push_cast;rfl,by simp;omega,by omega,by omega,(hl9.ext hE17).snoc h18,(hl10.ext hE17).snoc h22,fun q' hq'=>?_⟩,?_⟩
 ·rcases List.mem_append.1 hq' with h | h
  ·exact hsz q' h
  ·rw[List.mem_singleton.1 h];exact hqs
 ·show T[Q.length].length-Int.toNat ((j:Int)+1)<T[Q.length].length-Int.toNat (j:Int)
  omega
theorem lawRaw_call {W0 W:PW} {M:Nat→Prop} {s:Sl} {T:List (List ByteArray)} {K:Value→PW→Prop} (h:IsTx W s T) (hT: ∀i j,(txt T i j).size≤1099511627776) (kont: ∀(m:Sl) (x:Sl) (Q:List (List Rat)) (W':PW),Ext W W'→(IsMat 260 62 119 W' m Q.length (qw Q) (qm Q)∧IsRefMat 260 96 120 W' x Q∧Small Q)→K (.tuple #[Sl.v m,Sl.v x]) W'):
  callN Go.Proofs.Tryz.prog W0 M 11 [s.v] W K:=
 callN_of (fun W' hE=>lawRaw_ok (M:=fun _=>False) (h.ext hE) hT) (fun W' v W'' hE hE' hP=>by
  obtain⟨m,x,Q,rfl,h⟩:=hP
  exact kont m x Q W'' (hE.trans hE') h)
end Go.Proofs.YtjgpenfndnhdnaaGreat

/- The matrix of the document's program as a function. -/
set_option linter.unusedVariables false
namespace Go.Proofs.YtjgpenfndnhdnaaGreat
open Go Go.SX
theorem RQMs.mat {t tq ts:TypeId} {W:PW} {s:Sl} {Q:List (List Rat)} (h:IsRefMat t tq ts W s Q):IsRMat t tq ts W s Q.length (qw Q) (qm Q):=by
 obtain⟨ss,hr,h⟩:=h
 refine⟨ss,hr,h.1,fun i hi=>?_⟩
 have hi':i<Q.length:=by have:=h.1;omega
 obtain⟨xs,h1,h2⟩:=h.2 i hi hi'
 have e:Q[i]?.getD []=Q[i]:=by rw[List.getElem?_eq_getElem hi'];rfl
 refine⟨xs,h1,by unfold qw;rw[e];exact h2.1,fun j hj=>?_⟩
 unfold qw at hj
 rw[e] at hj
 obtain⟨b,a,c,k1,k2⟩:=h2.2 j hj
 refine⟨a,b,c,k1,?_⟩
 unfold qm
 rw[e,List.getElem?_eq_getElem hj]
 exact k2
end Go.Proofs.YtjgpenfndnhdnaaGreat

/- cincturelaw13.GramForms. -/
set_option maxRecDepth 100000
set_option linter.unusedVariables false
set_option linter.unusedSimpArgs false
namespace Go.Proofs.YtjgpenfndnhdnaaGreat
open Go Go.SX
def g0:ByteArray:=⟨⟨[48]⟩⟩
def g1:ByteArray:=⟨⟨[49]⟩⟩
def gh:ByteArray:=⟨⟨[49,47,50]⟩⟩
def gT:List (List ByteArray):=[[g1,gh],[gh,g0]]
theorem parse_g0:parseQ g0=some 0:=by decide +kernel
theorem parse_g1:parseQ g1=some 1:=by decide +kernel
theorem parse_gh:parseQ gh=some (1/2):=by decide +kernel
def gM (i j:Nat):Rat:=(parseQ (txt gT i j)).getD 0
def gM' (i j:Nat):Rat:=if i=0 then(if j=0 then 1 else 1/2) else if j=0 then 1/2 else 0
theorem gM_eq {i j:Nat} (hi:i<2) (hj:j<2):gM i j=gM' i j:=by
 rcases(show i=0∨i=1 by omega) with rfl | rfl<;>rcases(show j=0∨j=1 by omega) with rfl | rfl
 ·show(parseQ g1).getD 0=1;rw[parse_g1];rfl
 ·show(parseQ gh).getD 0=1/2;rw[parse_gh];rfl
 ·show(parseQ gh).getD 0=1/2;rw[parse_gh];rfl
 ·show(parseQ g0).getD 0=0;rw[parse_g0];rfl
theorem formK_congr {q:Nat→List Tm} {m m':Nat→Nat→Rat} {i:Nat} {a:Option (List Tm)} : ∀{k:Nat} (_: ∀t,t<k→m i t=m' i t),formK q m i a k=formK q m' i a k
 | 0,_=>rfl
 | k+1,h=>by
  rw[formK,formK,formK_congr fun t ht=>h t (by omega)]
  unfold stepA
  rw[h k (by omega)]
theorem formI_congr {q:Nat→List Tm} {m m':Nat→Nat→Rat} {n:Nat} : ∀{i:Nat} (_: ∀t u,t<i→u<n→m t u=m' t u),formI q m n i=formI q m' n i
 | 0,_=>rfl
 | i+1,h=>by
  rw[formI,formI,formI_congr fun t u ht hu=>h t u (by omega) hu,formK_congr fun t ht=>h i t (by omega) ht]
def gPs:List (List Tm):=[[(⟨1,0,0⟩,1)],[(⟨0,0,0⟩,1)]]
def gP:List Tm:=[(⟨1,0,0⟩,1),(⟨2,0,0⟩,1)]
theorem g_form:formI (qat gPs) gM' 2 2=some gP:=by decide +kernel
theorem g_one:pnorm [((⟨0,0,0⟩:Mon),((1:Int):Rat))] = [(⟨0,0,0⟩,1)]:=by decide +kernel
theorem g_var:varP 0 = [(⟨1,0,0⟩,1)]:=rfl
theorem txt_le {T:List (List ByteArray)} {n:Nat} (h: ∀l∈T,∀t∈l,t.size≤n) (i j:Nat):(txt T i j).size≤n:=by
 unfold txt
 cases e:T[i]? with
 | none=>exact Nat.zero_le _
 | some l=>
  show(l[j]?.getD ⟨⟨[]⟩⟩).size≤_
  cases e2:l[j]? with
  | none=>exact Nat.zero_le _
  | some t=>exact h l (List.mem_of_getElem? e) t (List.mem_of_getElem? e2)
theorem g_le: ∀l∈gT,∀t∈l,t.size≤20:=by decide
theorem gSz (i j:Nat):Sz 3 (gM i j):=by
 unfold gM
 cases e:parseQ (txt gT i j) with
 | none=>exact Sz.zero (by omega)
 | some q=>exact(parseQ_sz e).2 (txt_le g_le i j)
theorem g_good:FormOK gPs 2 (tw gT):=by
 have h0:tw gT 0=2:=rfl
 have h1:tw gT 1=2:=rfl
 refine⟨⟨fun i hi=>?_,by omega,by omega,by omega,by omega⟩,h0,rfl⟩
 rcases(show i=0∨i=1 by omega) with rfl | rfl
 ·rfl
 ·rw[h0,h1]
theorem g_res:formP gPs 2 (tw gT) gM=some gP:=by
 rw[formP_good g_good,←g_form]
 exact formI_congr fun t u ht hu=>gM_eq ht hu
theorem g_bd (m:Mon):Bd 56029 [(m,(1:Rat))]:=(bd_one (Sz.one (Nat.le_refl 1))).mono (by decide)
theorem g_sys:SysOK gPs:=⟨fun q hq=>by
 simp only[gPs,List.mem_cons,List.not_mem_nil,or_false] at hq
 rcases hq with rfl | rfl
 ·exact⟨g_bd _,by simp⟩
 ·exact⟨g_bd _,by simp⟩,by decide⟩
theorem dec_g1:decQ 1=g1:=by
 have h:(1:Rat).den=1:=by decide
 have h2:(1:Rat).num=1:=by decide
 unfold decQ
 rw[if_pos h,h2]
 unfold decI decN
 rw[if_neg (by decide),if_neg (by decide),show Int.natAbs 1=1 from rfl,dec_pos (by decide),show 1/10=0 from rfl,dec_zero]
 decide
theorem g_txt:ptxt gP = [(⟨1,0,0⟩,g1),(⟨2,0,0⟩,g1)]:=by
 simp only[ptxt,gP,List.map_cons,List.map_nil,dec_g1]
theorem gTx {W:PW} {s1 s4 s7:Sl} (h1:Row W 9 1 s1 [[.string g1],[.string gh]]) (h4:Row W 9 1 s4 [[.string gh],[.string g0]]) (h7:Row W 105 1 s7 [[s1.v],[s4.v]]):IsTx W s7 gT:=
 ⟨[s1,s4],⟨_,h7⟩,rfl,fun i hi hi'=>by
  have hi2:i<2:=hi
  rcases(show i=0∨i=1 by omega) with rfl | rfl
  ·exact⟨_,h1⟩
  ·exact⟨_,h4⟩⟩
theorem law13alive_ok {W0:PW} {M:Nat→Prop} :
  PCallsM Go.Proofs.Tryz.prog 10 [] W0 M fun v W'=>v = .bool true∧True:=by
 apply calllaw13_alive
 intro s1 W2 hE2 hO1 hf1 s3 W4 hE4 hO3 hf3 s5 W6 hE6 hO5 hf5
 have ht:=gTx (((hO1.ext hE4).ext hE6).row) (hO3.ext hE6).row hO5.row
 have hnn:NewFrom W6.w.heap.size W6:=Nat.le_refl _
 refine matParse_call hnn ht (by decide) (fun i j=>Nat.le_trans (txt_le g_le i j) (by omega)) fun s9 e W8 hE8 ⟨h1,h2⟩=>⟨s9,e,rfl,?_⟩
 have he:e=0:=by
  apply Decidable.byContradiction
  intro hne
  refine h2 hne ⟨g_good.1,fun i j hi hj=>?_⟩
  have hi2:i<2:=hi
  rcases(show i=0∨i=1 by omega) with rfl | rfl
  ·have hj2:j<2:=hj
   rcases(show j=0∨j=1 by omega) with rfl | rfl
   ·show(parseQ g1).isSome=true;rw[parse_g1];rfl
   ·show(parseQ gh).isSome=true;rw[parse_gh];rfl
  ·have hj2:j<2:=hj
   rcases(show j=0∨j=1 by omega) with rfl | rfl
   ·show(parseQ gh).isSome=true;rw[parse_gh];rfl
   ·show(parseQ g0).isSome=true;rw[parse_g0];rfl
 subst he
 have hm:IsMat 260 62 119 W8 s9 2 (fun _=>tw gT 0) gM:=(h1 rfl).2.mat
 have hm:IsMat 260 62 119 W8 s9 2 (tw gT) gM:=by
  obtain⟨ss,k1,k2,k3⟩:=hm
  refine⟨ss,k1,k2,fun i hi=>?_⟩
  have:=k3 i hi
  rcases(show i=0∨i=1 by omega) with rfl | rfl
  ·exact this
  ·exact this
 refine polyVar_call fun s13 W12 hE12 h13=>⟨s13,rfl,?_⟩
 refine ratOf_call (z:=1) (by unfold I64;omega) fun s16 b17 s18 W15 hE15 h15=>⟨s16,b17,s18,rfl,?_⟩
 refine polyConst_call h15 (Sz.one (show 1≤1 by omega)) (by omega) fun s21 W20 hE20 h21=>⟨s21,rfl,fun s22 W23 hE23 hO22 _=>?_⟩
 rw[g_one] at h21
 rw[g_var] at h13
 have hps:Ps W23 s22 gPs:=⟨_,⟨_,hO22.row⟩,⟨s13,rfl,h13.ext (hE15.trans (hE20.trans hE23))⟩,⟨s21,rfl,h21.ext hE23⟩,trivial⟩
 refine gramForm_call hps (hm.ext (hE12.trans (hE15.trans (hE20.trans hE23)))) g_sys (by omega) gSz fun s26 W25 hE25 h26=>⟨s26,_,rfl,?_⟩
 rw[g_res] at h26⊢
 have h26:IsPoly 260 136 W25 s26 gP:=h26
 refine⟨fun _=>⟨fun _=>?_,fun e=>(by cases e)⟩,fun e=>absurd rfl e⟩
 have hs1: ∀t∈gP,Sz 1 t.2:=fun t ht=>by
  simp only[gP,List.mem_cons,List.not_mem_nil,or_false] at ht
  rcases ht with rfl | rfl<;>exact Sz.one (Nat.le_refl 1)
 refine polyPlain_call h26 hs1 (by omega) (by simp[gP]) fun s30 W29 hE29 h30=>⟨s30,rfl,fun s31 W32 hE32 hO31 _=>?_⟩
 rw[g_txt] at h30
 have h31:IsAPoly W32 s31 [(⟨1,0,0⟩,g1),(⟨2,0,0⟩,g1)]:=⟨_,⟨_,hO31.row⟩,⟨(by decide:(⟨1,0,0⟩:Mon).ok),rfl⟩,⟨(by decide:(⟨2,0,0⟩:Mon).ok),rfl⟩,trivial⟩
 exact sameTerms_call (h30.ext hE32) h31 (by simp) fun W34 hE34 _=>⟨true,rfl,fun W36 _=>⟨rfl,trivial⟩⟩
theorem law13alive_call {W0 W:PW} {M:Nat→Prop} {K:Value→PW→Prop} (kont: ∀(W':PW),Ext W W'→(True)→K (.bool true) W'):
  callN Go.Proofs.Tryz.prog W0 M 10 [] W K:=
 callN_of (fun W' hE=>law13alive_ok (M:=fun _=>False) ) (fun W' v W'' hE hE' hP=>by
  obtain⟨rfl,h⟩:=hP
  exact kont W'' (hE.trans hE') h)
theorem pmap_ok {p:List Tm} (h:POk p) (r:Rat):POk (pmap p r):=fun t ht=>by
 obtain⟨u,hu,rfl⟩:=List.mem_map.1 ht
 exact h u hu
theorem pairs_ok2 {p q:List Tm} (h:MulOK p q):POk (pnorm (ppairs p q)):=POk.norm fun t ht=>by
 obtain⟨a,ha,hm⟩:=List.mem_flatMap.1 ht
 obtain⟨b,hb,rfl⟩:=List.mem_map.1 hm
 exact h a ha b hb
theorem formK_ok {ps:List (List Tm)} {m:Nat→Nat→Rat} (hp:SysOK ps) (hz: ∀i j,Sz 3 (m i j)) {i:Nat} (hi:i<ps.length) {a0:List Tm} {t:Nat} (h0:Bd (cmb t) a0∧PGood a0∧POk a0): ∀{k:Nat} {a:List Tm} (_:k≤ps.length) (_:formK (qat ps) m i (some a0) k=some a),Bd (cmb (t+k)) a∧PGood a∧POk a
 | 0,a,_,h=>by
  simp only[formK,Option.some.injEq] at h
  subst h
  exact h0
 | k+1,a,hk,h=>by
  rw[formK] at h
  unfold stepA at h
  split at h
  ·cases h
  ·rename_i a' ha'
   split at h
   ·rename_i hM
    simp only[Option.some.injEq] at h
    subst h
    have ih:=formK_ok hp hz hi h0 (by omega) ha'
    have m1:=hp.bd _ (List.getElem_mem hi)
    have m2:=hp.bd _ (List.getElem_mem (show k<ps.length by omega))
    rw[qat_at hi,qat_at (show k<ps.length by omega)] at hM⊢
    have hzb:Bd (56029+56029+3) (pmap (pnorm (ppairs ps[i] ps[k])) (m i k)):=Bd.pmap ((m1.1.pairs m2.1).norm) (hz i k)
    refine⟨(ih.1.append hzb.norm).norm.mono ?_,pnorm_good _,(ih.2.2.append (pmap_ok (pairs_ok2 hM) _).norm).norm⟩
    rw[show t+(k+1)=(t+k)+1 by omega,cmb_succ]
    omega
   ·cases h
theorem formI_ok {ps:List (List Tm)} {m:Nat→Nat→Rat} (hp:SysOK ps) (hz: ∀i j,Sz 3 (m i j)): ∀{i:Nat} {a:List Tm} (_:i≤ps.length) (_:formI (qat ps) m ps.length i=some a),Bd (cmb (i*ps.length)) a∧PGood a∧POk a
 | 0,a,_,h=>by
  simp only[formI,Option.some.injEq] at h
  subst h
  exact⟨⟨1,0,trivial,by decide,by rw[nl_one];simp[cmb],by rw[nl_zero];exact Nat.zero_le _⟩,PGood.nil,fun t ht=>by simp at ht⟩
 | i+1,a,hi,h=>by
  rw[formI] at h
  cases hb:formI (qat ps) m ps.length i with
  | none=>
   rw[hb,formK_none (k:=0) rfl _ (Nat.zero_le _)] at h
   cases h
  | some a0=>
   rw[hb] at h
   have:=formK_ok hp hz (by omega) (formI_ok hp hz (by omega) hb) (Nat.le_refl _) h
   rw[Nat.add_mul,Nat.one_mul]
   exact this
theorem formP_bd {ps:List (List Tm)} {r:Nat} {c:Nat→Nat} {m:Nat→Nat→Rat} (hp:SysOK ps) (hz: ∀i j,Sz 3 (m i j)):(∀t∈(formP ps r c m).getD [],Sz 3000000 t.2)∧((formP ps r c m).getD []).length≤16777216:=by
 by_cases hF:FormOK ps r c
 ·rw[formP_good hF]
  cases h:formI (qat ps) m ps.length ps.length with
  | none=>exact⟨fun t ht=>(by cases ht),Nat.zero_le _⟩
  | some a=>
   obtain⟨h1,h2,h3⟩:=formI_ok hp hz (Nat.le_refl _) h
   have hl:=hp.len
   have h4:cmb (ps.length*ps.length)≤3000000:=by
    unfold cmb
    have:=Nat.mul_le_mul_right 112070 (Nat.mul_le_mul hl hl)
    omega
   exact⟨fun t ht=>(h1.mono h4).sz t ht,h2.len h3⟩
 ·rw[formP_bad hF]
  exact⟨fun t ht=>(by cases ht),Nat.zero_le _⟩
def gfI (W0:PW) (n:Nat) (L:List PL) (W:PW):Prop:=match L with
 | [.val (.int .i64 i)]=>∃j:Nat,i=(j:Int)∧j≤n∧Ext W0 W
 | _=>False
theorem gramForms_ok {W0:PW} {M:Nat→Prop} {s t:Sl} {T:List (List (Mon×ByteArray))} {T2:List (List ByteArray)} (h1:IsAPolys W0 s T) (h2:IsTx W0 t T2) (z1: ∀l∈T,l.length≤1099511627776∧∀t∈l,t.2.size≤1099511627776) (z2: ∀l∈T2,l.length≤1099511627776∧∀t∈l,t.size≤1099511627776):
  PCallsM Go.Proofs.Tryz.prog 3 [s.v,t.v] W0 M fun v W'=>v = .bool true∧True:=by
 apply calllaw13_GramForms
 have hn:=h1.n
 have alv: ∀W,callN Go.Proofs.Tryz.prog W0 M 10 [] W fun v11 W12=>∃b13:Bool,v11 = .bool b13∧∀(W14:PW),Ext W12 W14→Value.bool b13 = .bool true∧True:=fun W=>law13alive_call fun W12 _ _=>⟨true,rfl,fun W14 _=>⟨rfl,trivial⟩⟩
 refine lawSystem_call h1 z1 fun s3 s4 b5 W2 hE2 g=>⟨s3,s4,b5,rfl,fun _=>alv _,fun hb5=>law13alive_call fun W11 hE11 _=>⟨true,rfl,fun e=>(by cases e),fun _=>⟨fun _=>alv _,fun h3=>?_⟩⟩⟩
 obtain⟨ps,hof,h4,p1,p2⟩:=g (by simpa using hb5)
 have hpl:=All2.len hof
 have hp:SysOK ps:=⟨fun q hq=>by
  obtain⟨l,ho⟩:=hof.mem hq
  exact⟨ho.bd,ho.len⟩,by omega⟩
 refine⟨gfI W11 T.length,cnL1 T.length,⟨0,rfl,Nat.zero_le _,Ext.refl _⟩,?_⟩
 rintro i23 W24 ⟨j,rfl,hj,hE24⟩
 have hT:=h1.ext (hE2.trans (hE11.trans hE24))
 have hX:=h2.ext (hE2.trans (hE11.trans hE24))
 have p1:=p1.ext (hE11.trans hE24)
 have p2:=p2.ext (hE11.trans hE24)
 refine⟨fun hlt=>?_,fun hge=>?_⟩
 ·have hjl:j<T.length:=by omega
  obtain⟨x,hx,hl⟩:=hT.at hjl
  refine⟨hT.inB (by omega) (by omega),x,hx,fun _ W26 _=>⟨rfl,trivial⟩,fun _=>⟨by unfold I64;omega,⟨j+1,by push_cast;rfl,by omega,hE24⟩,?_⟩⟩
  show T.length-Int.toNat ((j:Int)+1)<T.length-Int.toNat (j:Int)
  omega
 refine lawRaw_call hX (txt_le fun l hl t ht=>(z2 l hl).2 t ht) fun s29 s30 Q W28 hE28 ⟨hM,hRM,hS⟩=>⟨s29,s30,rfl,?_⟩
 have hQ:=hS.1
 refine gramForm_call (p1.ext hE28) hM hp (by omega) hS.sz fun s33 W32 hE32 h33=>⟨s33,_,rfl,?_⟩
 refine refForm_call (p2.ext (hE28.trans hE32)) ((RQMs.mat hRM).ext hE32) hp (by omega) hS.sz fun s37 W36 hE36 h37=>⟨s37,_,rfl,fun _=>?_,fun e=>absurd rfl e⟩
 obtain⟨g1,g2⟩:=formP_bd (r:=Q.length) (c:=qw Q) (m:=qm Q) hp hS.sz
 exact law8Is_call (h33.ext hE36) h37 g1 (by omega) (by omega) fun W40 hE40 _=>⟨true,rfl,fun W42 _=>⟨rfl,trivial⟩⟩
end Go.Proofs.YtjgpenfndnhdnaaGreat

/- Arguments opened: what every kind of argument needs. -/
set_option maxRecDepth 100000
set_option linter.unusedVariables false
set_option linter.unusedSimpArgs false
namespace Go.Proofs.YtjgpenfndnhdnaaGreat
open Go Go.SX Go.ChangeShapes Go.WideShapes Go.ChangeAt Go.RowKit Go.Deep
theorem ownKnob_none:ownKnob Go.Proofs.Tryz.prog.godebug=none:=by kernel_rfl
theorem laidOut:laidOutB Go.Proofs.Tryz.prog=true:=by kernel_rfl
theorem cells_str:Go.Proofs.Tryz.prog.cellsOf 9=1:=by kernel_rfl
theorem cell_block {W:World} {b o:Nat} {v:Value} (h:W.cell? ⟨b,o,none⟩=some v): ∃cs t fz,W.heap[b]?=some (.cells cs t fz)∧cs[o]?=some v:=by
 unfold World.cell? at h
 cases e:W.heap[b]? with
 | none=>simp[e] at h
 | some ob=>
  cases ob with
  | cells cs t fz=>exact⟨cs,t,fz,rfl,by simpa[e] using h⟩
  | _=>simp[e] at h
theorem bulk_one {H:Type} (d:DataW H):1≤Rows.uptoBulk d:=by
 cases d with
 | lit l=>cases l<;>simp[Rows.uptoBulk]
 | nil=>simp[Rows.uptoBulk]
 | ptr d=>simp[Rows.uptoBulk]
 | slice elems spare=>simp[Rows.uptoBulk]
 | agg parts=>simp[Rows.uptoBulk]
 | iface t d=>simp[Rows.uptoBulk]
 | map entries=>simp[Rows.uptoBulk]
 | held h=>simp[Rows.uptoBulk]
theorem bulk_part {H:Type} {d:DataW H} {l:List (DataW H)} (h:d∈l):Rows.uptoBulk d≤Rows.uptoBulkAll l:=by
 induction l with
 | nil=>cases h
 | cons x r ih=>
  simp only[Rows.uptoBulkAll]
  cases List.mem_cons.1 h with
  | inl e=>subst e;omega
  | inr e=>have:=ih e;omega
theorem bulk_length {H:Type} (l:List (DataW H)):l.length≤Rows.uptoBulkAll l:=by
 induction l with
 | nil=>simp[Rows.uptoBulkAll]
 | cons x r ih=>have:=bulk_one x;simp only[Rows.uptoBulkAll,List.length_cons];omega
theorem rowA_of_cellsN {W:World} {a:Addr} {n c sz:Nat} {V:Nat→List Value} (h: ∀j,j<n→∀i v,(V j)[i]?=some v→W.cell? (a.add (j*sz+i))=some v) (hV: ∀j,j<n→(V j).length=sz) (hsz:0<sz) (hn:n≤c) (hc:c≤maxLen) (h1: ∀j,j<n→∀u∈V j,u.oneCell'=true):
  RowA ⟨W,fun _=>False⟩ sz ⟨some a,n,c⟩ ((List.range n).map V):=by
 have hel: ∀x∈(List.range n).map V,x.length=sz∧∀u∈x,u.oneCell'=true:=by
  intro x hx
  obtain⟨j,hj,rfl⟩:=List.mem_map.1 hx
  exact⟨hV j (List.mem_range.1 hj),h1 j (List.mem_range.1 hj)⟩
 by_cases h0:n=0
 ·subst h0
  exact⟨0,rfl,Nat.zero_le _,hc,hel,.inl rfl⟩
 ·obtain⟨b,off,sp⟩:=a
  have hlen0:=hV 0 (by omega)
  obtain⟨v0,hv0⟩: ∃v,(V 0)[0]?=some v:=⟨_,List.getElem?_eq_getElem (by omega)⟩
  have hc0:=h 0 (by omega) 0 v0 hv0
  have hsp:sp=none:=by simpa[Addr.add] using World.cell?_spot hc0
  subst hsp
  obtain⟨cs,t,fz,hh,_⟩:=cell_block (by rw[←add_plain];exact hc0)
  refine⟨t,by simp,hn,hc,hel,.inr ⟨b,off,cs,fz,rfl,id,hh,fun j v hj=>?_⟩⟩
  have hjl:=(List.getElem?_eq_some_iff.1 hj).1
  rw[flatten_length (sz:=sz) (fun x hx=>(hel x hx).1)] at hjl
  simp only[List.length_map,List.length_range] at hjl
  have hi:j/sz<n:=(Nat.div_lt_iff_lt_mul hsz).2 hjl
  have hm:j%sz<sz:=Nat.mod_lt _ hsz
  have e:j/sz*sz+j%sz=j:=by rw[Nat.mul_comm];exact Nat.div_add_mod j sz
  have hx:((List.range n).map V)[j/sz]?=some (V (j/sz)):=by simp[hi]
  have hl:=hV _ hi
  have hf:=flatten_at (sz:=sz) (fun x hx=>(hel x hx).1) hx (j:=j%sz) (v:=(V (j/sz))[j%sz]'(by omega)) (List.getElem?_eq_getElem (by omega))
  rw[e,hj] at hf
  have hcell:=h _ hi (j%sz) v (by rw[hf];exact List.getElem?_eq_getElem (by omega))
  rw[e,add_plain] at hcell
  obtain⟨cs',t',fz',hh',hv⟩:=cell_block hcell
  rw[hh] at hh'
  cases hh'
  exact hv
theorem rowA_of_cells {W:World} {a:Addr} {n c:Nat} {V:Nat→Value} (h: ∀j,j<n→W.cell? (a.add j)=some (V j)) (hn:n≤c) (hc:c≤maxLen) (h1: ∀j,j<n→(V j).oneCell'=true):RowA ⟨W,fun _=>False⟩ 1 ⟨some a,n,c⟩ ((List.range n).map fun j=>[V j]):=by
 have hel: ∀x∈(List.range n).map (fun j=>[V j]),x.length=1∧∀u∈x,u.oneCell'=true:=by
  intro x hx
  obtain⟨j,hj,rfl⟩:=List.mem_map.1 hx
  exact⟨rfl,fun u hu=>by rw[List.mem_singleton.1 hu];exact h1 j (List.mem_range.1 hj)⟩
 by_cases h0:n=0
 ·subst h0
  exact⟨0,rfl,Nat.zero_le _,hc,hel,.inl rfl⟩
 ·obtain⟨b,off,sp⟩:=a
  have hsp:sp=none:=by simpa[Addr.add] using World.cell?_spot (h 0 (by omega))
  subst hsp
  have h': ∀j,j<n→W.cell? ⟨b,off+j,none⟩=some (V j):=fun j hj=>by rw[←add_plain];exact h j hj
  obtain⟨cs,t,fz,hh,_⟩:=cell_block (h' 0 (by omega))
  refine⟨t,by simp,hn,hc,hel,.inr ⟨b,off,cs,fz,rfl,id,hh,fun j v hj=>?_⟩⟩
  have e:((List.range n).map fun j=>[V j]).flatten=(List.range n).map V:=by
   rw[←List.flatMap_def]
   generalize List.range n=l
   induction l with
   | nil=>rfl
   | cons y r ih=>simp[List.flatMap_cons,ih]
  rw[e] at hj
  have hjn:j<n:=by
   have:=(List.getElem?_eq_some_iff.1 hj).1
   simpa using this
  obtain⟨cs',t',fz',hh',hv⟩:=cell_block (h' j hjn)
  rw[hh] at hh'
  cases hh'
  simp[hjn] at hj
  rw[←hj]
  exact hv
end Go.Proofs.YtjgpenfndnhdnaaGreat
