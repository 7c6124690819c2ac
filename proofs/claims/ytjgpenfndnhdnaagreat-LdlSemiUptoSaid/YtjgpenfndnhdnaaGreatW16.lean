/- Tables of texts: mat.Parse, cincturelaw14.even, alive. -/
import Derived.Test.YtjgpenfndnhdnaaGreatW15
import Derived.Test.YtjgpenfndnhdnaaGreatW10
import Derived.Test.YtjgpenfndnhdnaaGreatW8
import Derived.Test.YtjgpenfndnhdnaaGreatR10
import Derived.Test.YtjgpenfndnhdnaaGreatLib3
import Derived.Test.YtjgpenfndnhdnaaGreatLib2
import Derived.Test.YtjgpenfndnhdnaaGreatW13
set_option linter.unusedVariables false
set_option linter.unusedSimpArgs false
set_option maxRecDepth 100000
set_option linter.unusedVariables false
set_option linter.unusedSimpArgs false
namespace Go.Proofs.YtjgpenfndnhdnaaGreat
open Go Go.SX
def tw (T:List (List ByteArray)) (i:Nat):Nat:=(T[i]?.getD []).length
theorem tw_eq {T:List (List ByteArray)} {i:Nat} (h:i<T.length):tw T i=T[i].length:=by
 unfold tw
 rw[List.getElem?_eq_getElem h];rfl
def txt (T:List (List ByteArray)) (i j:Nat):ByteArray:=(T[i]?.getD [])[j]?.getD ⟨⟨[]⟩⟩
theorem txt_eq {T:List (List ByteArray)} {i j:Nat} (h:i<T.length) (hj:j<T[i].length):txt T i j=T[i][j]:=by
 unfold txt
 rw[List.getElem?_eq_getElem h]
 simp[hj]
theorem txEven_ok {W0:PW} {M:Nat→Prop} {s:Sl} {T:List (List ByteArray)} (h:IsTx W0 s T) (hr:T.length≤1099511627776):
  PCallsM Go.Proofs.Tryz.prog 98 [s.v] W0 M fun v W'=>∃(b:Bool),v = .bool b∧(b=true↔RightP T.length (tw T)):=by
 apply callmat_even_string
 have hn:=h.n
 refine⟨fun l W=>match l with | [.val (.int .i64 i)]=>Ext W0 W∧∃k:Nat,i=(k:Int)∧k≤T.length∧∀i,i<k→tw T i=tw T 0 | _=>False,fun l _=>match l with | [.val (.int .i64 i)]=>T.length-i.toNat | _=>0,⟨Ext.refl _,0,rfl,Nat.zero_le _,fun i h=>(by omega)⟩,?_⟩
 rintro i3 W4 ⟨hE4,k,rfl,hk,hck⟩
 have h4:=h.ext hE4
 refine⟨fun hlt=>?_,fun hge=>⟨fun h1=>⟨fun h12=>?_,fun h12=>fun W14 _=>⟨false,rfl,?_⟩⟩,fun h1=>fun W21 _=>⟨false,rfl,?_⟩⟩⟩
 ·obtain⟨x,e1,e2⟩:=h4.at (i:=k) (by omega)
  obtain⟨y,f1,f2⟩:=h4.at (i:=0) (by omega)
  have n1:=e2.nt.trans (tw_eq (by omega)).symm
  have n2:=f2.nt.trans (tw_eq (by omega)).symm
  refine⟨h4.inB (by omega) (by omega),x,e1,h4.inB (by omega) (by omega),y,f1,fun hne W7 _=>⟨false,rfl,?_⟩,fun heq=>⟨by unfold I64;omega,⟨hE4,k+1,by push_cast;rfl,by omega,fun i hi=>?_⟩,?_⟩⟩
  ·refine⟨fun h=>(by cases h),fun h=>?_⟩
   have:=h.1 k (by omega)
   omega
  ·by_cases e:i=k
   ·subst e;omega
   ·exact hck i (by omega)
  ·show T.length-Int.toNat ((k:Int)+1)<T.length-Int.toNat (k:Int)
   omega
 ·have hkr:k=T.length:=by omega
  obtain⟨y,f1,f2⟩:=h4.at (i:=0) (by omega)
  have n2:=f2.nt.trans (tw_eq (by omega)).symm
  have ib:=h4.inB (i:=0) (by omega) (by omega)
  refine⟨ib,y,f1,fun hy=>⟨ib,y,f1,fun W10 _=>⟨_,rfl,?_⟩⟩,fun hy W11 _=>⟨false,rfl,?_⟩⟩
  ·rw[decide_eq_true_iff]
   exact⟨fun h=>⟨fun i hi=>hck i (by omega),by omega,by omega,by omega,by omega⟩,fun h=>by have:=h.2.2.2.2;omega⟩
  ·refine⟨fun h=>(by cases h),fun h=>?_⟩
   have:=h.2.2.2.1
   omega
 ·refine⟨fun h=>(by cases h),fun h=>?_⟩
  have:=h.2.2.1
  omega
 ·refine⟨fun h=>(by cases h),fun h=>?_⟩
  have:=h.2.1
  omega
theorem txEven_call {W0 W:PW} {M:Nat→Prop} {s:Sl} {T:List (List ByteArray)} {K:Value→PW→Prop} (h:IsTx W s T) (hr:T.length≤1099511627776) (kont: ∀(b:Bool) (W':PW),Ext W W'→((b=true↔RightP T.length (tw T)))→K (.bool b) W'):
  callN Go.Proofs.Tryz.prog W0 M 98 [s.v] W K:=
 callN_of (fun W' hE=>txEven_ok (M:=fun _=>False) (h.ext hE) hr) (fun W' v W'' hE hE' hP=>by
  obtain⟨b,rfl,h⟩:=hP
  exact kont b W'' (hE.trans hE') h)
theorem matParse_ok {W0:PW} {M:Nat→Prop} {n0:Nat} {s:Sl} {T:List (List ByteArray)} (hn:NewFrom n0 W0) (h:IsTx W0 s T) (hr:T.length≤1099511627776) (ht: ∀i j,(txt T i j).size≤1099511627776):
  PCallsM Go.Proofs.Tryz.prog 44 [s.v] W0 M fun v W'=>∃(s':Sl),∃(e:Int),v = .tuple #[Sl.v s',.int .i64 e]∧(e=0→RightP T.length (tw T)∧OMat 260 62 119 (n0≤·) W' s' T.length (tw T 0) (fun i j=>(parseQ (txt T i j)).getD 0))∧(e≠0→¬(RightP T.length (tw T)∧∀i j,i<T.length→j<tw T i→(parseQ (txt T i j)).isSome=true)):=by
 apply callmat_Parse
 have hsn:=h.n
 refine txEven_call h hr fun b W2 hE2 hb=>⟨b,rfl,fun hf W4 _=>⟨⟨none,0,0⟩,1,rfl,fun h=>(by cases h),fun _ h=>?_⟩,fun ht'=>?_⟩
 ·rw[hb.2 h.1] at hf;cases hf
 have hbt:b=true:=by simpa using ht'
 have hR:=hb.1 hbt
 have hR':=hR
 obtain⟨hc,hr1,hr12,hc1,hc12⟩:=hR'
 have h2:=h.ext hE2
 obtain⟨y,f1,f2⟩:=h2.at (i:=0) (by omega)
 have ny:=f2.nt.trans (tw_eq (by omega)).symm
 refine⟨h2.inB (by omega) (by omega),y,f1,?_⟩
 rw[ny,hsn]
 obtain⟨n1,hn1⟩: ∃n1,W2.w.heap.size=n1:=⟨_,rfl⟩
 have hle:W2.w.heap.size≤n1:=by omega
 have hn1':NewFrom n1 W2:=by unfold NewFrom;omega
 have h01:W0.w.heap.size≤n1:=Nat.le_trans hE2.size hle
 refine matNone_call hn1' (by omega) (by omega) fun s8 W7 hE7 h8=>⟨s8,rfl,?_⟩
 refine⟨fun l W=>match l with | [.val (.int .i64 i)]=>∃k:Nat,i=(k:Int)∧k≤T.length∧ExtN n1 W2 W∧OMat 260 62 119 (n1≤·) W s8 T.length (tw T 0) (fun a b=>if a<k then(parseQ (txt T a b)).getD 0 else 0) | _=>False,fun l _=>match l with | [.val (.int .i64 i)]=>T.length-i.toNat | _=>0,⟨0,rfl,Nat.zero_le _,hE7.toM _,h8.congr fun i j _ _=>by simp⟩,?_⟩
 rintro i11 W12 ⟨k,rfl,hk,hE12,h12⟩
 refine⟨fun hlt=>?_,fun hge W28 hE28=>⟨s8,0,rfl,fun _=>⟨hR,?_⟩,fun h=>absurd rfl h⟩⟩
 ·have hkr:k<T.length:=by omega
  obtain⟨x,e1,e2⟩:=h2.at (i:=k) hkr
  have nx:=e2.nt.trans (tw_eq hkr).symm
  have hck:=hc k hkr
  have hkt:=tw_eq hkr
  refine⟨(h2.new hE12 hle).inB (by omega) (by omega),x,e1.new hE12 hle,?_⟩
  refine⟨fun l W=>match l with | [.val (.int .i64 i)]=>∃l:Nat,i=(l:Int)∧l≤tw T 0∧ExtN n1 W2 W∧OMat 260 62 119 (n1≤·) W s8 T.length (tw T 0) (fun a b=>if a<k∨(a=k∧b<l) then(parseQ (txt T a b)).getD 0 else 0) | _=>False,fun l _=>match l with | [.val (.int .i64 i)]=>tw T 0-i.toNat | _=>0,⟨0,rfl,Nat.zero_le _,hE12,h12.congr fun i j _ _=>by simp⟩,?_⟩
  rintro i16 W17 ⟨l,rfl,hl,hE17,h17⟩
  refine⟨fun hlt2=>?_,fun hge2=>⟨by unfold I64;omega,⟨k+1,by push_cast;rfl,by omega,hE17,h17.congr fun a b ha hb=>?_⟩,?_⟩⟩
  ·have hlc:l<tw T 0:=by omega
   have e17:=e2.new hE17 hle
   have hlt3:l<T[k].length:=by omega
   have htx:=txt_eq hkr hlt3
   refine⟨e17.inBt (by omega) (by omega),_,e17.text hlt3,?_⟩
   rw[←htx]
   refine ratParse_call (ht k l) fun s21 b22 s23 W20 hE20 h21=>⟨s21,b22,s23,_,rfl,fun hne W25 _=>⟨⟨none,0,0⟩,_,rfl,fun h=>absurd h hne,fun _ hall=>?_⟩,fun heq=>?_⟩
   ·have:=hall.2 k l hkr (by omega)
    rw[er_ne hne] at this
    cases this
   ·have h20:=h17.ext hE20
    obtain⟨z,z1,z2⟩:=h20.mat.at (i:=k) hkr
    refine⟨h20.mat.inB (by omega) (by omega),z,z1,z2.inB (by omega) (by omega),?_⟩
    refine h20.store (j:=l) z1 hkr hlc h21 (by decide) (by decide) (fun g hg=>.inr (Nat.le_trans h01 hg)) fun W22 hp h22=>⟨by unfold I64;omega,⟨l+1,by push_cast;rfl,by omega,(hE17.trans (hE20.toM _)).trans (hp.extN fun g hg=>hg),h22.congr fun a b ha hb=>?_⟩,?_⟩
    ·unfold setM
     by_cases e:a=k∧b=l
     ·rw[if_pos e,if_pos (by omega),e.1,e.2]
     ·rw[if_neg e]
      dsimp only
      by_cases e':a<k∨(a=k∧b<l)
      ·rw[if_pos e',if_pos (by omega)]
      ·rw[if_neg e',if_neg (by omega)]
    ·show tw T 0-Int.toNat ((l:Int)+1)<tw T 0-Int.toNat (l:Int)
     omega
  ·by_cases e':a<k∨(a=k∧b<l)
   ·rw[if_pos e',if_pos (by omega)]
   ·rw[if_neg e',if_neg (by omega)]
  ·show T.length-Int.toNat ((k:Int)+1)<T.length-Int.toNat (k:Int)
   omega
 ·refine((h12.ext hE28).mono fun g hg=>Nat.le_trans (hn.ext hE2) (Nat.le_trans hle hg)).congr fun a b ha hb=>?_
  rw[if_pos (by omega)]
theorem matParse_call {W0 W:PW} {M:Nat→Prop} {n0:Nat} {s:Sl} {T:List (List ByteArray)} {K:Value→PW→Prop} (hn:NewFrom n0 W) (h:IsTx W s T) (hr:T.length≤1099511627776) (ht: ∀i j,(txt T i j).size≤1099511627776) (kont: ∀(s':Sl) (e:Int) (W':PW),Ext W W'→((e=0→RightP T.length (tw T)∧OMat 260 62 119 (n0≤·) W' s' T.length (tw T 0) (fun i j=>(parseQ (txt T i j)).getD 0))∧(e≠0→¬(RightP T.length (tw T)∧∀i j,i<T.length→j<tw T i→(parseQ (txt T i j)).isSome=true)))→K (.tuple #[Sl.v s',.int .i64 e]) W'):
  callN Go.Proofs.Tryz.prog W0 M 44 [s.v] W K:=
 callN_of (fun W' hE=>matParse_ok (M:=fun _=>False) (hn.ext hE) (h.ext hE) hr ht) (fun W' v W'' hE hE' hP=>by
  obtain⟨s',e,rfl,h⟩:=hP
  exact kont s' e W'' (hE.trans hE') h)
end Go.Proofs.YtjgpenfndnhdnaaGreat

/- cincturelaw11.Raw. -/
set_option maxRecDepth 100000
set_option linter.unusedVariables false
set_option linter.unusedSimpArgs false
namespace Go.Proofs.YtjgpenfndnhdnaaGreat
open Go Go.SX
theorem and_dup {p:Prop} (h:p):dup 1 p∧p:=⟨dup_of h 1,h⟩
def QL (t:TypeId) (W:PW) (xs:List (List Value)) (qs:List Rat):Prop:=xs.length=qs.length∧∀i (h:i<qs.length),∃(s:Sl) (b:Bool) (s':Sl),xs[i]?=some [s.v,.bool b,s'.v]∧IsRat t W s b s' qs[i]
def RQL (t:TypeId) (W:PW) (xs:List (List Value)) (qs:List Rat):Prop:=xs.length=qs.length∧∀i (h:i<qs.length),∃(b:Bool) (s s':Sl),xs[i]?=some [.bool b,s.v,s'.v]∧IsRefQ t W b s s' qs[i]
theorem QL.ext {t:TypeId} {W W':PW} {xs:List (List Value)} {qs:List Rat} (h:QL t W xs qs) (hE:Ext W W'):QL t W' xs qs:=⟨h.1,fun i hi=>let⟨s,b,s',h1,h2⟩:=h.2 i hi;⟨s,b,s',h1,h2.ext hE⟩⟩
theorem RQL.ext {t:TypeId} {W W':PW} {xs:List (List Value)} {qs:List Rat} (h:RQL t W xs qs) (hE:Ext W W'):RQL t W' xs qs:=⟨h.1,fun i hi=>let⟨b,s,s',h1,h2⟩:=h.2 i hi;⟨b,s,s',h1,h2.ext hE⟩⟩
theorem QL.snoc {t:TypeId} {W:PW} {xs:List (List Value)} {qs:List Rat} {s s':Sl} {b:Bool} {q:Rat} (h:QL t W xs qs) (hq:IsRat t W s b s' q):QL t W (xs ++ [[s.v,.bool b,s'.v]]) (qs ++ [q]):=by
 refine⟨by simp[h.1],fun i hi=>?_⟩
 by_cases e:i<qs.length
 ·obtain⟨a,c,d,h1,h2⟩:=h.2 i e
  exact⟨a,c,d,by rw[List.getElem?_append_left (by rw[h.1];exact e)];exact h1,by rw[List.getElem_append_left e];exact h2⟩
 ·have:i=qs.length:=by simp at hi;omega
  subst this
  exact⟨s,b,s',by rw[List.getElem?_append_right (by rw[h.1];exact Nat.le_refl _),h.1];simp,by rw[List.getElem_concat_length rfl];exact hq⟩
theorem RQL.snoc {t:TypeId} {W:PW} {xs:List (List Value)} {qs:List Rat} {s s':Sl} {b:Bool} {q:Rat} (h:RQL t W xs qs) (hq:IsRefQ t W b s s' q):RQL t W (xs ++ [[.bool b,s.v,s'.v]]) (qs ++ [q]):=by
 refine⟨by simp[h.1],fun i hi=>?_⟩
 by_cases e:i<qs.length
 ·obtain⟨a,c,d,h1,h2⟩:=h.2 i e
  exact⟨a,c,d,by rw[List.getElem?_append_left (by rw[h.1];exact e)];exact h1,by rw[List.getElem_append_left e];exact h2⟩
 ·have:i=qs.length:=by simp at hi;omega
  subst this
  exact⟨b,s,s',by rw[List.getElem?_append_right (by rw[h.1];exact Nat.le_refl _),h.1];simp,by rw[List.getElem_concat_length rfl];exact hq⟩
def QMs (t tq:TypeId) (W:PW) (ss:List Sl) (Q:List (List Rat)):Prop:=ss.length=Q.length∧∀i (h:i<ss.length) (h':i<Q.length),∃xs,Row W tq 3 ss[i] xs∧QL t W xs Q[i]
def RQMs (t tq:TypeId) (W:PW) (ss:List Sl) (Q:List (List Rat)):Prop:=ss.length=Q.length∧∀i (h:i<ss.length) (h':i<Q.length),∃xs,Row W tq 3 ss[i] xs∧RQL t W xs Q[i]
theorem QMs.ext {t tq:TypeId} {W W':PW} {ss:List Sl} {Q:List (List Rat)} (h:QMs t tq W ss Q) (hE:Ext W W'):QMs t tq W' ss Q:=⟨h.1,fun i hi hi'=>let⟨xs,h1,h2⟩:=h.2 i hi hi';⟨xs,h1.ext hE,h2.ext hE⟩⟩
theorem RQMs.ext {t tq:TypeId} {W W':PW} {ss:List Sl} {Q:List (List Rat)} (h:RQMs t tq W ss Q) (hE:Ext W W'):RQMs t tq W' ss Q:=⟨h.1,fun i hi hi'=>let⟨xs,h1,h2⟩:=h.2 i hi hi';⟨xs,h1.ext hE,h2.ext hE⟩⟩
theorem QMs.snoc {t tq:TypeId} {W:PW} {ss:List Sl} {Q:List (List Rat)} {s:Sl} {xs:List (List Value)} {qs:List Rat} (h:QMs t tq W ss Q) (hr:Row W tq 3 s xs) (hq:QL t W xs qs):QMs t tq W (ss ++ [s]) (Q ++ [qs]):=by
 refine⟨by simp[h.1],fun i hi hi'=>?_⟩
 by_cases e:i<ss.length
 ·rw[List.getElem_append_left e,List.getElem_append_left (by have:=h.1;omega)]
  exact h.2 i e _
 ·have:i=ss.length:=by simp at hi;omega
  subst this
  have e2:(Q ++ [qs])[ss.length]'hi'=qs:=by
   rw[List.getElem_append_right (by rw[h.1];exact Nat.le_refl _)]
   simp[h.1]
  rw[List.getElem_concat_length rfl,e2]
  exact⟨xs,hr,hq⟩
theorem RQMs.snoc {t tq:TypeId} {W:PW} {ss:List Sl} {Q:List (List Rat)} {s:Sl} {xs:List (List Value)} {qs:List Rat} (h:RQMs t tq W ss Q) (hr:Row W tq 3 s xs) (hq:RQL t W xs qs):RQMs t tq W (ss ++ [s]) (Q ++ [qs]):=by
 refine⟨by simp[h.1],fun i hi hi'=>?_⟩
 by_cases e:i<ss.length
 ·rw[List.getElem_append_left e,List.getElem_append_left (by have:=h.1;omega)]
  exact h.2 i e _
 ·have:i=ss.length:=by simp at hi;omega
  subst this
  have e2:(Q ++ [qs])[ss.length]'hi'=qs:=by
   rw[List.getElem_append_right (by rw[h.1];exact Nat.le_refl _)]
   simp[h.1]
  rw[List.getElem_concat_length rfl,e2]
  exact⟨xs,hr,hq⟩
def qw (Q:List (List Rat)) (i:Nat):Nat:=(Q[i]?.getD []).length
def qm (Q:List (List Rat)) (i j:Nat):Rat:=(Q[i]?.getD [])[j]?.getD 0
theorem QMs.mat {t tq ts:TypeId} {W:PW} {s:Sl} {ss:List Sl} {Q:List (List Rat)} (h:QMs t tq W ss Q) (hr:Row W ts 1 s (ss.map fun x=>[x.v])):IsMat t tq ts W s Q.length (qw Q) (qm Q):=by
 refine⟨ss,hr,h.1,fun i hi=>?_⟩
 have hi':i<Q.length:=by have:=h.1;omega
 obtain⟨xs,h1,h2⟩:=h.2 i hi hi'
 have e:Q[i]?.getD []=Q[i]:=by rw[List.getElem?_eq_getElem hi'];rfl
 refine⟨xs,h1,by unfold qw;rw[e];exact h2.1,fun j hj=>?_⟩
 unfold qw at hj
 rw[e] at hj
 obtain⟨a,b,c,k1,k2⟩:=h2.2 j hj
 refine⟨a,b,c,k1,?_⟩
 unfold qm
 rw[e,List.getElem?_eq_getElem hj]
 exact k2
def IsRefMat (t tq ts:TypeId) (W:PW) (s:Sl) (Q:List (List Rat)):Prop:=∃ss:List Sl,Row W ts 1 s (ss.map fun x=>[x.v])∧RQMs t tq W ss Q
def Small (Q:List (List Rat)):Prop:=Q.length≤5∧∀qs∈Q,qs.length≤5∧∀q∈qs,Sz 3 q
theorem Small.sz {Q:List (List Rat)} (h:Small Q) (i j:Nat):Sz 3 (qm Q i j):=by
 unfold qm
 cases e:Q[i]? with
 | none=>exact Sz.zero (by omega)
 | some qs=>
  show Sz 3 (qs[j]?.getD 0)
  cases e2:qs[j]? with
  | none=>exact Sz.zero (by omega)
  | some q=>exact(h.2 qs (List.mem_of_getElem? e)).2 q (List.mem_of_getElem? e2)
def rawI (W0:PW) (n:Nat) (l:List PL) (W:PW):Prop:=
 match l with
 | [.row l3,.row l4,.val (.int .i64 i)]=>Ext W0 W∧∃(ss ss':List Sl) (Q:List (List Rat)),l3=(ss.map fun x=>[x.v])∧l4=(ss'.map fun x=>[x.v])∧i=(Q.length:Int)∧Q.length≤n∧QMs 260 62 W ss Q∧RQMs 260 96 W ss' Q∧Small Q
 | _=>False
def rawI2 (W6:PW) (n:Nat) (l:List PL) (W:PW):Prop:=
 match l with
 | [.row l9,.row l10,.val (.int .i64 i)]=>Ext W6 W∧∃(qs:List Rat) (j:Nat),i=(j:Int)∧qs.length≤j∧j≤5∧j≤n∧QL 260 W l9 qs∧RQL 260 W l10 qs∧∀q∈qs,Sz 3 q
 | _=>False
def rawM (n:Nat) (l:List PL) (W:PW):Nat:=
 match l with
 | [_,_,.val (.int .i64 i)]=>n-i.toNat
 | _=>0
theorem lawRaw_ok {W0:PW} {M:Nat→Prop} {s:Sl} {T:List (List ByteArray)} (h:IsTx W0 s T) (hT: ∀i j,(txt T i j).size≤1099511627776):
  PCallsM Go.Proofs.Tryz.prog 11 [s.v] W0 M fun v W'=>∃(m:Sl),∃(x:Sl),∃(Q:List (List Rat)),v = .tuple #[Sl.v m,Sl.v x]∧IsMat 260 62 119 W' m Q.length (qw Q) (qm Q)∧IsRefMat 260 96 120 W' x Q∧Small Q:=by
 apply calllaw11_Raw
 have hn:=h.n
 refine⟨rawI W0 T.length,rawM T.length,⟨Ext.refl _,[],[],[],rfl,rfl,rfl,Nat.zero_le _,⟨rfl,fun i h=>by simp at h⟩,⟨rfl,fun i h=>by simp at h⟩,by simp,fun qs h=>by simp at h⟩,?_⟩
 rintro l3 l4 i5 W6 ⟨hE6,ss,ss',Q,rfl,rfl,rfl,hQn,hQ,hR,hSm⟩
 refine⟨fun hlt=>⟨fun h5=>?_,fun h5=>?_⟩,fun hge=>?_⟩
 rotate_left
 ·intro s104 W105 hE105 hO105 hf105 s107 W108 hE108 hO108 hf108 W110 hE110
  exact⟨s104,s107,Q,rfl,(((hQ.ext hE105).ext hE108).ext hE110).mat ((hO105.ext hE108).ext hE110).row,⟨ss',(hO108.ext hE110).row,((hR.ext hE105).ext hE108).ext hE110⟩,hSm⟩
 ·intro s104 W105 hE105 hO105 hf105 s107 W108 hE108 hO108 hf108 W110 hE110
  exact⟨s104,s107,Q,rfl,(((hQ.ext hE105).ext hE108).ext hE110).mat ((hO105.ext hE108).ext hE110).row,⟨ss',(hO108.ext hE110).row,((hR.ext hE105).ext hE108).ext hE110⟩,hSm⟩
 have hk:Q.length<T.length:=by omega
 have h6:=h.ext hE6
 have hS1:=hSm.1
 obtain⟨r,e1,e2⟩:=h6.at (i:=Q.length) hk
 have nr:=e2.nt
 refine⟨rawI2 W6 T[Q.length].length,rawM T[Q.length].length,⟨Ext.refl _,[],0,rfl,Nat.le_refl _,by omega,Nat.zero_le _,⟨rfl,fun i h=>by simp at h⟩,⟨rfl,fun i h=>by simp at h⟩,fun q h=>by simp at h⟩,?_⟩
 rintro l9 l10 i11 W12 ⟨hE12,qs,j,rfl,hqj,hj5,hjn,hl9,hl10,hsz⟩
 have ib:inB s (Q.length:Int):=h6.inB (by omega) (by omega)
 refine⟨ib,r,e1.ext hE12,fun hlt2=>⟨fun h52=>?_,fun h52=>?_⟩,fun hge2=>?_⟩
 rotate_left
 ·intro s27 W28 hE28 hO28 hf28
  refine⟨by simp only[List.length_map,hQ.1,List.length_cons,List.length_nil];omega,fun s30 W31 hE31 hO31 hf31=>⟨by simp only[List.length_map,hR.1,List.length_cons,List.length_nil];omega,by unfold I64;omega,⟨((hE6.trans hE12).trans hE28).trans hE31,ss ++ [s27],ss' ++ [s30],Q ++ [qs],by simp,by simp,by simp,by simp;omega,(((hQ.ext hE12).ext hE28).ext hE31).snoc (hO28.ext hE31).row ((hl9.ext hE28).ext hE31),(((hR.ext hE12).ext hE28).ext hE31).snoc hO31.row ((hl10.ext hE28).ext hE31),by simp;omega,fun q hq=>?_⟩,?_⟩⟩
  ·rcases List.mem_append.1 hq with h | h
   ·exact hSm.2 q h
   ·rw[List.mem_singleton.1 h]
    exact⟨by omega,hsz⟩
  ·show T.length-Int.toNat ((Q.length:Int)+1)<T.length-Int.toNat (Q.length:Int)
   omega
 ·intro s27 W28 hE28 hO28 hf28
  refine⟨by simp only[List.length_map,hQ.1,List.length_cons,List.length_nil];omega,fun s30 W31 hE31 hO31 hf31=>⟨by simp only[List.length_map,hR.1,List.length_cons,List.length_nil];omega,by unfold I64;omega,⟨((hE6.trans hE12).trans hE28).trans hE31,ss ++ [s27],ss' ++ [s30],Q ++ [qs],by simp,by simp,by simp,by simp;omega,(((hQ.ext hE12).ext hE28).ext hE31).snoc (hO28.ext hE31).row ((hl9.ext hE28).ext hE31),(((hR.ext hE12).ext hE28).ext hE31).snoc hO31.row ((hl10.ext hE28).ext hE31),by simp;omega,fun q hq=>?_⟩,?_⟩⟩
  ·rcases List.mem_append.1 hq with h | h
   ·exact hSm.2 q h
   ·rw[List.mem_singleton.1 h]
    exact⟨by omega,hsz⟩
  ·show T.length-Int.toNat ((Q.length:Int)+1)<T.length-Int.toNat (Q.length:Int)
   omega
 have hjT:j<T[Q.length].length:=by omega
 have r12:=e2.ext hE12
 have htx:=txt_eq hk hjT
 refine⟨ib,r,e1.ext hE12,r12.inBt (by omega) (by omega),_,r12.text hjT,?_⟩
 rw[←htx]
 obtain⟨t,ht⟩: ∃t,txt T Q.length j=t:=⟨_,rfl⟩
 rw[ht] at htx⊢
 have hts:t.size≤1099511627776:=by rw[←ht];exact hT _ _
 have next: ∀W17,Ext W12 W17→I64 ((j:Int)+1)∧rawI2 W6 T[Q.length].length [PL.row l9,PL.row l10,PL.val (Value.int IntKind.i64 ((j:Int)+1))] W17∧rawM T[Q.length].length [PL.row l9,PL.row l10,PL.val (Value.int IntKind.i64 ((j:Int)+1))] W17<rawM T[Q.length].length [PL.row l9,PL.row l10,PL.val (Value.int IntKind.i64 (j:Int))] W12:=by
  intro W17 hE17
  refine⟨by unfold I64;omega,⟨hE12.trans hE17,qs,j+1,by push_cast;rfl,by omega,by omega,by omega,hl9.ext hE17,hl10.ext hE17,hsz⟩,?_⟩
  show T[Q.length].length-Int.toNat ((j:Int)+1)<T[Q.length].length-Int.toNat (j:Int)
  omega
 refine law3Num_call hts fun s18 b19 s20 b21 s22 s23 W17 hE17 ⟨h18,h22⟩=>⟨s18,b19,s20,b21,s22,s23,_,rfl,fun hb=>?_,fun hb=>next W17 hE17⟩
 obtain⟨q,hq⟩:=Option.isSome_iff_exists.1 hb
 rw[hq] at h18 h22
 have h18:IsRat 260 W17 s18 b19 s20 q:=h18
 have h22:IsRefQ 260 W17 b21 s22 s23 q:=h22
 have r17:=r12.ext hE17
 have et:=r17.text hjT
 rw[←htx] at et
 refine⟨ib,r,(e1.ext hE12).ext hE17,r17.inBt (by omega) (by omega),t,et,fun h20=>?_,fun h20=>next W17 hE17⟩
 refine and_dup ?_
 have hqs:Sz 3 q:=by
  unfold numQ at hq
  rw[if_pos (by omega)] at hq
  exact(parseQ_sz hq).2 (by omega)
 refine⟨by rw[hl9.1];simp only[List.length_cons,List.length_nil];omega,by rw[hl10.1];simp only[List.length_cons,List.length_nil];omega,by unfold I64;omega,⟨hE12.trans hE17,qs ++ [q],j+1,by push_cast;rfl,by simp;omega,by omega,by omega,(hl9.ext hE17).snoc h18,(hl10.ext hE17).snoc h22,fun q' hq'=>?_⟩,?_⟩
 ·rcases List.mem_append.1 hq' with h | h
  ·exact hsz q' h
  ·rw[List.mem_singleton.1 h];exact hqs
 ·show T[Q.length].length-Int.toNat ((j:Int)+1)<T[Q.length].length-Int.toNat (j:Int)
  omega
theorem lawRaw_call {W0 W:PW} {M:Nat→Prop} {s:Sl} {T:List (List ByteArray)} {K:Value→PW→Prop} (h:IsTx W s T) (hT: ∀i j,(txt T i j).size≤1099511627776) (kont: ∀(m:Sl) (x:Sl) (Q:List (List Rat)) (W':PW),Ext W W'→(IsMat 260 62 119 W' m Q.length (qw Q) (qm Q)∧IsRefMat 260 96 120 W' x Q∧Small Q)→K (.tuple #[Sl.v m,Sl.v x]) W'):
  callN Go.Proofs.Tryz.prog W0 M 11 [s.v] W K:=
 callN_of (fun W' hE=>lawRaw_ok (M:=fun _=>False) (h.ext hE) hT) (fun W' v W'' hE hE' hP=>by
  obtain⟨m,x,Q,rfl,h⟩:=hP
  exact kont m x Q W'' (hE.trans hE') h)
end Go.Proofs.YtjgpenfndnhdnaaGreat

/- The matrix of the document's program as a function. -/
set_option linter.unusedVariables false
namespace Go.Proofs.YtjgpenfndnhdnaaGreat
open Go Go.SX
end Go.Proofs.YtjgpenfndnhdnaaGreat

/- cincturelaw13.GramForms. -/
set_option maxRecDepth 100000
set_option linter.unusedVariables false
set_option linter.unusedSimpArgs false
namespace Go.Proofs.YtjgpenfndnhdnaaGreat
open Go Go.SX
def g0:ByteArray:=⟨⟨[48]⟩⟩
def g1:ByteArray:=⟨⟨[49]⟩⟩
theorem pmap_ok {p:List Tm} (h:POk p) (r:Rat):POk (pmap p r):=fun t ht=>by
 obtain⟨u,hu,rfl⟩:=List.mem_map.1 ht
 exact h u hu
theorem pairs_ok2 {p q:List Tm} (h:MulOK p q):POk (pnorm (ppairs p q)):=POk.norm fun t ht=>by
 obtain⟨a,ha,hm⟩:=List.mem_flatMap.1 ht
 obtain⟨b,hb,rfl⟩:=List.mem_map.1 hm
 exact h a ha b hb
theorem formK_ok {ps:List (List Tm)} {m:Nat→Nat→Rat} (hp:SysOK ps) (hz: ∀i j,Sz 3 (m i j)) {i:Nat} (hi:i<ps.length) {a0:List Tm} {t:Nat} (h0:Bd (cmb t) a0∧PGood a0∧POk a0): ∀{k:Nat} {a:List Tm} (_:k≤ps.length) (_:formK (qat ps) m i (some a0) k=some a),Bd (cmb (t+k)) a∧PGood a∧POk a
 | 0,a,_,h=>by
  simp only[formK,Option.some.injEq] at h
  subst h
  exact h0
 | k+1,a,hk,h=>by
  rw[formK] at h
  unfold stepA at h
  split at h
  ·cases h
  ·rename_i a' ha'
   split at h
   ·rename_i hM
    simp only[Option.some.injEq] at h
    subst h
    have ih:=formK_ok hp hz hi h0 (by omega) ha'
    have m1:=hp.bd _ (List.getElem_mem hi)
    have m2:=hp.bd _ (List.getElem_mem (show k<ps.length by omega))
    rw[qat_at hi,qat_at (show k<ps.length by omega)] at hM⊢
    have hzb:Bd (56029+56029+3) (pmap (pnorm (ppairs ps[i] ps[k])) (m i k)):=Bd.pmap ((m1.1.pairs m2.1).norm) (hz i k)
    refine⟨(ih.1.append hzb.norm).norm.mono ?_,pnorm_good _,(ih.2.2.append (pmap_ok (pairs_ok2 hM) _).norm).norm⟩
    rw[show t+(k+1)=(t+k)+1 by omega,cmb_succ]
    omega
   ·cases h
theorem formI_ok {ps:List (List Tm)} {m:Nat→Nat→Rat} (hp:SysOK ps) (hz: ∀i j,Sz 3 (m i j)): ∀{i:Nat} {a:List Tm} (_:i≤ps.length) (_:formI (qat ps) m ps.length i=some a),Bd (cmb (i*ps.length)) a∧PGood a∧POk a
 | 0,a,_,h=>by
  simp only[formI,Option.some.injEq] at h
  subst h
  exact⟨⟨1,0,trivial,by decide,by rw[nl_one];simp[cmb],by rw[nl_zero];exact Nat.zero_le _⟩,PGood.nil,fun t ht=>by simp at ht⟩
 | i+1,a,hi,h=>by
  rw[formI] at h
  cases hb:formI (qat ps) m ps.length i with
  | none=>
   rw[hb,formK_none (k:=0) rfl _ (Nat.zero_le _)] at h
   cases h
  | some a0=>
   rw[hb] at h
   have:=formK_ok hp hz (by omega) (formI_ok hp hz (by omega) hb) (Nat.le_refl _) h
   rw[Nat.add_mul,Nat.one_mul]
   exact this
end Go.Proofs.YtjgpenfndnhdnaaGreat

/- mat: Turn, Mul, Same; ldl: symmetric, left. -/
set_option maxRecDepth 100000
set_option linter.unusedVariables false
set_option linter.unusedSimpArgs false
namespace Go.Proofs.YtjgpenfndnhdnaaGreat
open Go Go.SX
theorem matTurn_ok {W0:PW} {M:Nat→Prop} {n0 r:Nat} {s:Sl} {c:Nat→Nat} {m:Nat→Nat→Rat} (hn:NewFrom n0 W0) (h:IsMat 260 62 119 W0 s r c m) (hr:r≤1099511627776):
  PCallsM Go.Proofs.Tryz.prog 22 [s.v] W0 M fun v W'=>∃(s':Sl),∃(b:Bool),v = .tuple #[Sl.v s',.bool b]∧((b=true↔RightP r c)∧(RightP r c→OMat 260 62 119 (n0≤·) W' s' (c 0) r (fun i j=>m j i))):=by
 apply callmat_Turn
 have hsn:=h.n
 refine matRight_call h hr fun b W2 hE2 hb=>⟨b,rfl,fun hf W4 hE4=>⟨⟨none,0,0⟩,false,rfl,?_,?_⟩,fun ht=>?_⟩
 ·have:b=false:=by simpa using hf
  rw[this] at hb
  exact hb
 ·intro hR
  have:=hb.2 hR
  rw[this] at hf
  cases hf
 have hbt:b=true:=by simpa using ht
 have hR:=hb.1 hbt
 obtain⟨hc,hr1,hr12,hc1,hc12⟩:=hR
 have h2:=h.ext hE2
 obtain⟨y,f1,f2⟩:=h2.at (i:=0) (by omega)
 have ny:=f2.n
 refine⟨h2.inB (by omega) (by omega),y,f1,?_⟩
 rw[ny,hsn]
 obtain⟨n1,hn1⟩: ∃n1,W2.w.heap.size=n1:=⟨_,rfl⟩
 have hle:W2.w.heap.size≤n1:=by omega
 have hn1':NewFrom n1 W2:=by unfold NewFrom;omega
 have h01:W0.w.heap.size≤n1:=Nat.le_trans hE2.size hle
 refine matNone_call hn1' (by omega) (by omega) fun s8 W7 hE7 h8=>⟨s8,rfl,?_⟩
 refine⟨fun l W=>match l with | [.val (.int .i64 i)]=>∃k:Nat,i=(k:Int)∧k≤r∧ExtN n1 W2 W∧OMat 260 62 119 (n1≤·) W s8 (c 0) r (fun a b=>if b<k then m b a else 0) | _=>False,fun l _=>match l with | [.val (.int .i64 i)]=>r-i.toNat | _=>0,⟨0,rfl,Nat.zero_le _,hE7.toM _,h8.congr fun i j _ _=>by simp⟩,?_⟩
 rintro i11 W12 ⟨k,rfl,hk,hE12,h12⟩
 refine⟨fun hlt=>?_,fun hge W23 hE23=>⟨s8,true,rfl,⟨fun _=>hb.1 hbt,fun _=>rfl⟩,fun _=>?_⟩⟩
 ·have hkr:k<r:=by omega
  obtain⟨x,e1,e2⟩:=h2.at (i:=k) hkr
  have nx:=e2.n
  have hck:=hc k hkr
  refine⟨(h2.new hE12 hle).inB (by omega) (by omega),x,e1.new hE12 hle,?_⟩
  refine⟨fun l W=>match l with | [.val (.int .i64 i)]=>∃l:Nat,i=(l:Int)∧l≤c 0∧ExtN n1 W2 W∧OMat 260 62 119 (n1≤·) W s8 (c 0) r (fun a b=>if b<k∨(b=k∧a<l) then m b a else 0) | _=>False,fun l _=>match l with | [.val (.int .i64 i)]=>c 0-i.toNat | _=>0,⟨0,rfl,Nat.zero_le _,hE12,h12.congr fun i j _ _=>by simp⟩,?_⟩
  rintro i16 W17 ⟨l,rfl,hl,hE17,h17⟩
  refine⟨fun hlt2=>?_,fun hge2=>⟨by unfold I64;omega,⟨k+1,by push_cast;rfl,by omega,hE17,h17.congr fun a b ha hb=>?_⟩,?_⟩⟩
  ·have hlc:l<c 0:=by omega
   have e17:=e2.new hE17 hle
   obtain⟨s18,b19,s20,g1,g2⟩:=e17.at (i:=l) (by omega)
   obtain⟨z,z1,z2⟩:=h17.mat.at (i:=l) hlc
   refine⟨e17.inB (by omega) (by omega),s18,b19,s20,g1,h17.mat.inB (by omega) (by omega),z,z1,z2.inB (by omega) (by omega),?_⟩
   refine h17.store (j:=k) z1 hlc hkr g2 (by decide) (by decide) (fun g hg=>.inr (Nat.le_trans h01 hg)) fun W22 hp h22=>⟨by unfold I64;omega,⟨l+1,by push_cast;rfl,by omega,hE17.trans (hp.extN fun g hg=>hg),h22.congr fun a b ha hb=>?_⟩,?_⟩
   ·unfold setM
    by_cases e:a=l∧b=k
    ·rw[if_pos e,if_pos (by omega),e.1,e.2]
    ·rw[if_neg e]
     dsimp only
     by_cases e':b<k∨(b=k∧a<l)
     ·rw[if_pos e',if_pos (by omega)]
     ·rw[if_neg e',if_neg (by omega)]
   ·show c 0-Int.toNat ((l:Int)+1)<c 0-Int.toNat (l:Int)
    omega
  ·by_cases e':b<k∨(b=k∧a<l)
   ·rw[if_pos e',if_pos (by omega)]
   ·rw[if_neg e',if_neg (by omega)]
  ·show r-Int.toNat ((k:Int)+1)<r-Int.toNat (k:Int)
   omega
 ·refine((h12.ext hE23).mono fun g hg=>Nat.le_trans (hn.ext hE2) (Nat.le_trans hle hg)).congr fun a b ha hb=>?_
  rw[if_pos (by omega)]
theorem matTurn_call {W0 W:PW} {M:Nat→Prop} {n0 r:Nat} {s:Sl} {c:Nat→Nat} {m:Nat→Nat→Rat} {K:Value→PW→Prop} (hn:NewFrom n0 W) (h:IsMat 260 62 119 W s r c m) (hr:r≤1099511627776) (kont: ∀(s':Sl) (b:Bool) (W':PW),Ext W W'→(((b=true↔RightP r c)∧(RightP r c→OMat 260 62 119 (n0≤·) W' s' (c 0) r (fun i j=>m j i))))→K (.tuple #[Sl.v s',.bool b]) W'):
  callN Go.Proofs.Tryz.prog W0 M 22 [s.v] W K:=
 callN_of (fun W' hE=>matTurn_ok (M:=fun _=>False) (hn.ext hE) (h.ext hE) hr) (fun W' v W'' hE hE' hP=>by
  obtain⟨s',b,rfl,h⟩:=hP
  exact kont s' b W'' (hE.trans hE') h)
end Go.Proofs.YtjgpenfndnhdnaaGreat
