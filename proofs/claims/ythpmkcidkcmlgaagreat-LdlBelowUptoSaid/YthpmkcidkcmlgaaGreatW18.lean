/- cincturelaw11.Raw. -/
import Derived.Test.YthpmkcidkcmlgaaGreatW17
import Derived.Test.YthpmkcidkcmlgaaGreatLib2
import Derived.Test.YthpmkcidkcmlgaaGreatW13
import Derived.Test.YthpmkcidkcmlgaaGreatW6
import Derived.Test.YthpmkcidkcmlgaaGreatR11
import Derived.Test.YthpmkcidkcmlgaaGreatW14
import Derived.Test.YthpmkcidkcmlgaaGreatR13
import Derived.Test.YthpmkcidkcmlgaaGreatLib4
set_option linter.unusedVariables false
set_option linter.unusedSimpArgs false
set_option maxRecDepth 100000
set_option linter.unusedVariables false
set_option linter.unusedSimpArgs false
namespace Go.Proofs.YthpmkcidkcmlgaaGreat
open Go Go.SX
theorem and_dup {p:Prop} (h:p):dup 1 p∧p:=⟨dup_of h 1,h⟩
def QL (t:TypeId) (W:PW) (xs:List (List Value)) (qs:List Rat):Prop:=xs.length=qs.length∧∀i (h:i<qs.length),∃(s:Sl) (b:Bool) (s':Sl),xs[i]?=some [s.v,.bool b,s'.v]∧IsRat t W s b s' qs[i]
def RQL (t:TypeId) (W:PW) (xs:List (List Value)) (qs:List Rat):Prop:=xs.length=qs.length∧∀i (h:i<qs.length),∃(b:Bool) (s s':Sl),xs[i]?=some [.bool b,s.v,s'.v]∧IsRefQ t W b s s' qs[i]
theorem QL.ext {t:TypeId} {W W':PW} {xs:List (List Value)} {qs:List Rat} (h:QL t W xs qs) (hE:Ext W W'):QL t W' xs qs:=⟨h.1,fun i hi=>let⟨s,b,s',h1,h2⟩:=h.2 i hi;⟨s,b,s',h1,h2.ext hE⟩⟩
theorem RQL.ext {t:TypeId} {W W':PW} {xs:List (List Value)} {qs:List Rat} (h:RQL t W xs qs) (hE:Ext W W'):RQL t W' xs qs:=⟨h.1,fun i hi=>let⟨b,s,s',h1,h2⟩:=h.2 i hi;⟨b,s,s',h1,h2.ext hE⟩⟩
theorem QL.snoc {t:TypeId} {W:PW} {xs:List (List Value)} {qs:List Rat} {s s':Sl} {b:Bool} {q:Rat} (h:QL t W xs qs) (hq:IsRat t W s b s' q):QL t W (xs ++ [[s.v,.bool b,s'.v]]) (qs ++ [q]):=by
 refine⟨by simp[h.1],fun i hi=>?_⟩
 by_cases e:i<qs.length
 ·obtain⟨a,c,d,h1,h2⟩:=h.2 i e
  exact⟨a,c,d,by rw[List.getElem?_append_left (by rw[h.1];exact e)];exact h1,by rw[List.getElem_append_left e];exact h2⟩
 ·have:i=qs.length:=by simp at hi;omega
  subst this
  exact⟨s,b,s',by rw[List.getElem?_append_right (by rw[h.1];exact Nat.le_refl _),h.1];simp,by rw[List.getElem_concat_length rfl];exact hq⟩
theorem RQL.snoc {t:TypeId} {W:PW} {xs:List (List Value)} {qs:List Rat} {s s':Sl} {b:Bool} {q:Rat} (h:RQL t W xs qs) (hq:IsRefQ t W b s s' q):RQL t W (xs ++ [[.bool b,s.v,s'.v]]) (qs ++ [q]):=by
 refine⟨by simp[h.1],fun i hi=>?_⟩
 by_cases e:i<qs.length
 ·obtain⟨a,c,d,h1,h2⟩:=h.2 i e
  exact⟨a,c,d,by rw[List.getElem?_append_left (by rw[h.1];exact e)];exact h1,by rw[List.getElem_append_left e];exact h2⟩
 ·have:i=qs.length:=by simp at hi;omega
  subst this
  exact⟨b,s,s',by rw[List.getElem?_append_right (by rw[h.1];exact Nat.le_refl _),h.1];simp,by rw[List.getElem_concat_length rfl];exact hq⟩
def QMs (t tq:TypeId) (W:PW) (ss:List Sl) (Q:List (List Rat)):Prop:=ss.length=Q.length∧∀i (h:i<ss.length) (h':i<Q.length),∃xs,Row W tq 3 ss[i] xs∧QL t W xs Q[i]
def RQMs (t tq:TypeId) (W:PW) (ss:List Sl) (Q:List (List Rat)):Prop:=ss.length=Q.length∧∀i (h:i<ss.length) (h':i<Q.length),∃xs,Row W tq 3 ss[i] xs∧RQL t W xs Q[i]
theorem QMs.ext {t tq:TypeId} {W W':PW} {ss:List Sl} {Q:List (List Rat)} (h:QMs t tq W ss Q) (hE:Ext W W'):QMs t tq W' ss Q:=⟨h.1,fun i hi hi'=>let⟨xs,h1,h2⟩:=h.2 i hi hi';⟨xs,h1.ext hE,h2.ext hE⟩⟩
theorem RQMs.ext {t tq:TypeId} {W W':PW} {ss:List Sl} {Q:List (List Rat)} (h:RQMs t tq W ss Q) (hE:Ext W W'):RQMs t tq W' ss Q:=⟨h.1,fun i hi hi'=>let⟨xs,h1,h2⟩:=h.2 i hi hi';⟨xs,h1.ext hE,h2.ext hE⟩⟩
theorem QMs.snoc {t tq:TypeId} {W:PW} {ss:List Sl} {Q:List (List Rat)} {s:Sl} {xs:List (List Value)} {qs:List Rat} (h:QMs t tq W ss Q) (hr:Row W tq 3 s xs) (hq:QL t W xs qs):QMs t tq W (ss ++ [s]) (Q ++ [qs]):=by
 refine⟨by simp[h.1],fun i hi hi'=>?_⟩
 by_cases e:i<ss.length
 ·rw[List.getElem_append_left e,List.getElem_append_left (by have:=h.1;omega)]
  exact h.2 i e _
 ·have:i=ss.length:=by simp at hi;omega
  subst this
  have e2:(Q ++ [qs])[ss.length]'hi'=qs:=by
   rw[List.getElem_append_right (by rw[h.1];exact Nat.le_refl _)]
   simp[h.1]
  rw[List.getElem_concat_length rfl,e2]
  exact⟨xs,hr,hq⟩
theorem RQMs.snoc {t tq:TypeId} {W:PW} {ss:List Sl} {Q:List (List Rat)} {s:Sl} {xs:List (List Value)} {qs:List Rat} (h:RQMs t tq W ss Q) (hr:Row W tq 3 s xs) (hq:RQL t W xs qs):RQMs t tq W (ss ++ [s]) (Q ++ [qs]):=by
 refine⟨by simp[h.1],fun i hi hi'=>?_⟩
 by_cases e:i<ss.length
 ·rw[List.getElem_append_left e,List.getElem_append_left (by have:=h.1;omega)]
  exact h.2 i e _
 ·have:i=ss.length:=by simp at hi;omega
  subst this
  have e2:(Q ++ [qs])[ss.length]'hi'=qs:=by
   rw[List.getElem_append_right (by rw[h.1];exact Nat.le_refl _)]
   simp[h.1]
  rw[List.getElem_concat_length rfl,e2]
  exact⟨xs,hr,hq⟩
def qw (Q:List (List Rat)) (i:Nat):Nat:=(Q[i]?.getD []).length
def qm (Q:List (List Rat)) (i j:Nat):Rat:=(Q[i]?.getD [])[j]?.getD 0
theorem QMs.mat {t tq ts:TypeId} {W:PW} {s:Sl} {ss:List Sl} {Q:List (List Rat)} (h:QMs t tq W ss Q) (hr:Row W ts 1 s (ss.map fun x=>[x.v])):IsMat t tq ts W s Q.length (qw Q) (qm Q):=by
 refine⟨ss,hr,h.1,fun i hi=>?_⟩
 have hi':i<Q.length:=by have:=h.1;omega
 obtain⟨xs,h1,h2⟩:=h.2 i hi hi'
 have e:Q[i]?.getD []=Q[i]:=by rw[List.getElem?_eq_getElem hi'];rfl
 refine⟨xs,h1,by unfold qw;rw[e];exact h2.1,fun j hj=>?_⟩
 unfold qw at hj
 rw[e] at hj
 obtain⟨a,b,c,k1,k2⟩:=h2.2 j hj
 refine⟨a,b,c,k1,?_⟩
 unfold qm
 rw[e,List.getElem?_eq_getElem hj]
 exact k2
def IsRefMat (t tq ts:TypeId) (W:PW) (s:Sl) (Q:List (List Rat)):Prop:=∃ss:List Sl,Row W ts 1 s (ss.map fun x=>[x.v])∧RQMs t tq W ss Q
def Small (Q:List (List Rat)):Prop:=Q.length≤5∧∀qs∈Q,qs.length≤5∧∀q∈qs,Sz 3 q
theorem Small.sz {Q:List (List Rat)} (h:Small Q) (i j:Nat):Sz 3 (qm Q i j):=by
 unfold qm
 cases e:Q[i]? with
 | none=>exact Sz.zero (by omega)
 | some qs=>
  show Sz 3 (qs[j]?.getD 0)
  cases e2:qs[j]? with
  | none=>exact Sz.zero (by omega)
  | some q=>exact(h.2 qs (List.mem_of_getElem? e)).2 q (List.mem_of_getElem? e2)
def rawI (W0:PW) (n:Nat) (l:List PL) (W:PW):Prop:=
 match l with
 | [.row l3,.row l4,.val (.int .i64 i)]=>Ext W0 W∧∃(ss ss':List Sl) (Q:List (List Rat)),l3=(ss.map fun x=>[x.v])∧l4=(ss'.map fun x=>[x.v])∧i=(Q.length:Int)∧Q.length≤n∧QMs 317 51 W ss Q∧RQMs 317 92 W ss' Q∧Small Q
 | _=>False
def rawI2 (W6:PW) (n:Nat) (l:List PL) (W:PW):Prop:=
 match l with
 | [.row l9,.row l10,.val (.int .i64 i)]=>Ext W6 W∧∃(qs:List Rat) (j:Nat),i=(j:Int)∧qs.length≤j∧j≤5∧j≤n∧QL 317 W l9 qs∧RQL 317 W l10 qs∧∀q∈qs,Sz 3 q
 | _=>False
def rawM (n:Nat) (l:List PL) (W:PW):Nat:=
 match l with
 | [_,_,.val (.int .i64 i)]=>n-i.toNat
 | _=>0
theorem lawRaw_ok {W0:PW} {M:Nat→Prop} {s:Sl} {T:List (List ByteArray)} (h:IsTx W0 s T) (hT: ∀i j,(txt T i j).size≤1099511627776):
  PCallsM Go.Proofs.Tryz.prog 31 [s.v] W0 M fun v W'=>∃(m:Sl),∃(x:Sl),∃(Q:List (List Rat)),v = .tuple #[Sl.v m,Sl.v x]∧IsMat 317 51 100 W' m Q.length (qw Q) (qm Q)∧IsRefMat 317 92 193 W' x Q∧Small Q:=by
 apply calllaw11_Raw
 have hn:=h.n
 refine⟨rawI W0 T.length,rawM T.length,⟨Ext.refl _,[],[],[],rfl,rfl,rfl,Nat.zero_le _,⟨rfl,fun i h=>by simp at h⟩,⟨rfl,fun i h=>by simp at h⟩,by simp,fun qs h=>by simp at h⟩,?_⟩
 rintro l3 l4 i5 W6 ⟨hE6,ss,ss',Q,rfl,rfl,rfl,hQn,hQ,hR,hSm⟩
 refine⟨fun hlt=>⟨fun h5=>?_,fun h5=>?_⟩,fun hge=>?_⟩
 rotate_left
 ·intro s104 W105 hE105 hO105 hf105 s107 W108 hE108 hO108 hf108 W110 hE110
  exact⟨s104,s107,Q,rfl,(((hQ.ext hE105).ext hE108).ext hE110).mat ((hO105.ext hE108).ext hE110).row,⟨ss',(hO108.ext hE110).row,((hR.ext hE105).ext hE108).ext hE110⟩,hSm⟩
 ·intro s104 W105 hE105 hO105 hf105 s107 W108 hE108 hO108 hf108 W110 hE110
  exact⟨s104,s107,Q,rfl,(((hQ.ext hE105).ext hE108).ext hE110).mat ((hO105.ext hE108).ext hE110).row,⟨ss',(hO108.ext hE110).row,((hR.ext hE105).ext hE108).ext hE110⟩,hSm⟩
 have hk:Q.length<T.length:=by omega
 have h6:=h.ext hE6
 have hS1:=hSm.1
 obtain⟨r,e1,e2⟩:=h6.at (i:=Q.length) hk
 have nr:=e2.nt
 refine⟨rawI2 W6 T[Q.length].length,rawM T[Q.length].length,⟨Ext.refl _,[],0,rfl,Nat.le_refl _,by omega,Nat.zero_le _,⟨rfl,fun i h=>by simp at h⟩,⟨rfl,fun i h=>by simp at h⟩,fun q h=>by simp at h⟩,?_⟩
 rintro l9 l10 i11 W12 ⟨hE12,qs,j,rfl,hqj,hj5,hjn,hl9,hl10,hsz⟩
 have ib:inB s (Q.length:Int):=h6.inB (by omega) (by omega)
 refine⟨ib,r,e1.ext hE12,fun hlt2=>⟨fun h52=>?_,fun h52=>?_⟩,fun hge2=>?_⟩
 rotate_left
 ·intro s27 W28 hE28 hO28 hf28
  refine⟨by simp only[List.length_map,hQ.1,List.length_cons,List.length_nil];omega,fun s30 W31 hE31 hO31 hf31=>⟨by simp only[List.length_map,hR.1,List.length_cons,List.length_nil];omega,by unfold I64;omega,⟨((hE6.trans hE12).trans hE28).trans hE31,ss ++ [s27],ss' ++ [s30],Q ++ [qs],by simp,by simp,by simp,by simp;omega,(((hQ.ext hE12).ext hE28).ext hE31).snoc (hO28.ext hE31).row ((hl9.ext hE28).ext hE31),(((hR.ext hE12).ext hE28).ext hE31).snoc hO31.row ((hl10.ext hE28).ext hE31),by simp;omega,fun q hq=>?_⟩,?_⟩⟩
  ·rcases List.mem_append.1 hq with h | h
   ·exact hSm.2 q h
   ·rw[List.mem_singleton.1 h]
    exact⟨by omega,hsz⟩
  ·show T.length-Int.toNat ((Q.length:Int)+1)<T.length-Int.toNat (Q.length:Int)
   omega
 ·intro s27 W28 hE28 hO28 hf28
  refine⟨by simp only[List.length_map,hQ.1,List.length_cons,List.length_nil];omega,fun s30 W31 hE31 hO31 hf31=>⟨by simp only[List.length_map,hR.1,List.length_cons,List.length_nil];omega,by unfold I64;omega,⟨((hE6.trans hE12).trans hE28).trans hE31,ss ++ [s27],ss' ++ [s30],Q ++ [qs],by simp,by simp,by simp,by simp;omega,(((hQ.ext hE12).ext hE28).ext hE31).snoc (hO28.ext hE31).row ((hl9.ext hE28).ext hE31),(((hR.ext hE12).ext hE28).ext hE31).snoc hO31.row ((hl10.ext hE28).ext hE31),by simp;omega,fun q hq=>?_⟩,?_⟩⟩
  ·rcases List.mem_append.1 hq with h | h
   ·exact hSm.2 q h
   ·rw[List.mem_singleton.1 h]
    exact⟨by omega,hsz⟩
  ·show T.length-Int.toNat ((Q.length:Int)+1)<T.length-Int.toNat (Q.length:Int)
   omega
 have hjT:j<T[Q.length].length:=by omega
 have r12:=e2.ext hE12
 have htx:=txt_eq hk hjT
 refine⟨ib,r,e1.ext hE12,r12.inBt (by omega) (by omega),_,r12.text hjT,?_⟩
 rw[←htx]
 obtain⟨t,ht⟩: ∃t,txt T Q.length j=t:=⟨_,rfl⟩
 rw[ht] at htx⊢
 have hts:t.size≤1099511627776:=by rw[←ht];exact hT _ _
 have next: ∀W17,Ext W12 W17→I64 ((j:Int)+1)∧rawI2 W6 T[Q.length].length [PL.row l9,PL.row l10,PL.val (Value.int IntKind.i64 ((j:Int)+1))] W17∧rawM T[Q.length].length [PL.row l9,PL.row l10,PL.val (Value.int IntKind.i64 ((j:Int)+1))] W17<rawM T[Q.length].length [PL.row l9,PL.row l10,PL.val (Value.int IntKind.i64 (j:Int))] W12:=by
  intro W17 hE17
  refine⟨by unfold I64;omega,⟨hE12.trans hE17,qs,j+1,by push_cast;rfl,by omega,by omega,by omega,hl9.ext hE17,hl10.ext hE17,hsz⟩,?_⟩
  show T[Q.length].length-Int.toNat ((j:Int)+1)<T[Q.length].length-Int.toNat (j:Int)
  omega
 refine law3Num_call hts fun s18 b19 s20 b21 s22 s23 W17 hE17 ⟨h18,h22⟩=>⟨s18,b19,s20,b21,s22,s23,_,rfl,fun hb=>?_,fun hb=>next W17 hE17⟩
 obtain⟨q,hq⟩:=Option.isSome_iff_exists.1 hb
 rw[hq] at h18 h22
 have h18:IsRat 317 W17 s18 b19 s20 q:=h18
 have h22:IsRefQ 317 W17 b21 s22 s23 q:=h22
 have r17:=r12.ext hE17
 have et:=r17.text hjT
 rw[←htx] at et
 refine⟨ib,r,(e1.ext hE12).ext hE17,r17.inBt (by omega) (by omega),t,et,fun h20=>?_,fun h20=>next W17 hE17⟩
 refine and_dup ?_
 have hqs:Sz 3 q:=by
  unfold numQ at hq
  rw[if_pos (by omega)] at hq
  exact(parseQ_sz hq).2 (by omega)
 refine⟨by rw[hl9.1];simp only[List.length_cons,List.length_nil];omega,by rw[hl10.1];simp only[List.length_cons,List.length_nil];omega,by unfold I64;omega,⟨hE12.trans hE17,qs ++ [q],j+1,by push_cast;rfl,by simp;omega,by omega,by omega,(hl9.ext hE17).snoc h18,(hl10.ext hE17).snoc h22,fun q' hq'=>?_⟩,?_⟩
 ·rcases List.mem_append.1 hq' with h | h
  ·exact hsz q' h
  ·rw[List.mem_singleton.1 h];exact hqs
 ·show T[Q.length].length-Int.toNat ((j:Int)+1)<T[Q.length].length-Int.toNat (j:Int)
  omega
theorem lawRaw_call {W0 W:PW} {M:Nat→Prop} {s:Sl} {T:List (List ByteArray)} {K:Value→PW→Prop} (h:IsTx W s T) (hT: ∀i j,(txt T i j).size≤1099511627776) (kont: ∀(m:Sl) (x:Sl) (Q:List (List Rat)) (W':PW),Ext W W'→(IsMat 317 51 100 W' m Q.length (qw Q) (qm Q)∧IsRefMat 317 92 193 W' x Q∧Small Q)→K (.tuple #[Sl.v m,Sl.v x]) W'):
  callN Go.Proofs.Tryz.prog W0 M 31 [s.v] W K:=
 callN_of (fun W' hE=>lawRaw_ok (M:=fun _=>False) (h.ext hE) hT) (fun W' v W'' hE hE' hP=>by
  obtain⟨m,x,Q,rfl,h⟩:=hP
  exact kont m x Q W'' (hE.trans hE') h)
end Go.Proofs.YthpmkcidkcmlgaaGreat

/- The matrix of the document's program as a function. -/
set_option linter.unusedVariables false
namespace Go.Proofs.YthpmkcidkcmlgaaGreat
open Go Go.SX
end Go.Proofs.YthpmkcidkcmlgaaGreat

/- cincturelaw13.GramForms. -/
set_option maxRecDepth 100000
set_option linter.unusedVariables false
set_option linter.unusedSimpArgs false
namespace Go.Proofs.YthpmkcidkcmlgaaGreat
open Go Go.SX
def g0:ByteArray:=⟨⟨[48]⟩⟩
def g1:ByteArray:=⟨⟨[49]⟩⟩
theorem pmap_ok {p:List Tm} (h:POk p) (r:Rat):POk (pmap p r):=fun t ht=>by
 obtain⟨u,hu,rfl⟩:=List.mem_map.1 ht
 exact h u hu
theorem pairs_ok2 {p q:List Tm} (h:MulOK p q):POk (pnorm (ppairs p q)):=POk.norm fun t ht=>by
 obtain⟨a,ha,hm⟩:=List.mem_flatMap.1 ht
 obtain⟨b,hb,rfl⟩:=List.mem_map.1 hm
 exact h a ha b hb
theorem formK_ok {ps:List (List Tm)} {m:Nat→Nat→Rat} (hp:SysOK ps) (hz: ∀i j,Sz 4001 (m i j)) {i:Nat} (hi:i<ps.length) {a0:List Tm} {t:Nat} (h0:Bd (cmb t) a0∧PGood a0∧POk a0): ∀{k:Nat} {a:List Tm} (_:k≤ps.length) (_:formK (qat ps) m i (some a0) k=some a),Bd (cmb (t+k)) a∧PGood a∧POk a
 | 0,a,_,h=>by
  simp only[formK,Option.some.injEq] at h
  subst h
  exact h0
 | k+1,a,hk,h=>by
  rw[formK] at h
  unfold stepA at h
  split at h
  ·cases h
  ·rename_i a' ha'
   split at h
   ·rename_i hM
    simp only[Option.some.injEq] at h
    subst h
    have ih:=formK_ok hp hz hi h0 (by omega) ha'
    have m1:=hp.bd _ (List.getElem_mem hi)
    have m2:=hp.bd _ (List.getElem_mem (show k<ps.length by omega))
    rw[qat_at hi,qat_at (show k<ps.length by omega)] at hM⊢
    have hzb:Bd (56029+56029+4001) (pmap (pnorm (ppairs ps[i] ps[k])) (m i k)):=Bd.pmap ((m1.1.pairs m2.1).norm) (hz i k)
    refine⟨(ih.1.append hzb.norm).norm.mono ?_,pnorm_good _,(ih.2.2.append (pmap_ok (pairs_ok2 hM) _).norm).norm⟩
    rw[show t+(k+1)=(t+k)+1 by omega,cmb_succ]
    omega
   ·cases h
theorem formI_ok {ps:List (List Tm)} {m:Nat→Nat→Rat} (hp:SysOK ps) (hz: ∀i j,Sz 4001 (m i j)): ∀{i:Nat} {a:List Tm} (_:i≤ps.length) (_:formI (qat ps) m ps.length i=some a),Bd (cmb (i*ps.length)) a∧PGood a∧POk a
 | 0,a,_,h=>by
  simp only[formI,Option.some.injEq] at h
  subst h
  exact⟨⟨1,0,trivial,by decide,by rw[nl_one];simp[cmb],by rw[nl_zero];exact Nat.zero_le _⟩,PGood.nil,fun t ht=>by simp at ht⟩
 | i+1,a,hi,h=>by
  rw[formI] at h
  cases hb:formI (qat ps) m ps.length i with
  | none=>
   rw[hb,formK_none (k:=0) rfl _ (Nat.zero_le _)] at h
   cases h
  | some a0=>
   rw[hb] at h
   have:=formK_ok hp hz (by omega) (formI_ok hp hz (by omega) hb) (Nat.le_refl _) h
   rw[Nat.add_mul,Nat.one_mul]
   exact this
end Go.Proofs.YthpmkcidkcmlgaaGreat

/- whole.Pow, rat.Pow; cinctureref1.times. -/
set_option maxRecDepth 100000
set_option linter.unusedVariables false
set_option linter.unusedSimpArgs false
namespace Go.Proofs.YthpmkcidkcmlgaaGreat
open Go Go.SX
theorem and1 {i:Nat} (h:i<256):bits .and .i64 (i:Int) 1=((i%2:Nat):Int):=by
 have key: ∀i:Nat,i<256→bits .and .i64 (i:Int) 1=((i%2:Nat):Int):=by decide +kernel
 exact key i h
theorem shr1 (i:Nat):ishr (i:Int) 1=((i/2:Nat):Int):=by
 unfold ishr
 rw[Int.fdiv_eq_ediv_of_nonneg _ (by decide)]
 omega
theorem nl_pow {z:Int} {k:Nat} (h:nl z.natAbs≤k) (e:Nat):nl (z^e).natAbs≤k*e+1:=by
 induction e with
 | zero=>simp[nl_one]
 | succ e ih=>
  rw[Int.pow_succ,Int.natAbs_mul]
  have:=nl_mul (z^e).natAbs z.natAbs
  rw[Nat.mul_add]
  omega
theorem wholePow_ok {W0:PW} {M:Nat→Prop} {s:Sl} {b:Bool} {z:Int} {n k:Nat} (h:IsInt 317 W0 s b z) (hz:nl z.natAbs≤k) (hk:k≤1048576) (hn:n≤255):
  PCallsM Go.Proofs.Tryz.prog 194 [.agg ⟨[s.v,.bool b]⟩,.int .i64 (n:Int)] W0 M fun v W'=>∃(s':Sl),∃(b':Bool),v = .agg ⟨[Sl.v s',.bool b']⟩∧IsInt 317 W' s' b' (z^n):=by
 apply callwhole_Pow
 have en:mn (mx (n:Int) 0) 255=(n:Int):=by unfold mn mx;split<;>(try split)<;>omega
 unfold Rwhole_Pow
 rw[en]
 refine wholeOf_call (z:=1) (by unfold I64;omega) fun s3 b4 W2 hE2 h2=>⟨s3,b4,rfl,?_⟩
 refine⟨fun l W=>match l with
  | [.val (.int .i64 i),.cells [.slice A m c,.bool x],.cells [.slice A' m' c',.bool y]]=>∃(j e f:Nat),i=(j:Int)∧Ext W0 W∧f+e*j=n∧e≤2*n+1∧j≤255∧IsInt 317 W ⟨A,m,c⟩ x (z^f)∧IsInt 317 W ⟨A',m',c'⟩ y (z^e)
  | _=>False,fun l _=>match l with | [.val (.int .i64 i),_,_]=>i.toNat | _=>0,⟨n,1,0,rfl,hE2,by omega,by omega,hn,by simpa using h2,by rw[show z^1=z by rw[Int.pow_succ,Int.pow_zero,Int.one_mul]];exact h.ext hE2⟩,?_⟩
 rintro s7 b8 s9 b10 i11 W12 ⟨j,e,f,rfl,hE,hfe,he,hj,hf1,hf2⟩
 have hf1:IsInt 317 W12 s7 b8 (z^f):=hf1
 have hf2:IsInt 317 W12 s9 b10 (z^e):=hf2
 have hjn:e*j≤n:=by omega
 refine⟨fun hpos=>?_,fun hz0 W25 hE25=>⟨s7,b8,rfl,?_⟩⟩
 ·have hj1:1≤j:=by omega
  have hen:e≤n:=Nat.le_trans (Nat.le_mul_of_pos_right e hj1) hjn
  have hsz: ∀x,x≤511→nl (z^x).natAbs≤68719476736:=fun x hx=>by
   have h1:=nl_pow hz x
   have h2:=Nat.mul_le_mul hk hx
   omega
  have hee:(e+e)*(j/2)=e*(2*(j/2)):=by rw[←Nat.two_mul,Nat.mul_comm 2 e,Nat.mul_assoc]
  have hi:Int.toNat (ishr (j:Int) 1)<Int.toNat (j:Int):=by rw[shr1];omega
  refine⟨fun hodd=>?_,fun heven=>?_⟩
  ·have ho:j%2=1:=by rw[and1 (by omega)] at hodd;omega
   have hj2:j=2*(j/2)+1:=by omega
   have hej:e*j=e*(2*(j/2))+e:=by conv=>lhs;rw[hj2,Nat.mul_add,Nat.mul_one]
   refine wholeMul_call hf1 hf2 (hsz f (by omega)) (hsz e (by omega)) fun s15 b16 W14 hE14 h14=>⟨s15,b16,rfl,wholeMul_call (hf2.ext hE14) (hf2.ext hE14) (hsz e (by omega)) (hsz e (by omega)) fun s19 b20 W18 hE18 h18=>⟨s19,b20,rfl,⟨j/2,e+e,f+e,by rw[shr1],hE.trans (hE14.trans hE18),by omega,by omega,by omega,?_,?_⟩,hi⟩⟩
   ·rw[Int.pow_add];exact h14.ext hE18
   ·rw[Int.pow_add];exact h18
  ·have ho:j%2=0:=by
    rw[and1 (by omega)] at heven
    omega
   have hj2:j=2*(j/2):=by omega
   have hej:e*j=e*(2*(j/2)):=by conv=>lhs;rw[hj2]
   refine wholeMul_call hf2 hf2 (hsz e (by omega)) (hsz e (by omega)) fun s23 b24 W22 hE22 h22=>⟨s23,b24,rfl,⟨j/2,e+e,f,by rw[shr1],hE.trans hE22,by omega,by omega,by omega,hf1.ext hE22,?_⟩,hi⟩
   rw[Int.pow_add];exact h22
 ·have:j=0:=by omega
  subst this
  rw[Nat.mul_zero,Nat.add_zero] at hfe
  rw[←hfe]
  exact hf1.ext hE25
theorem wholePow_call {W0 W:PW} {M:Nat→Prop} {s:Sl} {b:Bool} {z:Int} {n k:Nat} {K:Value→PW→Prop} (h:IsInt 317 W s b z) (hz:nl z.natAbs≤k) (hk:k≤1048576) (hn:n≤255) (kont: ∀(s':Sl) (b':Bool) (W':PW),Ext W W'→(IsInt 317 W' s' b' (z^n))→K (.agg ⟨[Sl.v s',.bool b']⟩) W'):
  callN Go.Proofs.Tryz.prog W0 M 194 [.agg ⟨[s.v,.bool b]⟩,.int .i64 (n:Int)] W K:=
 callN_of (fun W' hE=>wholePow_ok (M:=fun _=>False) (h.ext hE) hz hk hn) (fun W' v W'' hE hE' hP=>by
  obtain⟨s',b',rfl,h⟩:=hP
  exact kont s' b' W'' (hE.trans hE') h)
theorem dn_pow (q:Rat) (n:Nat):dn (q^n)=if dn q=0∨n=0 then 0 else q.den^n:=by
 unfold dn
 rw[Rat.den_pow]
 by_cases h1:q.den=1
 ·simp[h1]
 ·by_cases h2:n=0
  ·subst h2;simp
  ·have:q.den^n≠1:=by
    have hd:=q.den_nz
    obtain⟨m,rfl⟩: ∃m,n=m+1:=⟨n-1,by omega⟩
    rw[Nat.pow_succ]
    have:1≤q.den^m:=Nat.pow_pos (by omega)
    have:=Nat.mul_le_mul this (show 2≤q.den by omega)
    omega
   have hz:q.den≠0:=q.den_nz
   simp[h1,h2,this,hz]
theorem ratPow_ok {W0:PW} {M:Nat→Prop} {s t:Sl} {b:Bool} {q:Rat} {n k:Nat} (h:IsRat 317 W0 s b t q) (hz:Sz k q) (hk:k≤1048576) (hn:n≤255):
  PCallsM Go.Proofs.Tryz.prog 131 [.agg ⟨[s.v,.bool b,t.v]⟩,.int .i64 (n:Int)] W0 M fun v W'=>∃(s':Sl),∃(b':Bool),∃(t':Sl),v = .agg ⟨[Sl.v s',.bool b',Sl.v t']⟩∧IsRat 317 W' s' b' t' (q^n):=by
 apply callrat_Pow
 have hd:=hz.dn
 refine wholePow_call h.1 hz.1 hk hn fun s3 b4 W2 hE2 h2=>⟨s3,b4,rfl,natBits_call (h.2.ext hE2) (by omega) fun W6 hE6 _=>⟨_,rfl,fun hb=>⟨fun hn0=>?_,fun hn0 W20 hE20=>⟨s3,b4,⟨none,0,0⟩,rfl,(h2.ext hE6).ext hE20,?_⟩⟩,fun hb W21 hE21=>⟨s3,b4,⟨none,0,0⟩,rfl,(h2.ext hE6).ext hE21,?_⟩⟩⟩
 ·refine ratDen_call (h.ext (hE2.trans hE6)) hz (by omega) fun s10 b11 W9 hE9 h9=>⟨s10,b11,rfl,wholePow_call h9 (by rw[Int.natAbs_natCast];exact hz.2) hk hn fun s14 b15 W13 hE13 h13=>⟨s14,b15,rfl,wholeAbs_call h13 fun s18 W17 hE17 h17=>⟨s18,rfl,fun W19 hE19=>⟨s3,b4,s18,rfl,(h2.ext (hE6.trans (hE9.trans (hE13.trans hE17)))).ext hE19,?_⟩⟩⟩⟩
  have hdq:dn q≠0:=fun e=>by
   rw[e] at hb
   simp[blen] at hb
  have e:dn (q^n)=q.den^n:=by rw[dn_pow,if_neg (by omega)]
  rw[e]
  have e2:((q.den:Int)^n).natAbs=q.den^n:=by rw[Int.natAbs_pow,Int.natAbs_natCast]
  rw[e2] at h17
  exact h17.ext hE19
 ·have:n=0:=by omega
  rw[dn_pow,if_pos (.inr this)]
  exact isNat_zero W20
 ·have:dn q=0:=(blen_eq_zero (x:=dn q)).1 (by omega)
  rw[dn_pow,if_pos (.inl this)]
  exact isNat_zero W21
theorem ratPow_call {W0 W:PW} {M:Nat→Prop} {s t:Sl} {b:Bool} {q:Rat} {n k:Nat} {K:Value→PW→Prop} (h:IsRat 317 W s b t q) (hz:Sz k q) (hk:k≤1048576) (hn:n≤255) (kont: ∀(s':Sl) (b':Bool) (t':Sl) (W':PW),Ext W W'→(IsRat 317 W' s' b' t' (q^n))→K (.agg ⟨[Sl.v s',.bool b',Sl.v t']⟩) W'):
  callN Go.Proofs.Tryz.prog W0 M 131 [.agg ⟨[s.v,.bool b,t.v]⟩,.int .i64 (n:Int)] W K:=
 callN_of (fun W' hE=>ratPow_ok (M:=fun _=>False) (h.ext hE) hz hk hn) (fun W' v W'' hE hE' hP=>by
  obtain⟨s',b',t',rfl,h⟩:=hP
  exact kont s' b' t' W'' (hE.trans hE') h)
end Go.Proofs.YthpmkcidkcmlgaaGreat

/- cinctureref1.times; poly.At, cinctureref1.At. -/
set_option maxRecDepth 100000
set_option linter.unusedVariables false
set_option linter.unusedSimpArgs false
namespace Go.Proofs.YthpmkcidkcmlgaaGreat
open Go Go.SX
structure Pt where
 x:Rat
 y:Rat
 z:Rat
def Pt.get (u:Pt) (k:Nat):Rat:=if k=0 then u.x else if k=1 then u.y else u.z
def ctm (t:Tm) (u:Pt):Nat→Rat
 | 0=>t.2
 | j+1=>ctm t u j*u.get j^(eget t.1 j).toNat
def atQ (u:Pt) (p:List Tm):Rat:=p.foldl (fun a t=>a+ctm t u 3) 0
theorem atQ_snoc (u:Pt) (l:List Tm) (t:Tm):atQ u (l ++ [t])=atQ u l+ctm t u 3:=by simp[atQ]
theorem ctm_sz {t:Tm} {u:Pt} {k l e:Nat} (ht:Sz k t.2) (hu: ∀i,Sz l (u.get i)) (he: ∀i,(eget t.1 i).toNat≤e): ∀j,Sz (k+j*(l*e+1)) (ctm t u j)
 | 0=>by rw[Nat.zero_mul,Nat.add_zero];exact ht
 | j+1=>by
  have h1:=ctm_sz ht hu he j
  have h2:=Sz.powq (hu j) (eget t.1 j).toNat
  have h3:=Nat.mul_le_mul_left l (he j)
  exact(h1.mul h2).mono (by rw[Nat.add_mul,Nat.one_mul];omega)
theorem atQ_sz {u:Pt} {k l e:Nat} {p:List Tm} (hp: ∀t∈p,Sz k t.2) (hu: ∀i,Sz l (u.get i)) (he: ∀t∈p,∀i,(eget t.1 i).toNat≤e):Sz (p.length*(k+3*(l*e+1)+1)+1) (atQ u p):=by
 have key: ∀j,j≤p.length→Sz (j*(k+3*(l*e+1)+1)+1) (atQ u (p.take j)):=by
  intro j
  induction j with
  | zero=>intro _;exact Sz.zero (by omega)
  | succ j ih=>
   intro hj
   have hjl:j<p.length:=by omega
   rw[take_snocR hjl,atQ_snoc]
   have h1:=ih (by omega)
   have h2:=ctm_sz (hp _ (List.getElem_mem hjl)) hu (he _ (List.getElem_mem hjl)) 3
   refine(h1.add h2).mono ?_
   rw[Nat.add_mul,Nat.one_mul]
   omega
 have:=key p.length (Nat.le_refl _)
 rwa [List.take_length] at this
theorem eget_le {m:Mon} (h:m.ok) (i:Nat):(eget m i).toNat≤255:=by
 have:=eget_ok h i
 omega
def atO (W0:PW) (p:List Tm) (u:Pt) (L:List PL) (W:PW):Prop:=match L with
 | [.val (.int .i64 i),.cells [.slice A m c,.bool x,.slice A' m' c']]=>∃j:Nat,i=(j:Int)∧j≤p.length∧Ext W0 W∧IsRat 317 W ⟨A,m,c⟩ x ⟨A',m',c'⟩ (atQ u (p.take j))
 | _=>False
def atI (W1:PW) (t:Tm) (u:Pt) (L:List PL) (W:PW):Prop:=match L with
 | [.val (.int .i64 i),.cells [.slice A m c,.bool x,.slice A' m' c']]=>∃j:Nat,i=(j:Int)∧j≤3∧Ext W1 W∧IsRat 317 W ⟨A,m,c⟩ x ⟨A',m',c'⟩ (ctm t u j)
 | _=>False
theorem polyAt_ok {W0:PW} {M:Nat→Prop} {s s0 t0 s1 t1 s2 t2:Sl} {b0 b1 b2:Bool} {p:List Tm} {u:Pt} {k l:Nat} (h:IsPoly 317 188 W0 s p) (g0:IsRat 317 W0 s0 b0 t0 u.x) (g1:IsRat 317 W0 s1 b1 t1 u.y) (g2:IsRat 317 W0 s2 b2 t2 u.z) (hp: ∀t∈p,Sz k t.2) (hu: ∀i,Sz l (u.get i)) (hl:l≤100000) (hb:p.length*(k+3*(l*255+1)+1)+1≤400000000) (hk:k+3*(l*255+1)≤400000000):
  PCallsM Go.Proofs.Tryz.prog 43 [.agg ⟨[s.v]⟩,.agg ⟨[s0.v,.bool b0,t0.v,s1.v,.bool b1,t1.v,s2.v,.bool b2,t2.v]⟩] W0 M fun v W'=>∃(s':Sl),∃(b':Bool),∃(t':Sl),v = .agg ⟨[Sl.v s',.bool b',Sl.v t']⟩∧IsRat 317 W' s' b' t' (atQ u p):=by
 apply callpoly_At
 have hn:=h.n
 have hpl:p.length≤400000000:=by
  have:=Nat.le_mul_of_pos_right p.length (show 0<k+3*(l*255+1)+1 by omega)
  omega
 refine⟨atO W0 p u,cn1 p.length,⟨0,rfl,by omega,Ext.refl _,isRat_zero W0⟩,?_⟩
 rintro s3 b4 s5 i6 W7 ⟨j,rfl,hj,hE7,hs⟩
 have hs:IsRat 317 W7 s3 b4 s5 (atQ u (p.take j)):=hs
 refine⟨fun hlt=>?_,fun hge W40 hE40=>⟨s3,b4,s5,rfl,?_⟩⟩
 ·have hjl:j<p.length:=by omega
  have hP:=h.ext hE7
  have hm:=List.getElem_mem hjl
  obtain⟨h0,c1,d1,c2,e1,_,_,hr⟩:=hP.at (List.getElem?_eq_getElem hjl)
  have hcs:=fun i=>ctm_sz (j:=i) (hp _ hm) hu (fun i=>eget_le h0 i)
  have hbd: ∀i,i≤3→k+i*(l*255+1)≤400000000:=fun i hi=>by
   have:=Nat.mul_le_mul_right (l*255+1) hi
   omega
  refine⟨hP.inB (by omega) (by omega),_,_,_,c1,d1,c2,e1,atI W7 p[j] u,cn1 3,⟨0,rfl,by omega,Ext.refl _,hr⟩,?_⟩
  rintro s16 b17 s18 i19 W20 ⟨m,rfl,hm3,hE20,hc⟩
  have hc:IsRat 317 W20 s16 b17 s18 (ctm p[j] u m):=hc
  refine⟨fun hlt'=>?_,fun hge'=>?_⟩
  ·have hm3':m<3:=by omega
   have hmr:(0:Int)≤(m:Int)∧(m:Int)<3:=⟨by omega,by omega⟩
   have hek:=eget_ok h0 m
   have hE:=hE7.trans hE20
   obtain⟨x1,y1,z1,hbx,hux⟩: ∃(x1:Sl) (y1:Bool) (z1:Sl),BoxAt [s0.v,.bool b0,t0.v,s1.v,.bool b1,t1.v,s2.v,.bool b2,t2.v] (0+Int.toNat (m:Int)*3+0) [x1.v,.bool y1,z1.v]∧IsRat 317 W20 x1 y1 z1 (u.get m):=by
    rcases(by omega:m=0∨m=1∨m=2) with rfl | rfl | rfl
    ·exact⟨s0,b0,t0,⟨by simp,rfl⟩,g0.ext hE⟩
    ·exact⟨s1,b1,t1,⟨by simp,rfl⟩,g1.ext hE⟩
    ·exact⟨s2,b2,t2,⟨by simp,rfl⟩,g2.ext hE⟩
   obtain⟨n,hnn⟩:=Int.eq_ofNat_of_zero_le hek.1
   refine⟨hmr,_,take_mon p[j].1 hm3',hmr,x1,y1,z1,hbx,by unfold I64;omega,?_⟩
   rw[hnn]
   have hp2:=Nat.mul_le_mul_left l (by omega:n≤255)
   refine ratPow_call hux (hu m) (by omega) (by omega) fun s27 b28 s29 W26 hE26 h26=>⟨s27,b28,s29,rfl,ratMul_call (hc.ext hE26) h26 (hcs m) (Sz.powq (hu m) n) (by have:=hbd m (by omega);omega) (by omega) fun s32 b33 s34 W31 hE31 h31=>⟨s32,b33,s34,rfl,by unfold I64;omega,⟨m+1,by push_cast;rfl,by omega,hE20.trans (hE26.trans hE31),?_⟩,?_⟩⟩
   ·show IsRat 317 W31 s32 b33 s34 (ctm p[j] u m*u.get m^(eget p[j].1 m).toNat)
    rw[hnn]
    exact h31
   ·show 3-Int.toNat ((m:Int)+1)<3-Int.toNat (m:Int)
    omega
  ·have:m=3:=by omega
   subst this
   have hsz:=atQ_sz (u:=u) (p:=p.take j) (k:=k) (l:=l) (e:=255) (fun t ht=>hp t (List.mem_of_mem_take ht)) hu (fun t ht i=>eget_le (h.ok t (List.mem_of_mem_take ht)) i)
   have hl2:(p.take j).length*(k+3*(l*255+1)+1)≤p.length*(k+3*(l*255+1)+1):=Nat.mul_le_mul_right _ (by rw[List.length_take];omega)
   refine ratAdd_call (hs.ext hE20) hc hsz (hcs 3) (by omega) (by omega) fun s37 b38 s39 W36 hE36 h36=>⟨s37,b38,s39,rfl,by unfold I64;omega,⟨j+1,by push_cast;rfl,by omega,hE7.trans (hE20.trans hE36),?_⟩,?_⟩
   ·rw[take_snocR hjl,atQ_snoc]
    exact h36
   ·show p.length-Int.toNat ((j:Int)+1)<p.length-Int.toNat (j:Int)
    omega
 ·have:j=p.length:=by omega
  subst this
  rw[List.take_length] at hs
  exact hs.ext hE40
theorem polyAt_call {W0 W:PW} {M:Nat→Prop} {s s0 t0 s1 t1 s2 t2:Sl} {b0 b1 b2:Bool} {p:List Tm} {u:Pt} {k l:Nat} {K:Value→PW→Prop} (h:IsPoly 317 188 W s p) (g0:IsRat 317 W s0 b0 t0 u.x) (g1:IsRat 317 W s1 b1 t1 u.y) (g2:IsRat 317 W s2 b2 t2 u.z) (hp: ∀t∈p,Sz k t.2) (hu: ∀i,Sz l (u.get i)) (hl:l≤100000) (hb:p.length*(k+3*(l*255+1)+1)+1≤400000000) (hk:k+3*(l*255+1)≤400000000) (kont: ∀(s':Sl) (b':Bool) (t':Sl) (W':PW),Ext W W'→(IsRat 317 W' s' b' t' (atQ u p))→K (.agg ⟨[Sl.v s',.bool b',Sl.v t']⟩) W'):
  callN Go.Proofs.Tryz.prog W0 M 43 [.agg ⟨[s.v]⟩,.agg ⟨[s0.v,.bool b0,t0.v,s1.v,.bool b1,t1.v,s2.v,.bool b2,t2.v]⟩] W K:=
 callN_of (fun W' hE=>polyAt_ok (M:=fun _=>False) (h.ext hE) (g0.ext hE) (g1.ext hE) (g2.ext hE) hp hu hl hb hk) (fun W' v W'' hE hE' hP=>by
  obtain⟨s',b',t',rfl,h⟩:=hP
  exact kont s' b' t' W'' (hE.trans hE') h)
end Go.Proofs.YthpmkcidkcmlgaaGreat
