/- poly.Compose, cinctureref1.Compose. -/
import Derived.Test.YtnlmddaakeigdaaGreatDoorW16
import Derived.Test.YtnlmddaakeigdaaGreatDoorLib5
import Derived.Test.YtnlmddaakeigdaaGreatDoorLib4
import Derived.Test.YtnlmddaakeigdaaGreatDoorR13
import Derived.Test.YtnlmddaakeigdaaGreatDoorW15
set_option linter.unusedVariables false
set_option linter.unusedSimpArgs false
set_option maxRecDepth 100000
set_option linter.unusedVariables false
set_option linter.unusedSimpArgs false
namespace Go.Proofs.YtnlmddaakeigdaaGreatDoor
open Go Go.SX
def cst (r:Rat):List Tm:=pnorm [(⟨0,0,0⟩,r)]
end Go.Proofs.YtnlmddaakeigdaaGreatDoor

/- box.Right, gram.side, gram.Sum, and the reference's. -/
set_option maxRecDepth 100000
set_option linter.unusedVariables false
set_option linter.unusedSimpArgs false
namespace Go.Proofs.YtnlmddaakeigdaaGreatDoor
open Go Go.SX
def brI (W0:PW) (bs:List Iv) (L:List PL) (W:PW):Prop:=match L with
 | [.val (.int .i64 i)]=>∃j:Nat,i=(j:Int)∧j≤bs.length∧Ext W0 W∧∀x∈bs.take j,x.1<x.2
 | _=>False
theorem all_snoc {bs:List Iv} {j:Nat} (hj:j<bs.length) (h: ∀x∈bs.take j,x.1<x.2) (h2:bs[j].1<bs[j].2): ∀x∈bs.take (j+1),x.1<x.2:=fun x hx=>by
 rw[List.take_succ_eq_append_getElem hj,List.mem_append,List.mem_singleton] at hx
 rcases hx with hx | rfl
 ·exact h x hx
 ·exact h2
theorem boxRight_ok {W0:PW} {M:Nat→Prop} {s:Sl} {bs:List Iv} {k:Nat} (h:IsBox 268 W0 s bs) (hk: ∀x∈bs,IvS k x) (hk2:k≤1048576) (hl:bs.length≤1048576):
  PCallsM Go.Proofs.Tryz.prog 61 [s.v] W0 M fun v W'=>v = .bool (decide (BoxOK bs))∧True:=by
 apply callbox_Right
 have hn:=h.n
 refine⟨brI W0 bs,cn1 bs.length,⟨0,rfl,Nat.zero_le _,Ext.refl _,fun x hx=>(by cases hx)⟩,?_⟩
 rintro i3 W4 ⟨j,rfl,hj,hE4,hall⟩
 have h4:=IsBox.ext h hE4
 refine⟨fun hlt=>?_,fun hge=>?_⟩
 ·have hjl:j<bs.length:=by omega
  obtain⟨x,hx,hel⟩:=h4.at hjl
  obtain⟨s5,b6,s7,s8,b9,s10,rfl,q1,q2⟩:=hx
  have hz:=hk _ (List.getElem_mem hjl)
  refine⟨h4.inB (by omega) (by omega),s5,b6,s7,s8,b9,s10,hel 0 rfl,ratCmp_call q1 q2 hz.1 hz.2 (by omega) (by omega) fun W12 hE12 _=>⟨_,rfl,fun h0 W14 _=>⟨?_,trivial⟩,fun h0=>⟨by unfold I64;omega,⟨j+1,by push_cast;rfl,by omega,hE4.trans hE12,all_snoc hjl hall (cmpQ_lt.1 (by omega))⟩,?_⟩⟩⟩
  ·rw[decide_eq_false fun e=>Rat.not_lt.2 (cmpQ_ge.1 h0) (e.2 _ (List.getElem_mem hjl))]
  ·show bs.length-Int.toNat ((j:Int)+1)<bs.length-Int.toNat (j:Int)
   omega
 ·have:j=bs.length:=by omega
  subst this
  rw[List.take_length] at hall
  refine⟨fun h1 W15 _=>⟨?_,trivial⟩,fun h1 W16 _=>⟨?_,trivial⟩⟩
  ·congr 1
   rw[decide_eq_decide]
   exact⟨fun h=>⟨⟨by omega,by omega⟩,hall⟩,fun h=>by have:=h.1.2;omega⟩
  ·rw[decide_eq_false fun e=>by have:=e.1.1;omega]
theorem boxRight_call {W0 W:PW} {M:Nat→Prop} {s:Sl} {bs:List Iv} {k:Nat} {K:Value→PW→Prop} (h:IsBox 268 W s bs) (hk: ∀x∈bs,IvS k x) (hk2:k≤1048576) (hl:bs.length≤1048576) (kont: ∀(W':PW),Ext W W'→(True)→K (.bool (decide (BoxOK bs))) W'):
  callN Go.Proofs.Tryz.prog W0 M 61 [s.v] W K:=
 callN_of (fun W' hE=>boxRight_ok (M:=fun _=>False) (h.ext hE) hk hk2 hl) (fun W' v W'' hE hE' hP=>by
  obtain⟨rfl,h⟩:=hP
  exact kont W'' (hE.trans hE') h)
def sideA (x:Iv) (i:Int):List Tm:=pnorm (varP i ++ pmap (cst x.1) (-1))
def sideB (x:Iv) (i:Int):List Tm:=pnorm (cst x.2 ++ pmap (varP i) (-1))
def sideP (x:Iv) (i:Int):List Tm:=pnorm (ppairs (sideA x i) (sideB x i))
theorem cst_exp (q:Rat):PExp 0 (cst q):=PExp.norm fun t ht=>by
 rw[List.mem_singleton.1 ht]
 exact⟨(by decide:(⟨0,0,0⟩:Mon).ok),Int.le_refl 0,Int.le_refl 0,Int.le_refl 0⟩
theorem pmap_exp {e:Int} {p:List Tm} (h:PExp e p) (r:Rat):PExp e (pmap p r):=fun t ht=>by
 obtain⟨u,hu,rfl⟩:=List.mem_map.1 ht
 exact h u hu
theorem PExp.le {e e':Int} {p:List Tm} (h:PExp e p) (he:e≤e'):PExp e' p:=fun t ht=>by
 have:=h t ht
 exact⟨this.1,by omega,by omega,by omega⟩
theorem var_exp (i:Int):PExp 1 (varP i):=fun t ht=>by
 unfold varP at ht
 split at ht
 ·rw[List.mem_singleton.1 ht]
  dsimp only
  unfold unitM
  (repeat' split)<;>decide
 ·cases ht
theorem var_bd (i:Int):Bd 4 (varP i):=by
 unfold varP
 split
 ·exact bd_one (Sz.one (Nat.le_refl 1))
 ·exact⟨1,0,trivial,by decide,by rw[nl_one];omega,by rw[nl_zero];omega⟩
theorem var_len1 (i:Int):(varP i).length≤1:=by unfold varP;split<;>simp
theorem cst_len1 (q:Rat):(cst q).length≤1:=pnorm_len [((⟨0,0,0⟩:Mon),q)]
theorem cst_bd4 {q:Rat} (hq:Sz 4000 q):Bd 4003 (cst q):=(bd_one hq).norm
theorem sideA_b {x:Iv} (h:IvS 4000 x) (i:Int):Bd 4009 (sideA x i)∧PExp 1 (sideA x i)∧(sideA x i).length≤2:=by
 refine⟨((var_bd i).append (Bd.pmap (cst_bd4 h.1) sz_m1)).norm.mono (by omega),PExp.norm ((var_exp i).append (pmap_exp ((cst_exp x.1).le (by omega)) _)),?_⟩
 have h1:=pnorm_len (varP i ++ pmap (cst x.1) (-1))
 have h2:=var_len1 i
 have h3:=cst_len1 x.1
 rw[List.length_append,pmap_len] at h1
 unfold sideA
 omega
theorem sideB_b {x:Iv} (h:IvS 4000 x) (i:Int):Bd 4009 (sideB x i)∧PExp 1 (sideB x i)∧(sideB x i).length≤2:=by
 refine⟨((cst_bd4 h.2).append (Bd.pmap (var_bd i) sz_m1)).norm.mono (by omega),PExp.norm (((cst_exp x.2).le (by omega)).append (pmap_exp (var_exp i) _)),?_⟩
 have h1:=pnorm_len (cst x.2 ++ pmap (varP i) (-1))
 have h2:=var_len1 i
 have h3:=cst_len1 x.2
 rw[List.length_append,pmap_len] at h1
 unfold sideB
 omega
theorem side_ok {x:Iv} (h:IvS 4000 x) (i:Int):MulOK (sideA x i) (sideB x i):=mulOK_of (sideA_b h i).2.1 (sideB_b h i).2.1 (by omega)
theorem side_b {x:Iv} (h:IvS 4000 x) (i:Int):Bd 8018 (sideP x i)∧(sideP x i).length≤4:=by
 obtain⟨a1,a2,a3⟩:=sideA_b h i
 obtain⟨b1,b2,b3⟩:=sideB_b h i
 refine⟨(a1.pairs b1).norm,?_⟩
 have h1:=pnorm_len (ppairs (sideA x i) (sideB x i))
 have h2:=Nat.mul_le_mul a3 b3
 rw[ppairs_len] at h1
 unfold sideP
 omega
theorem gramSide_ok {W0:PW} {M:Nat→Prop} {s:Sl} {bs:List Iv} {i:Nat} (h:IsBox 268 W0 s bs) (hi:i<bs.length) (hk: ∀x∈bs,IvS 4000 x):
  PCallsM Go.Proofs.Tryz.prog 63 [s.v,.int .i64 (i:Int)] W0 M fun v W'=>∃(s':Sl),v = .agg ⟨[Sl.v s']⟩∧IsPoly 268 151 W' s' (sideP (bs.getD i (0,0)) i):=by
 have hg:bs.getD i (0,0)=bs[i]:=by rw[List.getD_eq_getElem?_getD,List.getElem?_eq_getElem hi];rfl
 rw[hg]
 apply callgram_side
 refine polyVar_call fun s3 W2 hE2 h2=>⟨s3,rfl,?_⟩
 have hb:=IsBox.ext h hE2
 obtain⟨x,hx,hel⟩:=hb.at hi
 obtain⟨s4,b5,s6,s7,b8,s9,rfl,q1,q2⟩:=hx
 have hz:=hk _ (List.getElem_mem hi)
 have hib:=hb.inB (i:=(i:Int)) (by omega) (by omega)
 refine⟨hib,s4,b5,s6,hel 0 rfl,hib,s7,b8,s9,hel 3 rfl,polyConst_call q1 hz.1 (by omega) fun s12 W11 hE11 h11=>⟨s12,rfl,hE11,?_⟩⟩
 refine polySub_call (k:=5000) (h2.ext hE11) h11 ((var_bd _).mono (by omega)) ((cst_bd4 hz.1).mono (by omega)) (by omega) (by have:=var_len1 (i:Int);omega) (by have:=cst_len1 bs[i].1;unfold cst at this;omega) fun s15 W14 hE14 h14=>⟨s15,rfl,hE14,?_⟩
 refine polyConst_call (q2.ext (hE11.trans hE14)) hz.2 (by omega) fun s18 W17 hE17 h17=>⟨s18,rfl,?_⟩
 refine polySub_call (k:=5000) h17 (h2.ext (hE11.trans (hE14.trans hE17))) ((cst_bd4 hz.2).mono (by omega)) ((var_bd _).mono (by omega)) (by omega) (by have:=cst_len1 bs[i].2;unfold cst at this;omega) (by have:=var_len1 (i:Int);omega) fun s21 W20 hE20 h20=>⟨s21,rfl,?_⟩
 obtain⟨a1,a2,a3⟩:=sideA_b hz (i:Int)
 obtain⟨c1,c2,c3⟩:=sideB_b hz (i:Int)
 have hm:=Nat.mul_le_mul a3 c3
 have h14:IsPoly 268 151 W14 s15 (sideA bs[i] i):=h14
 have h20:IsPoly 268 151 W20 s21 (sideB bs[i] i):=h20
 refine polyMul_call (h14.ext (hE17.trans hE20)) h20 a1 c1 (by omega) (by omega) (by omega) (by omega) fun s24 W23 hE23 h23=>⟨s24,_,rfl,fun W26 hE26=>⟨s24,rfl,?_⟩⟩
 rw[mulP_of (side_ok hz i)] at h23
 exact h23.ext hE26
theorem gramSide_call {W0 W:PW} {M:Nat→Prop} {s:Sl} {bs:List Iv} {i:Nat} {K:Value→PW→Prop} (h:IsBox 268 W s bs) (hi:i<bs.length) (hk: ∀x∈bs,IvS 4000 x) (kont: ∀(s':Sl) (W':PW),Ext W W'→(IsPoly 268 151 W' s' (sideP (bs.getD i (0,0)) i))→K (.agg ⟨[Sl.v s']⟩) W'):
  callN Go.Proofs.Tryz.prog W0 M 63 [s.v,.int .i64 (i:Int)] W K:=
 callN_of (fun W' hE=>gramSide_ok (M:=fun _=>False) (h.ext hE) hi hk) (fun W' v W'' hE hE' hP=>by
  obtain⟨s',rfl,h⟩:=hP
  exact kont s' W'' (hE.trans hE') h)
theorem pairs_ok3 {p q:List Tm} (h:MulOK p q):POk (pnorm (ppairs p q)):=POk.norm fun t ht=>by
 obtain⟨a,ha,hm⟩:=List.mem_flatMap.1 ht
 obtain⟨b,hb,rfl⟩:=List.mem_map.1 hm
 exact h a ha b hb
def sqMul (bs:List Iv) (s:SqP):Option (List Tm):=
 if MulOK s.q s.q then(if 0<s.g then(if MulOK (pnorm (ppairs s.q s.q)) (sideP (bs.getD (s.g-1).toNat (0,0)) ((s.g-1).toNat:Int)) then some (pnorm (ppairs (pnorm (ppairs s.q s.q)) (sideP (bs.getD (s.g-1).toNat (0,0)) ((s.g-1).toNat:Int)))) else none) else some (pnorm (ppairs s.q s.q))) else none
def sqStep (bs:List Iv) (a:Option (List Tm)) (s:SqP):Option (List Tm):=match a,sqMul bs s with
 | some a,some p=>some (pnorm (a ++ pnorm (pmap p s.w)))
 | _,_=>none
def SumOK (l:List SqP) (bs:List Iv):Prop:=BoxOK bs∧∀s∈l,0≤s.g∧s.g≤(bs.length:Int)
instance (l:List SqP) (bs:List Iv):Decidable (SumOK l bs):=by unfold SumOK;infer_instance
def sumP (l:List SqP) (bs:List Iv):Option (List Tm):=if SumOK l bs then l.foldl (sqStep bs) (some []) else none
theorem sqStep_none {bs:List Iv} (a:Option (List Tm)) {s:SqP} (h:sqMul bs s=none):sqStep bs a s=none:=by
 unfold sqStep
 rw[h]
 cases a<;>rfl
theorem sq_none (bs:List Iv): ∀l:List SqP,l.foldl (sqStep bs) none=none
 | []=>rfl
 | s :: l=>by rw[List.foldl_cons];exact sq_none bs l
theorem sumP_bad {l:List SqP} {bs:List Iv} (h:¬SumOK l bs):sumP l bs=none:=if_neg h
theorem sumP_stop {l:List SqP} {bs:List Iv} {j:Nat} (hj:j<l.length) (h:sqMul bs l[j]=none):sumP l bs=none:=by
 unfold sumP
 split
 ·rw[←List.take_append_drop (j+1) l,List.foldl_append,List.take_succ_eq_append_getElem hj,List.foldl_append,List.foldl_cons,List.foldl_nil]
  rw[sqStep_none _ h,sq_none]
 ·rfl
structure SqOK (K w:Nat) (l:List SqP):Prop where
 bd: ∀s∈l,Bd K s.q∧s.q.length≤64∧PGood s.q∧POk s.q
 ws: ∀s∈l,Sz w s.w
 len:l.length≤12
 K1:K≤2000000
 w1:w≤500000
 tot:l.length*(2*K+w+8019)≤27048114
theorem sqMul_b {K w:Nat} {l:List SqP} {bs:List Iv} (hl:SqOK K w l) (hk: ∀x∈bs,IvS 4000 x) {s:SqP} (hs:s∈l) {p:List Tm} (h:sqMul bs s=some p):Bd (2*K+8018) p∧p.length≤16384∧POk p:=by
 obtain⟨h1,h2,h3,h4⟩:=hl.bd s hs
 have hsd:IvS 4000 (bs.getD (s.g-1).toNat (0,0)):=by
  rw[List.getD_eq_getElem?_getD]
  cases e:bs[(s.g-1).toNat]? with
  | none=>exact⟨Sz.zero (by omega),Sz.zero (by omega)⟩
  | some x=>exact hk x (List.mem_of_getElem? e)
 have hsb:=side_b hsd ((s.g-1).toNat:Int)
 have hq:=(h1.pairs h1).norm
 have hql:=pnorm_len (ppairs s.q s.q)
 have hm:=Nat.mul_le_mul h2 h2
 rw[ppairs_len] at hql
 unfold sqMul at h
 split at h
 ·rename_i hM
  split at h
  ·split at h
   ·rename_i hM2
    simp only[Option.some.injEq] at h
    subst h
    have hl2:=pnorm_len (ppairs (pnorm (ppairs s.q s.q)) (sideP (bs.getD (s.g-1).toNat (0,0)) ((s.g-1).toNat:Int)))
    have hm2:=Nat.mul_le_mul (show(pnorm (ppairs s.q s.q)).length≤4096 by omega) hsb.2
    rw[ppairs_len] at hl2
    exact⟨(hq.pairs hsb.1).norm.mono (by omega),by omega,pairs_ok3 hM2⟩
   ·cases h
  ·simp only[Option.some.injEq] at h
   subst h
   exact⟨hq.mono (by omega),by omega,pairs_ok3 hM⟩
 ·cases h
theorem sumS_b {K w:Nat} {l:List SqP} {bs:List Iv} (hl:SqOK K w l) (hk: ∀x∈bs,IvS 4000 x): ∀{j:Nat} {a:List Tm},j≤l.length→(l.take j).foldl (sqStep bs) (some [])=some a→Bd (1+j*(2*K+w+8019)) a∧PGood a∧POk a
 | 0,a,_,h=>by
  simp only[List.take_zero,List.foldl_nil,Option.some.injEq] at h
  subst h
  exact⟨⟨1,0,trivial,by decide,by rw[nl_one];omega,by rw[nl_zero];omega⟩,PGood.nil,fun t ht=>(by cases ht)⟩
 | j+1,a,hj,h=>by
  have hjl:j<l.length:=by omega
  rw[List.take_succ_eq_append_getElem hjl,List.foldl_append,List.foldl_cons,List.foldl_nil] at h
  cases e:(l.take j).foldl (sqStep bs) (some []) with
  | none=>rw[e] at h;cases h
  | some a0=>
   rw[e] at h
   unfold sqStep at h
   split at h
   ·rename_i a' p h1 h2
    cases h1
    simp only[Option.some.injEq] at h
    subst h
    obtain⟨b1,b2,b3⟩:=sumS_b hl hk (by omega) e
    obtain⟨c1,c2,c3⟩:=sqMul_b hl hk (List.getElem_mem hjl) h2
    refine⟨(b1.append (Bd.pmap c1 (hl.ws _ (List.getElem_mem hjl))).norm).norm.mono ?_,pnorm_good _,POk.norm (b3.append (POk.norm fun t ht=>?_))⟩
    ·rw[Nat.add_mul];omega
    ·obtain⟨u,hu,rfl⟩:=List.mem_map.1 ht
     exact c3 u hu
   ·cases h
def suG (W0:PW) (l:List SqP) (m:Int) (L:List PL) (W:PW):Prop:=match L with
 | .val (.int .i64 i) :: _=>∃j:Nat,i=(j:Int)∧j≤l.length∧Ext W0 W∧∀s∈l.take j,0≤s.g∧s.g≤m
 | _=>False
theorem g_snoc {l:List SqP} {m:Int} {j:Nat} (hj:j<l.length) (h: ∀s∈l.take j,0≤s.g∧s.g≤m) (h2:0≤l[j].g∧l[j].g≤m): ∀s∈l.take (j+1),0≤s.g∧s.g≤m:=fun x hx=>by
 rw[List.take_succ_eq_append_getElem hj,List.mem_append,List.mem_singleton] at hx
 rcases hx with hx | rfl
 ·exact h x hx
 ·exact h2
def suS (W0:PW) (l:List SqP) (bs:List Iv) (L:List PL) (W:PW):Prop:=match L with
 | [.val (.int .i64 i),_,.cells [.slice A m c]]=>∃(j:Nat) (a:List Tm),i=(j:Int)∧j≤l.length∧Ext W0 W∧(l.take j).foldl (sqStep bs) (some [])=some a∧IsPoly 268 151 W ⟨A,m,c⟩ a
 | _=>False
theorem sq_step {l:List SqP} {bs:List Iv} {j:Nat} {a p:List Tm} (hj:j<l.length) (h:(l.take j).foldl (sqStep bs) (some [])=some a) (hp:sqMul bs l[j]=some p):(l.take (j+1)).foldl (sqStep bs) (some [])=some (pnorm (a ++ pnorm (pmap p l[j].w))):=by
 rw[List.take_succ_eq_append_getElem hj,List.foldl_append,List.foldl_cons,List.foldl_nil,h]
 unfold sqStep
 rw[hp]
theorem gramSum_ok {W0:PW} {M:Nat→Prop} {s sb:Sl} {l:List SqP} {bs:List Iv} {kb w:Nat} (h:SX.IsSqs 268 151 W0 s l) (hb:IsBox 268 W0 sb bs) (hl:SqOK kb w l) (hk: ∀x∈bs,IvS 4000 x) (hbl:bs.length≤1048576):
  PCallsM Go.Proofs.Tryz.prog 16 [s.v,sb.v] W0 M fun v W'=>∃(s':Sl),v = .tuple ⟨[.agg ⟨[Sl.v s']⟩,.bool (sumP l bs).isSome]⟩∧IsPoly 268 151 W' s' ((sumP l bs).getD []):=by
 apply callgram_Sum
 have hn:=h.n
 have hbn:=hb.n
 have hll:=hl.len
 have hK:=hl.K1
 have hw:=hl.w1
 have htot:=hl.tot
 have bad:sumP l bs=none→∀W':PW,∃s':Sl,(Value.tuple ⟨[.agg ⟨[.slice none 0 0]⟩,.bool false]⟩) = .tuple ⟨[.agg ⟨[Sl.v s']⟩,.bool (sumP l bs).isSome]⟩∧IsPoly 268 151 W' s' ((sumP l bs).getD []):=fun hb W'=>by rw[hb];exact⟨⟨none,0,0⟩,rfl,IsPoly.nil W'⟩
 refine boxRight_call hb hk (by omega) hbl fun W2 hE2 _=>⟨_,rfl,fun hno W4 _=>bad (sumP_bad fun e=>?_) W4,fun hyes=>?_⟩
 ·have:¬BoxOK bs:=by simpa using hno
  exact this e.1
 have hBox:BoxOK bs:=by simpa using hyes
 refine⟨suG W2 l bs.length,cn1 l.length,⟨0,rfl,Nat.zero_le _,Ext.refl _,fun x hx=>(by cases hx)⟩,?_⟩
 rintro s7 i8 W9 ⟨j,rfl,hj,hE9,hall⟩
 have h9:=IsSqs.ext h (hE2.trans hE9)
 refine⟨fun hlt=>?_,fun hge=>?_⟩
 ·have hjl:j<l.length:=by omega
  have hmem:=List.getElem_mem hjl
  obtain⟨x,⟨s10,b11,s12,s14,rfl,_,_⟩,hel⟩:=h9.at hjl
  refine⟨h9.inB (by omega) (by omega),s10,b11,s12,_,s14,hel 0 rfl,fun hneg W15 _=>bad (sumP_bad fun e=>by have:=(e.2 _ hmem).1;omega) W15,fun hnn=>⟨fun hgt W16 _=>bad (sumP_bad fun e=>by have:=(e.2 _ hmem).2;omega) W16,fun hle=>⟨by unfold I64;omega,⟨j+1,by push_cast;rfl,by omega,hE9,g_snoc hjl hall ⟨by omega,by omega⟩⟩,?_⟩⟩⟩
  show l.length-Int.toNat ((j:Int)+1)<l.length-Int.toNat (j:Int)
  omega
 have:j=l.length:=by omega
 subst this
 rw[List.take_length] at hall
 have hOK:SumOK l bs:=⟨hBox,hall⟩
 have hsum:sumP l bs=l.foldl (sqStep bs) (some []):=if_pos hOK
 refine⟨suS W9 l bs,cn1 l.length,⟨0,[],rfl,Nat.zero_le _,Ext.refl _,rfl,IsPoly.nil W9⟩,?_⟩
 rintro s19 s20 i21 W22 ⟨j,a,rfl,hj,hE22,ha,hA⟩
 have hA:IsPoly 268 151 W22 s20 a:=hA
 have E22:=(hE2.trans hE9).trans hE22
 have h22:=IsSqs.ext h E22
 refine⟨fun hlt=>?_,fun hge W60 hE60=>⟨s20,?_,?_⟩⟩
 ·have hjl:j<l.length:=by omega
  have hmem:=List.getElem_mem hjl
  obtain⟨x,⟨s23,b24,s25,s27,rfl,qw,qp⟩,hel⟩:=h22.at hjl
  obtain⟨q1,q2,q3,q4⟩:=hl.bd _ hmem
  have qz:=hl.ws _ hmem
  have hm:=Nat.mul_le_mul q2 q2
  obtain⟨a1,a2,a3⟩:=sumS_b hl hk hj ha
  have haL:=a2.len a3
  have hj6:=Nat.mul_le_mul_right (2*kb+w+8019) (show j≤l.length by omega)
  have hmu:l.length-Int.toNat ((j:Int)+1)<l.length-Int.toNat (j:Int):=by omega
  have fin: ∀{p:List Tm} {sp:Sl} {W:PW},sqMul bs l[j]=some p→Ext W22 W→IsPoly 268 151 W sp p→callN Go.Proofs.Tryz.prog W0 M 33 [.agg ⟨[sp.v]⟩,.agg ⟨[s23.v,.bool b24,s25.v]⟩] W fun v40 W41=>∃s42:Sl,v40 = .agg ⟨[s42.v]⟩∧callN Go.Proofs.Tryz.prog W0 M 18 [.agg ⟨[s20.v]⟩,.agg ⟨[s42.v]⟩] W41 fun v43 W44=>∃s45:Sl,v43 = .agg ⟨[s45.v]⟩∧I64 ((j:Int)+1)∧stp (suS W9 l bs) (cn1 l.length) [.val (.int .i64 ((j:Int)+1)),.cells [s19.v],.cells [s45.v]] W44 [.val (.int .i64 (j:Int)),.cells [s19.v],.cells [s20.v]] W22:=fun {p sp W} hp hE hP=>by
   obtain⟨p1,p2,p3⟩:=sqMul_b hl hk hmem hp
   have hpb:=Bd.pmap p1 qz
   have hpl:=pmap_len p l[j].w
   have hpl2:=pnorm_len (pmap p l[j].w)
   refine polyScale_call hP (qw.ext hE) p1 qz (by omega) (by omega) (by omega) fun s42 W41 hE41 h41=>⟨s42,rfl,?_⟩
   refine polyAdd_call (k:=30000000) (hA.ext (hE.trans hE41)) h41 (a1.mono (by omega)) (hpb.norm.mono (by omega)) (by omega) (by omega) (by omega) fun s45 W44 hE44 h44=>⟨s45,rfl,by unfold I64;omega,⟨j+1,_,by push_cast;rfl,by omega,hE22.trans (hE.trans (hE41.trans hE44)),sq_step hjl ha hp,h44⟩,hmu⟩
  refine⟨h22.inB (by omega) (by omega),s23,b24,s25,_,s27,hel 0 rfl,polyMul_call qp qp q1 q1 (by omega) (by omega) (by omega) (by omega) fun s30 W29 hE29 h29=>⟨s30,_,rfl,fun hM=>?_,fun hM=>⟨fun _ W53 _=>bad (sumP_stop hjl ?_) W53,fun e=>absurd e (by rw[hM];decide)⟩⟩⟩
  ·have hM:MulOK l[j].q l[j].q:=of_decide_eq_true hM
   rw[mulP_of hM] at h29
   have hpb:=(q1.pairs q1).norm
   have hpl:=pnorm_len (ppairs l[j].q l[j].q)
   rw[ppairs_len] at hpl
   refine⟨fun hg=>⟨by unfold I64;have:=(hall _ hmem).2;omega,?_⟩,fun hg=>⟨fun e=>absurd e (by simp[hM]),fun _=>fin (by unfold sqMul;rw[if_pos hM,if_neg hg]) hE29 h29⟩⟩
   have hgl:=(hall _ hmem).2
   obtain⟨i,hi⟩:=Int.eq_ofNat_of_zero_le (show 0≤l[j].g-1 by omega)
   have hib:i<bs.length:=by omega
   rw[hi]
   have hsd:IvS 4000 (bs.getD i (0,0)):=by rw[List.getD_eq_getElem?_getD,List.getElem?_eq_getElem hib];exact hk _ (List.getElem_mem hib)
   have hsb:=side_b hsd (i:Int)
   have hm2:=Nat.mul_le_mul (show(pnorm (ppairs l[j].q l[j].q)).length≤4096 by omega) hsb.2
   refine gramSide_call (IsBox.ext hb (E22.trans hE29)) hib hk fun s34 W33 hE33 h33=>⟨s34,rfl,?_⟩
   refine polyMul_call (k:=5000000) (h29.ext hE33) h33 (hpb.mono (by omega)) (hsb.1.mono (by omega)) (by omega) (by omega) (by omega) (by omega) fun s37 W36 hE36 h36=>⟨s37,_,rfl,fun hno W39 _=>bad (sumP_stop hjl ?_) W39,fun hyes=>?_⟩
   ·have hno:¬MulOK (pnorm (ppairs l[j].q l[j].q)) (sideP (bs.getD i (0,0)) i):=by simpa using hno
    unfold sqMul
    rw[if_pos hM,if_pos hg,hi,Int.toNat_natCast,if_neg hno]
   ·have hyes:MulOK (pnorm (ppairs l[j].q l[j].q)) (sideP (bs.getD i (0,0)) i):=by simpa using hyes
    rw[mulP_of hyes] at h36
    exact fin (by unfold sqMul;rw[if_pos hM,if_pos hg,hi,Int.toNat_natCast,if_pos hyes]) (hE29.trans (hE33.trans hE36)) h36
  ·have hM:¬MulOK l[j].q l[j].q:=of_decide_eq_false hM
   unfold sqMul
   rw[if_neg hM]
 ·have:j=l.length:=by omega
  subst this
  rw[List.take_length] at ha
  rw[hsum,ha]
  rfl
 ·have:j=l.length:=by omega
  subst this
  rw[List.take_length] at ha
  rw[hsum,ha]
  exact hA.ext hE60
theorem gramSum_call {W0 W:PW} {M:Nat→Prop} {s sb:Sl} {l:List SqP} {bs:List Iv} {kb w:Nat} {K:Value→PW→Prop} (h:SX.IsSqs 268 151 W s l) (hb:IsBox 268 W sb bs) (hl:SqOK kb w l) (hk: ∀x∈bs,IvS 4000 x) (hbl:bs.length≤1048576) (kont: ∀(s':Sl) (W':PW),Ext W W'→(IsPoly 268 151 W' s' ((sumP l bs).getD []))→K (.tuple ⟨[.agg ⟨[Sl.v s']⟩,.bool (sumP l bs).isSome]⟩) W'):
  callN Go.Proofs.Tryz.prog W0 M 16 [s.v,sb.v] W K:=
 callN_of (fun W' hE=>gramSum_ok (M:=fun _=>False) (h.ext hE) (hb.ext hE) hl hk hbl) (fun W' v W'' hE hE' hP=>by
  obtain⟨s',rfl,h⟩:=hP
  exact kont s' W'' (hE.trans hE') h)
end Go.Proofs.YtnlmddaakeigdaaGreatDoor

/- The reference's Sum. -/
set_option maxRecDepth 100000
set_option linter.unusedVariables false
set_option linter.unusedSimpArgs false
namespace Go.Proofs.YtnlmddaakeigdaaGreatDoor
open Go Go.SX
end Go.Proofs.YtnlmddaakeigdaaGreatDoor

/- An argument that is a slice of terms with texts, opened. -/
set_option maxRecDepth 100000
set_option linter.unusedVariables false
set_option linter.unusedSimpArgs false
namespace Go.Proofs.YtnlmddaakeigdaaGreatDoor
open Go Go.SX Go.ChangeShapes Go.WideShapes Go.ChangeAt Go.RowKit Go.Deep
instance:Inhabited (Mon×ByteArray):=⟨(⟨0,0,0⟩,⟨#[]⟩)⟩
theorem cells_term:Go.Proofs.Tryz.prog.cellsOf 141=4:=by kernel_rfl
theorem cells_mono:Go.Proofs.Tryz.prog.cellsOf 139=3:=by kernel_rfl
theorem cells_u8:Go.Proofs.Tryz.prog.cellsOf 5=1:=by kernel_rfl
theorem u8_ok {n:Int} (h:(Lit.int .u8 n).wf=true):0≤n∧n≤255:=by
 simp[Lit.wf,IntKind.min,IntKind.max,IntKind.bits,IntKind.signed] at h
 omega
theorem open_term {H:Type} {enc:TypeId×Value→H} {W:World} {fuel:Nat} {cs:List Value} {x:DataW H×List MemPlace} (h:DataW.trod enc Go.Proofs.Tryz.prog W 0 (fun _=>true) true fuel 141 cs=some x):
  ∃t:Mon×ByteArray,AT cs t∧t.2.size≤Rows.uptoBulk x.1:=by
 obtain⟨xs,k,rfl,rfl,hl,hxl,hf⟩:=DataW.trod_struct Go.Proofs.Tryz.underlying141 h
 rw[cells_term] at hl
 have g0:DataW.trod enc Go.Proofs.Tryz.prog W 0 (fun _=>true) true k 139 ((cs.drop 0).take (Go.Proofs.Tryz.prog.cellsOf 139))=xs[0]?:=hf 0 _ rfl
 have g1:DataW.trod enc Go.Proofs.Tryz.prog W 0 (fun _=>true) true k 9 ((cs.drop 3).take (Go.Proofs.Tryz.prog.cellsOf 9))=xs[1]?:=hf 1 _ rfl
 rw[cells_mono] at g0
 rw[cells_str] at g1
 match cs,hl,xs,hxl with
 | [v0,v1,v2,v3],_,[y0,y1],_=>
  have g0:DataW.trod enc Go.Proofs.Tryz.prog W 0 (fun _=>true) true k 139 [v0,v1,v2]=some y0:=g0
  have g1:DataW.trod enc Go.Proofs.Tryz.prog W 0 (fun _=>true) true k 9 [v3]=some y1:=g1
  obtain⟨zs,m,rfl,rfl,_,hzl,hz⟩:=DataW.trod_array Go.Proofs.Tryz.underlying139 g0
  obtain⟨s,hs,rfl,hsz⟩:=DataW.trod_string Go.Proofs.Tryz.underlying9 g1
  have e0:=hz 0 (by omega)
  have e1:=hz 1 (by omega)
  have e2:=hz 2 (by omega)
  rw[cells_u8] at e0 e1 e2
  match zs,hzl with
  | [w0,w1,w2],_=>
   have e0:DataW.trod enc Go.Proofs.Tryz.prog W 0 (fun _=>true) true m 5 [v0]=some w0:=e0
   have e1:DataW.trod enc Go.Proofs.Tryz.prog W 0 (fun _=>true) true m 5 [v1]=some w1:=e1
   have e2:DataW.trod enc Go.Proofs.Tryz.prog W 0 (fun _=>true) true m 5 [v2]=some w2:=e2
   obtain⟨n0,h0,_,k0⟩:=DataW.trod_int Go.Proofs.Tryz.underlying5 e0
   obtain⟨n1,h1,_,k1⟩:=DataW.trod_int Go.Proofs.Tryz.underlying5 e1
   obtain⟨n2,h2,_,k2⟩:=DataW.trod_int Go.Proofs.Tryz.underlying5 e2
   have hs: [v3] = [Value.string s]:=hs
   have h0: [v0] = [Value.int .u8 n0]:=h0
   have h1: [v1] = [Value.int .u8 n1]:=h1
   have h2: [v2] = [Value.int .u8 n2]:=h2
   simp only[List.cons.injEq,and_true] at hs h0 h1 h2
   subst hs h0 h1 h2
   refine⟨(⟨n0,n1,n2⟩,s),⟨⟨u8_ok k0,u8_ok k1,u8_ok k2⟩,rfl⟩,?_⟩
   have e:s.data.toList.length=s.size:=by rw[Array.length_toList];rfl
   simp only[List.map_cons,List.map_nil,Rows.uptoBulk,Rows.uptoBulkAll]
   omega
theorem all2_map {n:Nat} {V:Nat→List Value} {y:Nat→Mon×ByteArray} (h: ∀i,i<n→AT (V i) (y i)):All2 AT ((List.range n).map V) ((List.range n).map y):=by
 induction n with
 | zero=>trivial
 | succ n ih=>
  rw[List.range_succ,List.map_append,List.map_append]
  exact(ih fun i hi=>h i (by omega)).append ⟨h n (by omega),trivial⟩
theorem open_terms {H:Type} {enc:TypeId×Value→H} {W:World} {fuel:Nat} {v:Value} {d:DataW H} {p:List MemPlace} (h:DataW.trod enc Go.Proofs.Tryz.prog W 0 (fun _=>true) true fuel 72 [v]=some (d,p)):
  ∃(s:Sl) (L:List (Mon×ByteArray)),v=s.v∧IsAPoly ⟨W,fun _=>False⟩ s L∧L.length≤Rows.uptoBulk d∧∀t∈L,t.2.size≤Rows.uptoBulk d:=by
 rcases open_slice Go.Proofs.Tryz.underlying72 h with⟨hcs,hx⟩ | ⟨a,len,cap,m,n,D,Pl,hcs,_,hl,hm,hmm,hx,hcell⟩
 ·have hv:v = .slice none 0 0:=by simpa using hcs
  subst hv
  exact⟨⟨none,0,0⟩,[],rfl,⟨[],⟨0,rfl,Nat.le_refl _,Nat.zero_le _,fun x h=>by simp at h,.inl rfl⟩,trivial⟩,Nat.zero_le _,fun l h=>by simp at h⟩
 ·have hv:v = .slice (some a) len cap:=by simpa using hcs
  subst hv
  simp only[if_true] at hmm
  subst hmm
  simp only[Prod.mk.injEq] at hx
  obtain⟨rfl,_⟩:=hx
  rw[cells_term] at hcell
  obtain⟨q,hq⟩: ∃q:Nat→List Value×(Mon×ByteArray),∀i,i<m→W.cells? 0 (a.add (i*4)) 4=some (q i).1∧AT (q i).1 (q i).2∧(q i).2.2.size≤Rows.uptoBulk (D i):=choose_lt (α:=List Value×(Mon×ByteArray)) (p:=fun i q=>W.cells? 0 (a.add (i*4)) 4=some q.1∧AT q.1 q.2∧q.2.2.size≤Rows.uptoBulk (D i)) fun i hi=>by
   obtain⟨cs',h1,h2⟩:=hcell i hi
   obtain⟨t,h3,h4⟩:=open_term h2
   exact⟨(cs',t),h1,h3,h4⟩
  have hr:=rowA_of_cellsN (W:=W) (a:=a) (n:=len) (c:=m) (sz:=4) (V:=fun i=>(q i).1) (fun j hj i v hv=>by
   obtain⟨_,hlen,hc⟩:=World.cells?_some (hq j (by omega)).1
   have hi:i<4:=by have:=(List.getElem?_eq_some_iff.1 hv).1;omega
   have:=hc i hi
   rw[add_add] at this
   rw[this];exact hv) (fun j hj=>(World.cells?_some (hq j (by omega)).1).2.1) (by omega) hl hm (fun j hj u hu=>by
   rw[(hq j (by omega)).2.1.2] at hu
   simp only[List.mem_cons,List.not_mem_nil,or_false] at hu
   rcases hu with rfl | rfl | rfl | rfl<;>rfl)
  have hbulk: ∀i,i<len→Rows.uptoBulk (D i)≤Rows.uptoBulkAll ((List.range len).map D):=fun i hi=>bulk_part (List.mem_map.2 ⟨i,List.mem_range.2 hi,rfl⟩)
  have hlen:=bulk_length ((List.range len).map D)
  simp only[List.length_map,List.length_range] at hlen
  refine⟨⟨some a,len,m⟩,(List.range len).map fun i=>(q i).2,rfl,⟨_,hr,all2_map fun i hi=>(hq i (by omega)).2.1⟩,?_,fun t ht=>?_⟩
  ·simp only[List.length_map,List.length_range,Rows.uptoBulk]
   omega
  ·obtain⟨j,hj,rfl⟩:=List.mem_map.1 ht
   have hj':=List.mem_range.1 hj
   have h1:=hbulk j hj'
   have h2:=(hq j (by omega)).2.2
   simp only[Rows.uptoBulk]
   omega
end Go.Proofs.YtnlmddaakeigdaaGreatDoor
