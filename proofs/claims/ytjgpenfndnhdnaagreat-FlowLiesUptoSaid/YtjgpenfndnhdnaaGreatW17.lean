/- flow.Right, flow.next, flow.Lie; cinctureref1: FieldRight, Lie. -/
import Derived.Test.YtjgpenfndnhdnaaGreatW16
import Derived.Test.YtjgpenfndnhdnaaGreatW15
import Derived.Test.YtjgpenfndnhdnaaGreatR21
import Derived.Test.YtjgpenfndnhdnaaGreatLib4
import Derived.Test.YtjgpenfndnhdnaaGreatLib2
import Derived.Test.YtjgpenfndnhdnaaGreatLib3
import Derived.Test.YtjgpenfndnhdnaaGreatRows
import Derived.WalkKit
import Derived.ProofKit
import Derived.OpenShut
import Derived.JoinedCond
import Derived.Carry
import Derived.Deep.Strs
import Derived.Deep.Slices
set_option linter.unusedVariables false
set_option linter.unusedSimpArgs false
set_option maxRecDepth 100000
set_option linter.unusedVariables false
set_option linter.unusedSimpArgs false
namespace Go.Proofs.YtjgpenfndnhdnaaGreat
open Go Go.SX
def FieldP (f:List (List Tm)):Prop:=(∀p∈f,maxf varsM 0 p≤(f.length:Int))∧1≤f.length∧f.length≤2
instance (f:List (List Tm)):Decidable (FieldP f):=inferInstanceAs (Decidable (_∧_))
def frI (W0:PW) (f:List (List Tm)) (L:List PL) (W:PW):Prop:=match L with
 | [.val (.int .i64 i)]=>∃j:Nat,i=(j:Int)∧j≤f.length∧Ext W0 W∧∀p∈f.take j,maxf varsM 0 p≤(f.length:Int)
 | _=>False
theorem all_snoc {α:Type} {Q:α→Prop} {l:List α} {j:Nat} (hj:j<l.length) (h: ∀p∈l.take j,Q p) (h2:Q l[j]): ∀p∈l.take (j+1),Q p:=fun p hp=>by
 rw[List.take_add_one,List.getElem?_eq_getElem hj] at hp
 rcases List.mem_append.1 hp with hp | hp
 ·exact h p hp
 ·have:p=l[j]:=by simpa using hp
  rw[this];exact h2
theorem flowRight_ok {W0:PW} {M:Nat→Prop} {s:Sl} {f:List (List Tm)} (h:Ps W0 s f) (hl:f.length≤1099511627776) (hp: ∀p∈f,p.length≤1099511627776):
  PCallsM Go.Proofs.Tryz.prog 33 [s.v] W0 M fun v W'=>v = .bool (decide (FieldP f))∧True:=by
 apply callflow_Right
 have hn:=h.n
 refine⟨frI W0 f,cnL1 f.length,⟨0,rfl,Nat.zero_le _,Ext.refl _,fun p hp=>by simp at hp⟩,?_⟩
 rintro i3 W4 ⟨j,rfl,hj,hE,hall⟩
 refine⟨fun hlt=>?_,fun hge=>?_⟩
 ·have hjl:j<f.length:=by omega
  obtain⟨x,hx,hq⟩:=(h.ext hE).at hjl
  refine⟨(h.ext hE).inB (by omega) (by omega),x,hx,polyVars_call hq (hp _ (List.getElem_mem hjl)) fun W7 hE7 _=>⟨_,rfl,fun hbig W9 _=>⟨?_,trivial⟩,fun hok=>⟨by unfold I64;omega,⟨j+1,by push_cast;rfl,by omega,hE.trans hE7,all_snoc hjl hall (by omega)⟩,?_⟩⟩⟩
  ·rw[decide_eq_false]
   intro hF
   have:=hF.1 _ (List.getElem_mem hjl)
   omega
  ·show f.length-Int.toNat ((j:Int)+1)<f.length-Int.toNat (j:Int)
   omega
 ·have:j=f.length:=by omega
  subst this
  rw[List.take_length] at hall
  refine⟨fun h1 W10 _=>⟨?_,trivial⟩,fun h1 W11 _=>⟨?_,trivial⟩⟩
  ·congr 1
   rw[decide_eq_decide]
   exact⟨fun h2=>⟨hall,by omega,by omega⟩,fun hF=>by have:=hF.2.2;omega⟩
  ·rw[decide_eq_false]
   intro hF
   have:=hF.2.1
   omega
theorem flowRight_call {W0 W:PW} {M:Nat→Prop} {s:Sl} {f:List (List Tm)} {K:Value→PW→Prop} (h:Ps W s f) (hl:f.length≤1099511627776) (hp: ∀p∈f,p.length≤1099511627776) (kont: ∀(W':PW),Ext W W'→(True)→K (.bool (decide (FieldP f))) W'):
  callN Go.Proofs.Tryz.prog W0 M 33 [s.v] W K:=
 callN_of (fun W' hE=>flowRight_ok (M:=fun _=>False) (h.ext hE) hl hp) (fun W' v W'' hE hE' hP=>by
  obtain⟨rfl,h⟩:=hP
  exact kont W'' (hE.trans hE') h)
theorem refFieldRight_ok {W0:PW} {M:Nat→Prop} {s:Sl} {f:List (List Tm)} (h:RPs W0 s f) (hl:f.length≤1099511627776) (hp: ∀p∈f,p.length≤1099511627776):
  PCallsM Go.Proofs.Tryz.prog 34 [s.v] W0 M fun v W'=>v = .bool (decide (FieldP f))∧True:=by
 apply callref1_FieldRight
 have hn:=h.n
 refine⟨fun h1 W1 _=>⟨?_,trivial⟩,fun h1=>⟨fun h2 W2 _=>⟨?_,trivial⟩,fun h2=>?_⟩⟩
 ·rw[decide_eq_false]
  intro hF
  have:=hF.2.1
  omega
 ·rw[decide_eq_false]
  intro hF
  have:=hF.2.2
  omega
 refine⟨frI W0 f,cnL1 f.length,⟨0,rfl,Nat.zero_le _,Ext.refl _,fun p hp=>by simp at hp⟩,?_⟩
 rintro i3 W4 ⟨j,rfl,hj,hE,hall⟩
 refine⟨fun hlt=>?_,fun hge W12 _=>⟨?_,trivial⟩⟩
 ·have hjl:j<f.length:=by omega
  obtain⟨x,hx,hq⟩:=(h.ext hE).at hjl
  refine⟨(h.ext hE).inB (by omega) (by omega),x,hx,refPolyVars_call hq (hp _ (List.getElem_mem hjl)) fun W7 hE7 _=>⟨_,rfl,fun hbig W9 _=>⟨?_,trivial⟩,fun hok=>⟨by unfold I64;omega,⟨j+1,by push_cast;rfl,by omega,hE.trans hE7,all_snoc hjl hall (by omega)⟩,?_⟩⟩⟩
  ·rw[decide_eq_false]
   intro hF
   have:=hF.1 _ (List.getElem_mem hjl)
   omega
  ·show f.length-Int.toNat ((j:Int)+1)<f.length-Int.toNat (j:Int)
   omega
 ·have:j=f.length:=by omega
  subst this
  rw[List.take_length] at hall
  rw[decide_eq_true ⟨hall,by omega,by omega⟩]
theorem refFieldRight_call {W0 W:PW} {M:Nat→Prop} {s:Sl} {f:List (List Tm)} {K:Value→PW→Prop} (h:RPs W s f) (hl:f.length≤1099511627776) (hp: ∀p∈f,p.length≤1099511627776) (kont: ∀(W':PW),Ext W W'→(True)→K (.bool (decide (FieldP f))) W'):
  callN Go.Proofs.Tryz.prog W0 M 34 [s.v] W K:=
 callN_of (fun W' hE=>refFieldRight_ok (M:=fun _=>False) (h.ext hE) hl hp) (fun W' v W'' hE hE' hP=>by
  obtain⟨rfl,h⟩:=hP
  exact kont W'' (hE.trans hE') h)
def nextK (f:List (List Tm)) (g:List Tm):Nat→Option (List Tm)
 | 0=>some []
 | j+1=>match nextK f g j with
  | none=>none
  | some a=>if MulOK (diffP g (j:Int)) (f.getD j []) then some (pnorm (a ++ pnorm (ppairs (diffP g (j:Int)) (f.getD j [])))) else none
def nextP (f:List (List Tm)) (g:List Tm):Option (List Tm):=nextK f g f.length
theorem nextK_none {f:List (List Tm)} {g:List Tm} {j:Nat} (h:nextK f g j=none): ∀k,j≤k→nextK f g k=none
 | 0,hk=>by
  have:j=0:=by omega
  subst this
  exact h
 | k+1,hk=>by
  by_cases e:j=k+1
  ·subst e;exact h
  ·rw[nextK,nextK_none h k (by omega)]
structure FldOK (f:List (List Tm)):Prop where
 bd: ∀q∈f,Bd 56029 q∧q.length≤14
 len:f.length≤2
structure GOK (l:Nat) (g:List Tm):Prop where
 bd:Bd l g
 good:PGood g
 ok:POk g
theorem GOK.len {l:Nat} {g:List Tm} (h:GOK l g):g.length≤16777216:=h.good.len h.ok
theorem getD_mem2 {f:List (List Tm)} {j:Nat} (hj:j<f.length):f.getD j []=f[j]:=by rw[List.getD_eq_getElem?_getD,List.getElem?_eq_getElem hj];rfl
theorem pairs_ok {p q:List Tm} (h:MulOK p q):POk (pnorm (ppairs p q)):=POk.norm fun t ht=>by
 obtain⟨a,ha,hm⟩:=List.mem_flatMap.1 ht
 obtain⟨b,hb,rfl⟩:=List.mem_map.1 hm
 exact h a ha b hb
def nb (l:Nat):Nat→Nat
 | 0=>1
 | j+1=>nb l j+(l+1+56029)+1
theorem nextK_ok {f:List (List Tm)} {g:List Tm} {l:Nat} (hf:FldOK f) (hg:GOK l g): ∀{j:Nat} {a:List Tm} (_:j≤f.length) (_:nextK f g j=some a),Bd (nb l j) a∧PGood a∧POk a
 | 0,a,_,h=>by
  simp only[nextK,Option.some.injEq] at h
  subst h
  exact⟨⟨1,0,trivial,by decide,by rw[nl_one];exact Nat.le_refl 1,by rw[nl_zero];exact Nat.zero_le 1⟩,PGood.nil,fun t ht=>by simp at ht⟩
 | j+1,a,hj,h=>by
  rw[nextK] at h
  split at h
  ·cases h
  ·rename_i a' ha'
   split at h
   ·rename_i hM
    simp only[Option.some.injEq] at h
    subst h
    have ih:=nextK_ok hf hg (by omega) ha'
    have hm:=hf.bd _ (List.getElem_mem (show j<f.length by omega))
    rw[←getD_mem2] at hm
    have hB:=(diffP_bd hg.bd hg.ok (j:Int)).pairs hm.1
    exact⟨(ih.1.append hB.norm).norm.mono (by simp only[nb];omega),pnorm_good _,(ih.2.2.append (pairs_ok hM)).norm⟩
   ·cases h
def nxI (W0:PW) (f:List (List Tm)) (g:List Tm) (L:List PL) (W:PW):Prop:=match L with
 | [.val (.int .i64 i),_,.cells [.slice A n c]]=>∃(j:Nat) (a:List Tm),i=(j:Int)∧j≤f.length∧Ext W0 W∧nextK f g j=some a∧IsPoly 260 136 W ⟨A,n,c⟩ a
 | _=>False
theorem nb_le {l j:Nat} (hl:l≤2000000) (hj:j≤2):nb l j≤5000000:=by
 rcases(by omega:j=0∨j=1∨j=2) with rfl | rfl | rfl<;>simp only[nb]<;>omega
theorem flowNext_ok {W0:PW} {M:Nat→Prop} {s sg:Sl} {f:List (List Tm)} {g:List Tm} {l:Nat} (h:Ps W0 s f) (hp:IsPoly 260 136 W0 sg g) (hf:FldOK f) (hg:GOK l g) (hl:l≤2000000):
  PCallsM Go.Proofs.Tryz.prog 87 [s.v,.agg ⟨[sg.v]⟩] W0 M fun v W'=>∃(s':Sl),v = .tuple ⟨[.agg ⟨[Sl.v s']⟩,.bool (nextP f g).isSome]⟩∧IsPoly 260 136 W' s' ((nextP f g).getD []):=by
 apply callflow_next
 have hn:=h.n
 have hfl:=hf.len
 have hgl:=hg.len
 refine⟨nxI W0 f g,fun L _=>match L with | [.val (.int .i64 i),_,_]=>f.length-i.toNat | _=>0,⟨0,[],rfl,Nat.zero_le _,Ext.refl _,rfl,IsPoly.nil W0⟩,?_⟩
 rintro s3 s4 i5 W6 ⟨j,a,rfl,hj,hE,ha,hP⟩
 have hP:IsPoly 260 136 W6 s4 a:=hP
 have hA:=nextK_ok hf hg hj ha
 have hal:=PGood.len hA.2.1 hA.2.2
 have hnb:=nb_le hl (Nat.le_trans hj hfl)
 refine⟨fun hlt=>?_,fun hge W19 hE19=>⟨s4,?_,?_⟩⟩
 ·have hjl:j<f.length:=by omega
  obtain⟨x,hx,hq⟩:=(h.ext hE).at hjl
  have hm:=hf.bd _ (List.getElem_mem hjl)
  have hdb:=diffP_bd hg.bd hg.ok (j:Int)
  have hdl:=diffP_len g (j:Int)
  refine⟨(h.ext hE).inB (by omega) (by omega),x,hx,polyDiff_call (hp.ext hE) hg.bd (by omega) (by omega) fun s10 W9 hE9 h9=>⟨s10,rfl,?_⟩⟩
  refine polyMul_call (k:=3000000) h9 (hq.ext hE9) (hdb.mono (by omega)) (hm.1.mono (by omega)) (by omega) (by omega) (by omega) (by have:=Nat.mul_le_mul (Nat.le_trans hdl hgl) hm.2;omega) fun s13 W12 hE12 h12=>⟨s13,_,rfl,fun hno W15 _=>?_,fun hyes=>?_⟩
  ·have hM:¬MulOK (diffP g (j:Int)) f[j]:=by simpa using hno
   have:nextP f g=none:=nextK_none (j:=j+1) (by rw[nextK,ha,getD_mem2 hjl];dsimp only;rw[if_neg hM]) _ hjl
   rw[this]
   exact⟨⟨none,0,0⟩,rfl,IsPoly.nil W15⟩
  ·have hM:MulOK (diffP g (j:Int)) f[j]:=by simpa using hyes
   rw[mulP_of hM] at h12
   have hB:=(hdb.pairs hm.1).norm
   have hpl:=PGood.len (pnorm_good (ppairs (diffP g (j:Int)) f[j])) h12.ok
   refine polyAdd_call (k:=5000000) (hP.ext (hE9.trans hE12)) h12 (hA.1.mono (by omega)) (hB.mono (by omega)) (by omega) (by omega) (by omega) fun s18 W17 hE17 h17=>⟨s18,rfl,by unfold I64;omega,⟨j+1,pnorm (a ++ pnorm (ppairs (diffP g (j:Int)) f[j])),by push_cast;rfl,by omega,hE.trans (hE9.trans (hE12.trans hE17)),?_,h17⟩,?_⟩
   ·rw[nextK,ha,getD_mem2 hjl]
    dsimp only
    rw[if_pos hM]
   ·show f.length-Int.toNat ((j:Int)+1)<f.length-Int.toNat (j:Int)
    omega
 ·have:j=f.length:=by omega
  subst this
  unfold nextP
  rw[ha]
  rfl
 ·have:j=f.length:=by omega
  subst this
  unfold nextP
  rw[ha]
  exact hP.ext hE19
theorem flowNext_call {W0 W:PW} {M:Nat→Prop} {s sg:Sl} {f:List (List Tm)} {g:List Tm} {l:Nat} {K:Value→PW→Prop} (h:Ps W s f) (hp:IsPoly 260 136 W sg g) (hf:FldOK f) (hg:GOK l g) (hl:l≤2000000) (kont: ∀(s':Sl) (W':PW),Ext W W'→(IsPoly 260 136 W' s' ((nextP f g).getD []))→K (.tuple ⟨[.agg ⟨[Sl.v s']⟩,.bool (nextP f g).isSome]⟩) W'):
  callN Go.Proofs.Tryz.prog W0 M 87 [s.v,.agg ⟨[sg.v]⟩] W K:=
 callN_of (fun W' hE=>flowNext_ok (M:=fun _=>False) (h.ext hE) (hp.ext hE) hf hg hl) (fun W' v W'' hE hE' hP=>by
  obtain⟨s',rfl,h⟩:=hP
  exact kont s' W'' (hE.trans hE') h)
def lieN (f:List (List Tm)) (i:Nat):Nat→Option (List Tm)
 | 0=>some (varP (i:Int))
 | n+1=>match lieN f i n with
  | none=>none
  | some g=>nextP f g
theorem lieN_none {f:List (List Tm)} {i n:Nat} (h:lieN f i n=none): ∀k,n≤k→lieN f i k=none
 | 0,hk=>by
  have:n=0:=by omega
  subst this
  exact h
 | k+1,hk=>by
  by_cases e:n=k+1
  ·subst e;exact h
  ·rw[lieN,lieN_none h k (by omega)]
def LieOK (f:List (List Tm)) (k:Int):Prop:=FieldP f∧(0≤k∧k≤4)∧∀i,i<f.length→(lieN f i k.toNat).isSome=true
noncomputable def lieP (f:List (List Tm)) (k:Int):Option (List (List Tm)):=by
 classical exact if LieOK f k then some ((List.range f.length).map fun i=>(lieN f i k.toNat).getD []) else none
theorem lieP_bad {f:List (List Tm)} {k:Int} (h:¬LieOK f k):lieP f k=none:=by unfold lieP;rw[if_neg h]
theorem lieP_good {f:List (List Tm)} {k:Int} (h:LieOK f k):lieP f k=some ((List.range f.length).map fun i=>(lieN f i k.toNat).getD []):=by unfold lieP;rw[if_pos h]
def lb:Nat→Nat
 | 0=>4
 | n+1=>nb (lb n) 2
theorem lb_le: ∀n,n≤4→lb n≤2000000:=by decide
theorem lieN_ok {f:List (List Tm)} (hf:FldOK f) (hl:f.length=1∨f.length=2) {i:Nat} : ∀{n:Nat} {g:List Tm} (_:n≤4) (_:lieN f i n=some g),GOK (lb n) g
 | 0,g,_,h=>by
  simp only[lieN,Option.some.injEq] at h
  subst h
  unfold varP
  split
  ·refine⟨bd_one (Sz.one (Nat.le_refl 1)),⟨List.pairwise_singleton _ _,fun t ht=>?_⟩,fun t ht=>?_⟩
   ·simp at ht;subst ht;exact(by decide:(1:Rat)≠0)
   ·simp at ht;subst ht
    unfold unitM
    dsimp only
    (repeat' split)<;>decide
  ·exact⟨⟨1,0,trivial,by decide,by rw[nl_one];exact(by decide:1≤lb 0),by rw[nl_zero];exact Nat.zero_le _⟩,PGood.nil,fun t ht=>by simp at ht⟩
 | n+1,g,hn,h=>by
  rw[lieN] at h
  split at h
  ·cases h
  ·rename_i g' hg'
   have ih:=lieN_ok hf hl (n:=n) (by omega) hg'
   have:=nextK_ok hf ih (Nat.le_refl _) h
   refine⟨this.1.mono ?_,this.2.1,this.2.2⟩
   show nb (lb n) f.length≤nb (lb n) 2
   rcases hl with e | e<;>rw[e]
   ·simp only[nb];omega
   ·exact Nat.le_refl _
def lsN (f:List (List Tm)) (n:Nat):List (List Tm):=(List.range f.length).map fun i=>(lieN f i n).getD []
def mixN (f:List (List Tm)) (n i:Nat):List (List Tm):=(List.range f.length).map fun t=>if t<i then(lieN f t (n+1)).getD [] else(lieN f t n).getD []
theorem mixN_zero (f:List (List Tm)) (n:Nat):mixN f n 0=lsN f n:=by
 unfold mixN lsN
 refine List.map_congr_left fun t _=>?_
 rw[if_neg (by omega)]
theorem mixN_all (f:List (List Tm)) (n:Nat):mixN f n f.length=lsN f (n+1):=by
 unfold mixN lsN
 refine List.map_congr_left fun t ht=>?_
 rw[if_pos (List.mem_range.1 ht)]
theorem mixN_len (f:List (List Tm)) (n i:Nat):(mixN f n i).length=f.length:=by simp[mixN]
theorem mixN_at {f:List (List Tm)} {n i:Nat} (hi:i<f.length):(mixN f n i)[i]?=some ((lieN f i n).getD []):=by
 unfold mixN
 rw[List.getElem?_map,List.getElem?_range hi]
 simp
theorem mixN_set {f:List (List Tm)} {n i:Nat} (hi:i<f.length):(mixN f n i).set i ((lieN f i (n+1)).getD [])=mixN f n (i+1):=by
 apply List.ext_getElem?
 intro t
 rw[List.getElem?_set]
 by_cases ht:t<f.length
 ·by_cases e:i=t
  ·subst e
   rw[if_pos rfl,if_pos (by rw[mixN_len];exact hi)]
   unfold mixN
   rw[List.getElem?_map,List.getElem?_range hi]
   simp
  ·rw[if_neg e]
   unfold mixN
   rw[List.getElem?_map,List.getElem?_map,List.getElem?_range ht]
   by_cases h1:t<i
   ·simp[h1,show t<i+1 by omega]
   ·simp[h1,show ¬t<i+1 by omega]
 ·have h1:(mixN f n (i+1)).length≤t:=by rw[mixN_len];omega
  have h2:(mixN f n i).length≤t:=by rw[mixN_len];omega
  rw[if_neg (by omega),List.getElem?_eq_none h1,List.getElem?_eq_none h2]
def lf1 (W0:PW) (f:List (List Tm)) (L:List PL) (W:PW):Prop:=match L with
 | [.row l,.val (.int .i64 i)]=>∃j:Nat,i=(j:Int)∧j≤f.length∧Ext W0 W∧All2 (PolyX 260 136 W) l ((List.range j).map fun t:Nat=>varP (t:Int))
 | _=>False
def lf2 (W0:PW) (f:List (List Tm)) (k:Int) (L:List PL) (W:PW):Prop:=match L with
 | [.val (.int .i64 i),.row l]=>∃n:Nat,i=(n:Int)∧(n:Int)≤k∧Ext W0 W∧(∀t,t<f.length→(lieN f t n).isSome=true)∧All2 (PolyX 260 136 W) l (lsN f n)
 | _=>False
def lf3 (W0:PW) (f:List (List Tm)) (n:Nat) (L:List PL) (W:PW):Prop:=match L with
 | [.val (.int .i64 i),.row l]=>∃j:Nat,i=(j:Int)∧j≤f.length∧Ext W0 W∧(∀t,t<j→(lieN f t (n+1)).isSome=true)∧All2 (PolyX 260 136 W) l (mixN f n j)
 | _=>False
theorem flowLie_ok {W0:PW} {M:Nat→Prop} {s:Sl} {f:List (List Tm)} {k:Int} (h:Ps W0 s f) (hl:f.length≤4) (hb: ∀q∈f,Bd 56029 q∧q.length≤14):
  PCallsM Go.Proofs.Tryz.prog 31 [s.v,.int .i64 k] W0 M fun v W'=>∃(s':Sl),v = .tuple ⟨[Sl.v s',.bool (lieP f k).isSome]⟩∧Ps W' s' ((lieP f k).getD []):=by
 apply callflow_Lie
 have hn:=h.n
 have bad:¬LieOK f k→∀W':PW,∃s':Sl,(Value.tuple ⟨[.slice none 0 0,.bool false]⟩) = .tuple ⟨[Sl.v s',.bool (lieP f k).isSome]⟩∧Ps W' s' ((lieP f k).getD []):=fun hb W'=>by rw[lieP_bad hb];exact⟨⟨none,0,0⟩,rfl,IsPolys.nil W'⟩
 refine flowRight_call h (by omega) (fun p hp=>by have:=(hb p hp).2;omega) fun W2 hE2 _=>⟨_,rfl,fun hno W4 _=>bad (fun hL=>by have:=hL.1;simp[this] at hno) W4,fun hyes=>⟨fun hk W5 _=>bad (fun hL=>by have:=hL.2.1;omega) W5,fun h0=>⟨fun hk W6 _=>bad (fun hL=>by have:=hL.2.1;omega) W6,fun h4=>?_⟩⟩⟩
 have hF:FieldP f:=by simpa using hyes
 have hf:FldOK f:=⟨hb,hF.2.2⟩
 have hf12:f.length=1∨f.length=2:=by have:=hF.2;omega
 refine⟨lf1 W0 f,fun L _=>match L with | [_,.val (.int .i64 i)]=>f.length-i.toNat | _=>0,⟨0,rfl,Nat.zero_le _,hE2,trivial⟩,?_⟩
 rintro l9 i10 W11 ⟨j,rfl,hj,hE11,ha⟩
 have hal:=ha.len
 rw[List.length_map,List.length_range] at hal
 refine⟨fun hlt=>?_,fun hge=>?_⟩
 ·refine polyVar_call fun s14 W13 hE13 h13=>⟨s14,rfl,by simp only[List.length_cons,List.length_nil];omega,by unfold I64;omega,⟨j+1,by push_cast;rfl,by omega,hE11.trans hE13,?_⟩,?_⟩
  ·rw[List.range_succ,List.map_append]
   exact(ha.mono fun _ _ h=>h.ext hE13).snoc ⟨s14,rfl,h13⟩
  ·show f.length-Int.toNat ((j:Int)+1)<f.length-Int.toNat (j:Int)
   omega
 have hjj:j=f.length:=by omega
 subst hjj
 refine⟨lf2 W0 f k,fun L _=>match L with | [.val (.int .i64 i),_]=>(k-i).toNat | _=>0,⟨0,rfl,by omega,hE11,fun t _=>rfl,ha⟩,?_⟩
 rintro l17 i18 W19 ⟨n,rfl,hnk,hE19,hsome,hall⟩
 have hl17:=hall.len
 simp only[lsN,List.length_map,List.length_range] at hl17
 refine⟨fun hltk=>?_,fun hgek s31 W32 hE32 hO _ W33 hE33=>?_⟩
 ·refine⟨lf3 W0 f n,fun L _=>match L with | [.val (.int .i64 i),_]=>f.length-i.toNat | _=>0,⟨0,rfl,Nat.zero_le _,hE19,fun t ht=>absurd ht (Nat.not_lt_zero t),by rw[mixN_zero];exact hall⟩,?_⟩
  rintro l22 i23 W24 ⟨t,rfl,ht,hE24,hs1,hmix⟩
  have hl22:=hmix.len
  rw[mixN_len] at hl22
  refine⟨fun hltt=>?_,fun hget=>⟨by unfold I64;omega,⟨n+1,by push_cast;rfl,by omega,hE24,?_,?_⟩,?_⟩⟩
  ·have htl:t<f.length:=by omega
   obtain⟨x,hx,y,rfl,hy⟩:=hmix.get (mixN_at htl)
   obtain⟨g,hg⟩:=Option.isSome_iff_exists.1 (hsome t htl)
   rw[hg] at hy
   have hy:IsPoly 260 136 W24 y g:=hy
   have hG:=lieN_ok hf hf12 (n:=n) (by omega) hg
   refine⟨⟨by omega,by omega⟩,y,⟨[y.v],hx,rfl⟩,flowNext_call (h.ext hE24) hy hf hG (lb_le n (by omega)) fun s28 W27 hE27 h27=>⟨s28,_,rfl,fun hno W30 _=>bad (fun hL=>?_) W30,fun hok=>⟨⟨by omega,by omega⟩,by omega,by unfold I64;omega,⟨t+1,by push_cast;rfl,by omega,hE24.trans hE27,fun u hu=>?_,?_⟩,?_⟩⟩⟩
   ·have hnn:lieN f t (n+1)=none:=by
     rw[lieN,hg]
     show nextP f g=none
     cases hq:nextP f g with
     | none=>rfl
     | some r=>rw[hq] at hno;cases hno
    have h1:=hL.2.2 t htl
    rw[lieN_none hnn k.toNat (by omega)] at h1
    cases h1
   ·by_cases e:u=t
    ·subst e
     rw[lieN,hg]
     simpa using hok
    ·exact hs1 u (by omega)
   ·rw[←mixN_set htl]
    have e:lieN f t (n+1)=nextP f g:=by rw[lieN,hg]
    rw[e]
    exact(hmix.mono fun _ _ h=>h.ext hE27).set t ⟨s28,rfl,h27⟩
   ·show f.length-Int.toNat ((t:Int)+1)<f.length-Int.toNat (t:Int)
    omega
  ·intro u hu
   exact hs1 u (by omega)
  ·have:t=f.length:=by omega
   subst this
   rw[←mixN_all]
   exact hmix
  ·show(k-((n:Int)+1)).toNat<(k-(n:Int)).toNat
   omega
 ·have hkn:k.toNat=n:=by omega
  have hL:LieOK f k:=⟨hF,⟨by omega,by omega⟩,fun i hi=>by rw[hkn];exact hsome i hi⟩
  rw[lieP_good hL,hkn]
  exact⟨s31,rfl,l17,⟨_,(hO.ext hE33).row⟩,hall.mono fun _ _ h=>h.ext (hE32.trans hE33)⟩
theorem flowLie_call {W0 W:PW} {M:Nat→Prop} {s:Sl} {f:List (List Tm)} {k:Int} {K:Value→PW→Prop} (h:Ps W s f) (hl:f.length≤4) (hb: ∀q∈f,Bd 56029 q∧q.length≤14) (kont: ∀(s':Sl) (W':PW),Ext W W'→(Ps W' s' ((lieP f k).getD []))→K (.tuple ⟨[Sl.v s',.bool (lieP f k).isSome]⟩) W'):
  callN Go.Proofs.Tryz.prog W0 M 31 [s.v,.int .i64 k] W K:=
 callN_of (fun W' hE=>flowLie_ok (M:=fun _=>False) (h.ext hE) hl hb) (fun W' v W'' hE hE' hP=>by
  obtain⟨s',rfl,h⟩:=hP
  exact kont s' W'' (hE.trans hE') h)
def rf1 (W0:PW) (f:List (List Tm)) (k:Nat) (L:List PL) (W:PW):Prop:=match L with
 | [.row l,.val (.int .i64 i)]=>∃j:Nat,i=(j:Int)∧j≤f.length∧Ext W0 W∧(∀t,t<j→(lieN f t k).isSome=true)∧All2 (RPolyX 260 142 W) l ((List.range j).map fun i=>(lieN f i k).getD [])
 | _=>False
def rf2 (W0:PW) (f:List (List Tm)) (k:Int) (j:Nat) (L:List PL) (W:PW):Prop:=match L with
 | [.val (.slice A m c),.val (.int .i64 i)]=>∃(n:Nat) (g:List Tm),i=(n:Int)∧(n:Int)≤k∧Ext W0 W∧lieN f j n=some g∧IsRPoly 260 142 W ⟨A,m,c⟩ g
 | _=>False
def rf3 (W0:PW) (f:List (List Tm)) (g:List Tm) (L:List PL) (W:PW):Prop:=match L with
 | [.val (.slice A m c),.val (.int .i64 i)]=>∃(j:Nat) (a:List Tm),i=(j:Int)∧j≤f.length∧Ext W0 W∧nextK f g j=some a∧IsRPoly 260 142 W ⟨A,m,c⟩ a
 | _=>False
theorem refLie_ok {W0:PW} {M:Nat→Prop} {s:Sl} {f:List (List Tm)} {k:Int} (h:RPs W0 s f) (hl:f.length≤4) (hb: ∀q∈f,Bd 56029 q∧q.length≤14):
  PCallsM Go.Proofs.Tryz.prog 32 [s.v,.int .i64 k] W0 M fun v W'=>∃(s':Sl),v = .tuple ⟨[Sl.v s',.bool (lieP f k).isSome]⟩∧RPs W' s' ((lieP f k).getD []):=by
 apply callref1_Lie
 have hn:=h.n
 have bad:¬LieOK f k→∀W':PW,∃s':Sl,(Value.tuple ⟨[.slice none 0 0,.bool false]⟩) = .tuple ⟨[Sl.v s',.bool (lieP f k).isSome]⟩∧RPs W' s' ((lieP f k).getD []):=fun hb W'=>by rw[lieP_bad hb];exact⟨⟨none,0,0⟩,rfl,IsRPolys.nil W'⟩
 refine refFieldRight_call h (by omega) (fun p hp=>by have:=(hb p hp).2;omega) fun W2 hE2 _=>⟨_,rfl,fun hno W4 _=>bad (fun hL=>by have:=hL.1;simp[this] at hno) W4,fun hyes=>⟨fun hk W5 _=>bad (fun hL=>by have:=hL.2.1;omega) W5,fun h0=>⟨fun hk W6 _=>bad (fun hL=>by have:=hL.2.1;omega) W6,fun h4=>?_⟩⟩⟩
 have hF:FieldP f:=by simpa using hyes
 have hf:FldOK f:=⟨hb,hF.2.2⟩
 have hf12:f.length=1∨f.length=2:=by have:=hF.2;omega
 refine⟨rf1 W0 f k.toNat,fun L _=>match L with | [_,.val (.int .i64 i)]=>f.length-i.toNat | _=>0,⟨0,rfl,Nat.zero_le _,hE2,fun t ht=>absurd ht (Nat.not_lt_zero t),trivial⟩,?_⟩
 rintro l9 i10 W11 ⟨j,rfl,hj,hE11,hs,ha⟩
 have hal:=ha.len
 rw[List.length_map,List.length_range] at hal
 refine⟨fun hlt=>?_,fun hge s37 W38 hE38 hO _ W39 hE39=>?_⟩
 ·have hjl:j<f.length:=by omega
  refine refVar_call fun s14 W13 hE13 h13=>⟨s14,rfl,?_⟩
  refine⟨rf2 W13 f k j,fun L _=>match L with | [_,.val (.int .i64 i)]=>(k-i).toNat | _=>0,⟨0,varP (j:Int),rfl,by omega,Ext.refl _,rfl,h13⟩,?_⟩
  rintro s17 i18 W19 ⟨n,g,rfl,hnk,hE19,hg,hP⟩
  have hP:IsRPoly 260 142 W19 s17 g:=hP
  refine⟨fun hltk=>?_,fun hgek=>⟨by simp only[List.length_cons,List.length_nil];omega,by unfold I64;omega,⟨j+1,by push_cast;rfl,by omega,(hE11.trans hE13).trans hE19,fun t ht=>?_,?_⟩,?_⟩⟩
  ·have hG:=lieN_ok hf hf12 (n:=n) (by omega) hg
   have hlb:=lb_le n (by omega)
   have hgl:=hG.len
   refine⟨rf3 W19 f g,cnL f.length,⟨0,[],rfl,Nat.zero_le _,Ext.refl _,rfl,IsRPoly.nil W19⟩,?_⟩
   rintro s22 i23 W24 ⟨t,a,rfl,ht,hE24,hta,hPa⟩
   have hPa:IsRPoly 260 142 W24 s22 a:=hPa
   have hA:=nextK_ok hf hG ht hta
   have hal:=PGood.len hA.2.1 hA.2.2
   have hnb:=nb_le hlb (Nat.le_trans ht hf.len)
   refine⟨fun hltt=>?_,fun hget=>⟨by unfold I64;omega,⟨n+1,a,by push_cast;rfl,by omega,hE19.trans hE24,?_,hPa⟩,?_⟩⟩
   ·have htl:t<f.length:=by omega
    have hEx:=((hE11.trans hE13).trans hE19).trans hE24
    obtain⟨x,hx,hq⟩:=(h.ext hEx).at htl
    have hm:=hf.bd _ (List.getElem_mem htl)
    have hdb:=diffP_bd hG.bd hG.ok (t:Int)
    have hdl:=diffP_len g (t:Int)
    refine⟨(h.ext hEx).inB (by omega) (by omega),x,hx,refDiff_call (hP.ext hE24) hG.bd (by omega) (by omega) fun s28 W27 hE27 h27=>⟨s28,rfl,hE27,?_⟩⟩
    refine refPolyMul_call (k:=3000000) h27 (hq.ext hE27) (hdb.mono (by omega)) (hm.1.mono (by omega)) (by omega) (by omega) (by omega) (by have:=Nat.mul_le_mul (Nat.le_trans hdl hgl) hm.2;omega) fun s31 W30 hE30 h30=>⟨s31,_,rfl,fun hno W33 _=>bad (fun hL=>?_) W33,fun hok=>?_⟩
    ·have hM:¬MulOK (diffP g (t:Int)) f[t]:=by simpa using hno
     have hnn:nextP f g=none:=nextK_none (j:=t+1) (by rw[nextK,hta,getD_mem2 htl];dsimp only;rw[if_neg hM]) _ htl
     have h1:=hL.2.2 j hjl
     rw[lieN_none (n:=n+1) (by rw[lieN,hg];exact hnn) k.toNat (by omega)] at h1
     cases h1
    ·have hM:MulOK (diffP g (t:Int)) f[t]:=by simpa using hok
     rw[mulP_of hM] at h30
     have hB:=(hdb.pairs hm.1).norm
     have hpl:=PGood.len (pnorm_good (ppairs (diffP g (t:Int)) f[t])) h30.ok
     refine refPolyAdd_call (k:=5000000) (hPa.ext (hE27.trans hE30)) h30 hA.2.1 (hA.1.mono (by omega)) (hB.mono (by omega)) (by omega) (by omega) (by omega) fun s36 W35 hE35 h35=>⟨s36,rfl,by unfold I64;omega,⟨t+1,pnorm (a ++ pnorm (ppairs (diffP g (t:Int)) f[t])),by push_cast;rfl,by omega,hE24.trans (hE27.trans (hE30.trans hE35)),?_,h35⟩,?_⟩
     ·rw[nextK,hta,getD_mem2 htl]
      dsimp only
      rw[if_pos hM]
     ·show f.length-Int.toNat ((t:Int)+1)<f.length-Int.toNat (t:Int)
      omega
   ·have:t=f.length:=by omega
    subst this
    rw[lieN,hg]
    exact hta
   ·show(k-((n:Int)+1)).toNat<(k-(n:Int)).toNat
    omega
  ·have hkn:k.toNat=n:=by omega
   by_cases e:t=j
   ·subst e
    rw[hkn,hg]
    rfl
   ·exact hs t (by omega)
  ·have hkn:k.toNat=n:=by omega
   rw[List.range_succ,List.map_append]
   refine(ha.mono fun _ _ h=>h.ext (hE13.trans hE19)).snoc ⟨s17,rfl,?_⟩
   show IsRPoly 260 142 W19 s17 ((lieN f j k.toNat).getD [])
   rw[hkn,hg]
   exact hP
  ·show f.length-Int.toNat ((j:Int)+1)<f.length-Int.toNat (j:Int)
   omega
 ·have hjj:j=f.length:=by omega
  subst hjj
  have hL:LieOK f k:=⟨hF,⟨by omega,by omega⟩,hs⟩
  rw[lieP_good hL]
  exact⟨s37,rfl,l9,⟨_,(hO.ext hE39).row⟩,ha.mono fun _ _ h=>h.ext (hE38.trans hE39)⟩
theorem refLie_call {W0 W:PW} {M:Nat→Prop} {s:Sl} {f:List (List Tm)} {k:Int} {K:Value→PW→Prop} (h:RPs W s f) (hl:f.length≤4) (hb: ∀q∈f,Bd 56029 q∧q.length≤14) (kont: ∀(s':Sl) (W':PW),Ext W W'→(RPs W' s' ((lieP f k).getD []))→K (.tuple ⟨[Sl.v s',.bool (lieP f k).isSome]⟩) W'):
  callN Go.Proofs.Tryz.prog W0 M 32 [s.v,.int .i64 k] W K:=
 callN_of (fun W' hE=>refLie_ok (M:=fun _=>False) (h.ext hE) hl hb) (fun W' v W'' hE hE' hP=>by
  obtain⟨s',rfl,h⟩:=hP
  exact kont s' W'' (hE.trans hE') h)
end Go.Proofs.YtjgpenfndnhdnaaGreat

/- cincturelaw16.FlowLies. -/
set_option maxRecDepth 100000
set_option linter.unusedVariables false
set_option linter.unusedSimpArgs false
namespace Go.Proofs.YtjgpenfndnhdnaaGreat
open Go Go.SX
theorem one_c:pnorm [((⟨0,0,0⟩:Mon),((1:Int):Rat))] = [(⟨0,0,0⟩,1)]:=by decide +kernel
theorem lie_one:lieP [[((⟨0,0,0⟩:Mon),(1:Rat))]] 1=some [[(⟨0,0,0⟩,1)]]:=by
 have h1:lieN [[((⟨0,0,0⟩:Mon),(1:Rat))]] 0 1=some [(⟨0,0,0⟩,1)]:=by decide +kernel
 have hF:FieldP [[((⟨0,0,0⟩:Mon),(1:Rat))]]:=by decide +kernel
 have hL:LieOK [[((⟨0,0,0⟩:Mon),(1:Rat))]] 1:=⟨hF,by decide,fun i hi=>by
  have:i=0:=by simp at hi;exact hi
  subst this
  show(lieN _ 0 1).isSome=true
  rw[h1]
  rfl⟩
 rw[lieP_good hL]
 show some [(lieN _ 0 1).getD []]=_
 rw[h1]
 rfl
theorem bd_c:Bd 56029 [((⟨0,0,0⟩:Mon),(1:Rat))]:=(bd_one (Sz.one (Nat.le_refl 1))).mono (by decide)
theorem law16alive_ok {W0:PW} {M:Nat→Prop} :
  PCallsM Go.Proofs.Tryz.prog 29 [] W0 M fun v W'=>v = .bool true∧True:=by
 apply calllaw16_alive
 refine ratOf_call (z:=1) (by unfold I64;omega) fun s3 b4 s5 W2 hE2 h2=>⟨s3,b4,s5,rfl,?_⟩
 refine polyConst_call h2 (Sz.one (show 1≤1 by omega)) (by omega) fun s8 W7 hE7 h7=>⟨s8,rfl,fun s9 W10 hE10 hO _=>?_⟩
 rw[one_c] at h7
 have hf:Ps W10 s9 [[((⟨0,0,0⟩:Mon),(1:Rat))]]:=⟨_,⟨_,hO.row⟩,⟨s8,rfl,h7.ext hE10⟩,trivial⟩
 refine flowLie_call hf (by simp) (fun q hq=>by simp at hq;subst hq;exact⟨bd_c,by simp⟩) fun s13 W12 hE12 h12=>⟨s13,_,rfl,?_⟩
 rw[lie_one] at h12⊢
 have h12:Ps W12 s13 [[((⟨0,0,0⟩:Mon),(1:Rat))]]:=h12
 have hn:=h12.n
 refine⟨fun _=>⟨fun _=>?_,fun e=>absurd (by rw[hn];rfl) e⟩,fun e=>(by cases e)⟩
 obtain⟨x,hx,hp⟩:=h12.at (i:=0) (by simp)
 refine⟨h12.inB (by omega) (by simp),x,hx,?_⟩
 refine refRatOf_call (z:=1) (by unfold I64;omega) fun b18 s19 s20 W17 hE17 h17=>⟨b18,s19,s20,rfl,hE17,?_⟩
 refine refConst_call h17 (Sz.one (show 1≤1 by omega)) (by omega) fun s23 W22 hE22 h22=>⟨s23,rfl,hE22,?_⟩
 rw[one_c] at h22
 refine law8Is_call (hp.ext (hE17.trans hE22)) h22 (k:=1) (fun t ht=>by simp at ht;subst ht;exact Sz.one (Nat.le_refl 1)) (by omega) (by simp) fun W25 hE25 _=>⟨true,rfl,fun _=>?_,fun e=>(by cases e)⟩
 refine polyVar_call fun s29 W28 hE28 h28=>⟨s29,rfl,fun s30 W31 hE31 hO2 _=>?_⟩
 have hv:Ps W31 s30 [varP 0]:=⟨_,⟨_,hO2.row⟩,⟨s29,rfl,h28.ext hE31⟩,trivial⟩
 have hF:FieldP [varP 0]:=by decide +kernel
 exact flowRight_call hv (by simp) (fun p hp=>by simp at hp;subst hp;exact Nat.le_trans (show(varP 0).length≤1 by unfold varP;split<;>simp) (by omega)) fun W33 hE33 _=>⟨_,rfl,fun W35 _=>⟨by rw[decide_eq_true hF],trivial⟩⟩
theorem law16alive_call {W0 W:PW} {M:Nat→Prop} {K:Value→PW→Prop} (kont: ∀(W':PW),Ext W W'→(True)→K (.bool true) W'):
  callN Go.Proofs.Tryz.prog W0 M 29 [] W K:=
 callN_of (fun W' hE=>law16alive_ok (M:=fun _=>False) ) (fun W' v W'' hE hE' hP=>by
  obtain⟨rfl,h⟩:=hP
  exact kont W'' (hE.trans hE') h)
theorem lieP_bd {f:List (List Tm)} {k:Int} (hb: ∀q∈f,Bd 56029 q∧q.length≤14): ∀g∈(lieP f k).getD [],(∀t∈g,Sz 2000000 t.2)∧g.length≤16777216:=fun g hg=>by
 by_cases hL:LieOK f k
 ·rw[lieP_good hL] at hg
  obtain⟨i,hi,rfl⟩:=List.mem_map.1 hg
  have hi:=List.mem_range.1 hi
  obtain⟨g,h1⟩:=Option.isSome_iff_exists.1 (hL.2.2 i hi)
  rw[h1]
  have hf:FldOK f:=⟨hb,hL.1.2.2⟩
  have hG:=lieN_ok hf (by have:=hL.1.2;omega) (n:=k.toNat) (by have:=hL.2.1;omega) h1
  have hlb:=lb_le k.toNat (by have:=hL.2.1;omega)
  exact⟨fun t ht=>(hG.bd.sz t ht).mono hlb,hG.len⟩
 ·rw[lieP_bad hL] at hg
  cases hg
theorem lieP_len (f:List (List Tm)) (k:Int):((lieP f k).getD []).length≤f.length:=by
 by_cases hL:LieOK f k
 ·rw[lieP_good hL]
  simp
 ·rw[lieP_bad hL]
  simp
def flI (W0:PW) (n:Nat) (L:List PL) (W:PW):Prop:=match L with
 | [.val (.int .i64 i)]=>∃j:Nat,i=(j:Int)∧j≤n∧Ext W0 W
 | _=>False
theorem flowLies_ok {W0:PW} {M:Nat→Prop} {s:Sl} {T:List (List (Mon×ByteArray))} {k:Int} (h1:IsAPolys W0 s T) (z1: ∀l∈T,l.length≤1099511627776∧∀t∈l,t.2.size≤1099511627776):
  PCallsM Go.Proofs.Tryz.prog 6 [s.v,.int .i64 k] W0 M fun v W'=>v = .bool true∧True:=by
 apply calllaw16_FlowLies
 have hn:=h1.n
 have alv: ∀W,callN Go.Proofs.Tryz.prog W0 M 29 [] W fun v11 W12=>∃b13:Bool,v11 = .bool b13∧∀(W14:PW),Ext W12 W14→Value.bool b13 = .bool true∧True:=fun W=>law16alive_call fun W12 _ _=>⟨true,rfl,fun W14 _=>⟨rfl,trivial⟩⟩
 refine lawSystem_call h1 z1 fun s3 s4 b5 W2 hE2 g=>⟨s3,s4,b5,rfl,fun _=>alv _,fun hb5=>law16alive_call fun W11 hE11 _=>⟨true,rfl,fun e=>(by cases e),fun _=>⟨fun _=>alv _,fun h3=>?_⟩⟩⟩
 obtain⟨ps,hof,h4,p1,p2⟩:=g (by simpa using hb5)
 have hpl:=All2.len hof
 have hb: ∀q∈ps,Bd 56029 q∧q.length≤14:=fun q hq=>by
  obtain⟨l,ho⟩:=hof.mem hq
  exact⟨ho.bd,ho.len⟩
 refine⟨flI W11 T.length,cnL1 T.length,⟨0,rfl,Nat.zero_le _,Ext.refl _⟩,?_⟩
 rintro i23 W24 ⟨j,rfl,hj,hE24⟩
 have hT:=h1.ext (hE2.trans (hE11.trans hE24))
 have p1:=p1.ext (hE11.trans hE24)
 have p2:=p2.ext (hE11.trans hE24)
 refine⟨fun hlt=>?_,fun hge=>?_⟩
 ·have hjl:j<T.length:=by omega
  have hjp:j<ps.length:=by omega
  obtain⟨x,hx,hl⟩:=hT.at hjl
  obtain⟨y,hy,hq⟩:=p2.at hjp
  have:=(hb _ (List.getElem_mem hjp)).2
  refine⟨hT.inB (by omega) (by omega),x,hx,fun _ W26 _=>⟨rfl,trivial⟩,fun _=>⟨p2.inB (by omega) (by omega),y,hy,refPolyDegree_call hq (by omega) fun W29 hE29 _=>⟨_,rfl,fun _ W31 _=>⟨rfl,trivial⟩,fun _=>⟨by unfold I64;omega,⟨j+1,by push_cast;rfl,by omega,hE24.trans hE29⟩,?_⟩⟩⟩⟩
  show T.length-Int.toNat ((j:Int)+1)<T.length-Int.toNat (j:Int)
  omega
 refine flowLie_call p1 (by omega) hb fun s34 W33 hE33 h33=>⟨s34,_,rfl,?_⟩
 refine refLie_call (p2.ext hE33) (by omega) hb fun s38 W37 hE37 h37=>⟨s38,_,rfl,fun e=>absurd rfl e,fun _=>?_⟩
 have h33:=h33.ext hE37
 have n33:=h33.n
 have n37:=h37.n
 refine⟨fun e=>absurd (by rw[n33,n37]) e,fun _=>?_⟩
 refine flowRight_call (p1.ext (hE33.trans hE37)) (by omega) (fun p hp=>by have:=(hb p hp).2;omega) fun W43 hE43 _=>⟨_,rfl,refFieldRight_call (p2.ext (hE33.trans (hE37.trans hE43))) (by omega) (fun p hp=>by have:=(hb p hp).2;omega) fun W46 hE46 _=>⟨_,rfl,fun e=>absurd rfl e,fun _=>?_⟩⟩
 have h33:=h33.ext (hE43.trans hE46)
 have h37:=h37.ext (hE43.trans hE46)
 refine⟨flI W46 ((lieP ps k).getD []).length,cnL1 ((lieP ps k).getD []).length,⟨0,rfl,Nat.zero_le _,Ext.refl _⟩,?_⟩
 rintro i51 W52 ⟨t,rfl,ht,hE52⟩
 refine⟨fun hlt=>?_,fun hge W59 _=>⟨rfl,trivial⟩⟩
 have htl:t<((lieP ps k).getD []).length:=by omega
 have hlen:=lieP_len ps k
 have h33:=h33.ext hE52
 have h37:=h37.ext hE52
 obtain⟨x,hx,hxp⟩:=h33.at htl
 obtain⟨y,hy,hyp⟩:=h37.at htl
 obtain⟨g1,g2⟩:=lieP_bd (k:=k) hb _ (List.getElem_mem htl)
 refine⟨h33.inB (by omega) (by omega),x,hx,h37.inB (by omega) (by omega),y,hy,law8Is_call hxp hyp g1 (by omega) (by omega) fun W56 hE56 _=>⟨true,rfl,fun e=>(by cases e),fun _=>⟨by unfold I64;omega,⟨t+1,by push_cast;rfl,by omega,hE52.trans hE56⟩,?_⟩⟩⟩
 show((lieP ps k).getD []).length-Int.toNat ((t:Int)+1)<((lieP ps k).getD []).length-Int.toNat (t:Int)
 omega
end Go.Proofs.YtjgpenfndnhdnaaGreat

/- Arguments opened: what every kind of argument needs. -/
set_option maxRecDepth 100000
set_option linter.unusedVariables false
set_option linter.unusedSimpArgs false
namespace Go.Proofs.YtjgpenfndnhdnaaGreat
open Go Go.SX Go.ChangeShapes Go.WideShapes Go.ChangeAt Go.RowKit Go.Deep
theorem ownKnob_none:ownKnob Go.Proofs.Tryz.prog.godebug=none:=by kernel_rfl
theorem laidOut:laidOutB Go.Proofs.Tryz.prog=true:=by kernel_rfl
theorem cells_str:Go.Proofs.Tryz.prog.cellsOf 9=1:=by kernel_rfl
theorem cell_block {W:World} {b o:Nat} {v:Value} (h:W.cell? ⟨b,o,none⟩=some v): ∃cs t fz,W.heap[b]?=some (.cells cs t fz)∧cs[o]?=some v:=by
 unfold World.cell? at h
 cases e:W.heap[b]? with
 | none=>simp[e] at h
 | some ob=>
  cases ob with
  | cells cs t fz=>exact⟨cs,t,fz,rfl,by simpa[e] using h⟩
  | _=>simp[e] at h
theorem bulk_one {H:Type} (d:DataW H):1≤Rows.uptoBulk d:=by
 cases d with
 | lit l=>cases l<;>simp[Rows.uptoBulk]
 | nil=>simp[Rows.uptoBulk]
 | ptr d=>simp[Rows.uptoBulk]
 | slice elems spare=>simp[Rows.uptoBulk]
 | agg parts=>simp[Rows.uptoBulk]
 | iface t d=>simp[Rows.uptoBulk]
 | map entries=>simp[Rows.uptoBulk]
 | held h=>simp[Rows.uptoBulk]
theorem bulk_part {H:Type} {d:DataW H} {l:List (DataW H)} (h:d∈l):Rows.uptoBulk d≤Rows.uptoBulkAll l:=by
 induction l with
 | nil=>cases h
 | cons x r ih=>
  simp only[Rows.uptoBulkAll]
  cases List.mem_cons.1 h with
  | inl e=>subst e;omega
  | inr e=>have:=ih e;omega
theorem bulk_length {H:Type} (l:List (DataW H)):l.length≤Rows.uptoBulkAll l:=by
 induction l with
 | nil=>simp[Rows.uptoBulkAll]
 | cons x r ih=>have:=bulk_one x;simp only[Rows.uptoBulkAll,List.length_cons];omega
theorem rowA_of_cellsN {W:World} {a:Addr} {n c sz:Nat} {V:Nat→List Value} (h: ∀j,j<n→∀i v,(V j)[i]?=some v→W.cell? (a.add (j*sz+i))=some v) (hV: ∀j,j<n→(V j).length=sz) (hsz:0<sz) (hn:n≤c) (hc:c≤maxLen) (h1: ∀j,j<n→∀u∈V j,u.oneCell'=true):
  RowA ⟨W,fun _=>False⟩ sz ⟨some a,n,c⟩ ((List.range n).map V):=by
 have hel: ∀x∈(List.range n).map V,x.length=sz∧∀u∈x,u.oneCell'=true:=by
  intro x hx
  obtain⟨j,hj,rfl⟩:=List.mem_map.1 hx
  exact⟨hV j (List.mem_range.1 hj),h1 j (List.mem_range.1 hj)⟩
 by_cases h0:n=0
 ·subst h0
  exact⟨0,rfl,Nat.zero_le _,hc,hel,.inl rfl⟩
 ·obtain⟨b,off,sp⟩:=a
  have hlen0:=hV 0 (by omega)
  obtain⟨v0,hv0⟩: ∃v,(V 0)[0]?=some v:=⟨_,List.getElem?_eq_getElem (by omega)⟩
  have hc0:=h 0 (by omega) 0 v0 hv0
  have hsp:sp=none:=by simpa[Addr.add] using World.cell?_spot hc0
  subst hsp
  obtain⟨cs,t,fz,hh,_⟩:=cell_block (by rw[←add_plain];exact hc0)
  refine⟨t,by simp,hn,hc,hel,.inr ⟨b,off,cs,fz,rfl,id,hh,fun j v hj=>?_⟩⟩
  have hjl:=(List.getElem?_eq_some_iff.1 hj).1
  rw[flatten_length (sz:=sz) (fun x hx=>(hel x hx).1)] at hjl
  simp only[List.length_map,List.length_range] at hjl
  have hi:j/sz<n:=(Nat.div_lt_iff_lt_mul hsz).2 hjl
  have hm:j%sz<sz:=Nat.mod_lt _ hsz
  have e:j/sz*sz+j%sz=j:=by rw[Nat.mul_comm];exact Nat.div_add_mod j sz
  have hx:((List.range n).map V)[j/sz]?=some (V (j/sz)):=by simp[hi]
  have hl:=hV _ hi
  have hf:=flatten_at (sz:=sz) (fun x hx=>(hel x hx).1) hx (j:=j%sz) (v:=(V (j/sz))[j%sz]'(by omega)) (List.getElem?_eq_getElem (by omega))
  rw[e,hj] at hf
  have hcell:=h _ hi (j%sz) v (by rw[hf];exact List.getElem?_eq_getElem (by omega))
  rw[e,add_plain] at hcell
  obtain⟨cs',t',fz',hh',hv⟩:=cell_block hcell
  rw[hh] at hh'
  cases hh'
  exact hv
theorem rowA_of_cells {W:World} {a:Addr} {n c:Nat} {V:Nat→Value} (h: ∀j,j<n→W.cell? (a.add j)=some (V j)) (hn:n≤c) (hc:c≤maxLen) (h1: ∀j,j<n→(V j).oneCell'=true):RowA ⟨W,fun _=>False⟩ 1 ⟨some a,n,c⟩ ((List.range n).map fun j=>[V j]):=by
 have hel: ∀x∈(List.range n).map (fun j=>[V j]),x.length=1∧∀u∈x,u.oneCell'=true:=by
  intro x hx
  obtain⟨j,hj,rfl⟩:=List.mem_map.1 hx
  exact⟨rfl,fun u hu=>by rw[List.mem_singleton.1 hu];exact h1 j (List.mem_range.1 hj)⟩
 by_cases h0:n=0
 ·subst h0
  exact⟨0,rfl,Nat.zero_le _,hc,hel,.inl rfl⟩
 ·obtain⟨b,off,sp⟩:=a
  have hsp:sp=none:=by simpa[Addr.add] using World.cell?_spot (h 0 (by omega))
  subst hsp
  have h': ∀j,j<n→W.cell? ⟨b,off+j,none⟩=some (V j):=fun j hj=>by rw[←add_plain];exact h j hj
  obtain⟨cs,t,fz,hh,_⟩:=cell_block (h' 0 (by omega))
  refine⟨t,by simp,hn,hc,hel,.inr ⟨b,off,cs,fz,rfl,id,hh,fun j v hj=>?_⟩⟩
  have e:((List.range n).map fun j=>[V j]).flatten=(List.range n).map V:=by
   rw[←List.flatMap_def]
   generalize List.range n=l
   induction l with
   | nil=>rfl
   | cons y r ih=>simp[List.flatMap_cons,ih]
  rw[e] at hj
  have hjn:j<n:=by
   have:=(List.getElem?_eq_some_iff.1 hj).1
   simpa using this
  obtain⟨cs',t',fz',hh',hv⟩:=cell_block (h' j hjn)
  rw[hh] at hh'
  cases hh'
  simp[hjn] at hj
  rw[←hj]
  exact hv
end Go.Proofs.YtjgpenfndnhdnaaGreat
