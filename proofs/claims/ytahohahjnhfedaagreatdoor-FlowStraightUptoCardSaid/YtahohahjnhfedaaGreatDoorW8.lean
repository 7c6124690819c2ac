/- cinctureref1.PolyMul. -/
import Derived.Test.YtahohahjnhfedaaGreatDoorW7
import Derived.Test.YtahohahjnhfedaaGreatDoorR10
import Derived.Test.YtahohahjnhfedaaGreatDoorLib4
import Derived.Test.YtahohahjnhfedaaGreatDoorW3
import Derived.Test.YtahohahjnhfedaaGreatDoorR8
import Derived.Test.YtahohahjnhfedaaGreatDoorLib2
import Derived.Test.YtahohahjnhfedaaGreatDoorR11
import Derived.Test.YtahohahjnhfedaaGreatDoorW6
set_option linter.unusedVariables false
set_option linter.unusedSimpArgs false
set_option maxRecDepth 100000
namespace Go.Proofs.YtahohahjnhfedaaGreatDoor
open Go Go.SX
end Go.Proofs.YtahohahjnhfedaaGreatDoor
/- cinctureref1: MonoVars, PolyDegree, PolyVars, Top. -/
namespace Go.Proofs.YtahohahjnhfedaaGreatDoor
open Go Go.SX
end Go.Proofs.YtahohahjnhfedaaGreatDoor
/- flow.Right, flow.next, flow.Lie; cinctureref1: FieldRight, Lie. -/
namespace Go.Proofs.YtahohahjnhfedaaGreatDoor
open Go Go.SX
def Jz8 (f:List (List Tm)):Prop:=(∀p∈f,Fd0 Cx8 0 p≤(f.length:Int))∧1≤f.length∧f.length≤2
instance (f:List (List Tm)):Decidable (Jz8 f):=inferInstanceAs (Decidable (_∧_))
def frI (W0:PW) (f:List (List Tm)) (L:List PL) (W:PW):Prop:=match L with
 | [.val (.int .i64 i)]=>∃j:Nat,i=(j:Int)∧j≤f.length∧Ext W0 W∧∀p∈f.take j,Fd0 Cx8 0 p≤(f.length:Int)
 | _=>False
theorem Ki0 {α:Type} {Q:α→Prop} {l:List α} {j:Nat} (hj:j<l.length) (h: ∀p∈l.take j,Q p) (h2:Q l[j]): ∀p∈l.take (j+1),Q p:=fun p hp=>by
 rw[List.take_add_one,List.getElem?_eq_getElem hj] at hp
 rcases List.mem_append.1 hp with hp | hp
 ·exact h p hp
 ·have:p=l[j]:=by simpa using hp
  rw[this];exact h2
theorem Kg9 {W0:PW} {M:Nat→Prop} {s:Sl} {f:List (List Tm)} (h:Ps W0 s f) (hl:f.length≤1099511627776) (hp: ∀p∈f,p.length≤1099511627776):
  Aa0 Tryz.prog 27 [s.v] W0 M fun v W'=>v = .bool (decide (Jz8 f))∧True:=by
 apply Ke5
 have hn:=h.n
 refine⟨frI W0 f,Kq0 f.length,⟨0,rfl,Nat.zero_le _,Ext.refl _,fun p hp=>by simp at hp⟩,?_⟩
 rintro i3 W4 ⟨j,rfl,hj,hE,hall⟩
 refine⟨fun hlt=>?_,fun hge=>?_⟩
 ·have hjl:j<f.length:=by omega
  obtain⟨x,hx,hq⟩:=(h.ext hE).at hjl
  refine⟨(h.ext hE).inB (by omega) (by omega),x,hx,Co3 hq (hp _ (List.getElem_mem hjl)) fun W7 hE7 _=>⟨_,rfl,fun hbig W9 _=>⟨?_,trivial⟩,fun hok=>⟨by unfold I64;omega,⟨j+1,by push_cast;rfl,by omega,hE.trans hE7,Ki0 hjl hall (by omega)⟩,?_⟩⟩⟩
  ·rw[decide_eq_false]
   intro hF
   have:=hF.1 _ (List.getElem_mem hjl)
   omega
  ·show f.length-Int.toNat ((j:Int)+1)<f.length-Int.toNat (j:Int)
   omega
 ·have:j=f.length:=by omega
  subst this
  rw[List.take_length] at hall
  refine⟨fun h1 W10 _=>⟨?_,trivial⟩,fun h1 W11 _=>⟨?_,trivial⟩⟩
  ·congr 1
   rw[decide_eq_decide]
   exact⟨fun h2=>⟨hall,by omega,by omega⟩,fun hF=>by have:=hF.2.2;omega⟩
  ·rw[decide_eq_false]
   intro hF
   have:=hF.2.1
   omega
theorem Jz5 {W0 W:PW} {M:Nat→Prop} {s:Sl} {f:List (List Tm)} {K:Value→PW→Prop} (h:Ps W s f) (hl:f.length≤1099511627776) (hp: ∀p∈f,p.length≤1099511627776) (kont: ∀(W':PW),Ext W W'→(True)→K (.bool (decide (Jz8 f))) W'):
  Aa1 Tryz.prog W0 M 27 [s.v] W K:=
 Aa2 (fun W' hE=>Kg9 (M:=fun _=>False) (h.ext hE) hl hp) (fun W' v W'' hE hE' hP=>by
  obtain⟨rfl,h⟩:=hP
  exact kont W'' (hE.trans hE') h)
def Jz9 (f:List (List Tm)) (g:List Tm):Nat→Option (List Tm)
 | 0=>some []
 | j+1=>match Jz9 f g j with
  | none=>none
  | some a=>if Ct4 (Hc3 g (j:Int)) (f.getD j []) then some (Ag2 (a ++ Ag2 (An8 (Hc3 g (j:Int)) (f.getD j [])))) else none
def Kd0 (f:List (List Tm)) (g:List Tm):Option (List Tm):=Jz9 f g f.length
theorem Kb5 {f:List (List Tm)} {g:List Tm} {j:Nat} (h:Jz9 f g j=none): ∀k,j≤k→Jz9 f g k=none
 | 0,hk=>by
  have:j=0:=by omega
  subst this
  exact h
 | k+1,hk=>by
  by_cases e:j=k+1
  ·subst e;exact h
  ·rw[Jz9,Kb5 h k (by omega)]
structure Kj2 (f:List (List Tm)):Prop where
 bd: ∀q∈f,Bd 56029 q∧q.length≤14
 len:f.length≤2
structure GOK (l:Nat) (g:List Tm):Prop where
 bd:Bd l g
 Aq3:Av6 g
 ok:POk g
theorem GOK.len {l:Nat} {g:List Tm} (h:GOK l g):g.length≤16777216:=h.Aq3.len h.ok
theorem Jy8 {f:List (List Tm)} {j:Nat} (hj:j<f.length):f.getD j []=f[j]:=by rw[List.getD_eq_getElem?_getD,List.getElem?_eq_getElem hj];rfl
theorem Ko8 {p q:List Tm} (h:Ct4 p q):POk (Ag2 (An8 p q)):=POk.norm fun t ht=>by
 obtain⟨a,ha,hm⟩:=List.mem_flatMap.1 ht
 obtain⟨b,hb,rfl⟩:=List.mem_map.1 hm
 exact h a ha b hb
def nb (l:Nat):Nat→Nat
 | 0=>1
 | j+1=>nb l j+(l+1+56029)+1
theorem Kd5 {f:List (List Tm)} {g:List Tm} {l:Nat} (hf:Kj2 f) (hg:GOK l g): ∀{j:Nat} {a:List Tm} (_:j≤f.length) (_:Jz9 f g j=some a),Bd (nb l j) a∧Av6 a∧POk a
 | 0,a,_,h=>by
  simp only[Jz9,Option.some.injEq] at h
  subst h
  exact⟨⟨1,0,trivial,by decide,by rw[Ax0];exact Nat.le_refl 1,by rw[Ag9];exact Nat.zero_le 1⟩,Av6.nil,fun t ht=>by simp at ht⟩
 | j+1,a,hj,h=>by
  rw[Jz9] at h
  split at h
  ·cases h
  ·rename_i a' ha'
   split at h
   ·rename_i hM
    simp only[Option.some.injEq] at h
    subst h
    have ih:=Kd5 hf hg (by omega) ha'
    have hm:=hf.bd _ (List.getElem_mem (show j<f.length by omega))
    rw[←Jy8] at hm
    have hB:=(Hg1 hg.bd hg.ok (j:Int)).Ff3 hm.1
    exact⟨(ih.1.append hB.norm).norm.mono (by simp only[nb];omega),Ce8 _,(ih.2.2.append (Ko8 hM)).norm⟩
   ·cases h
def nxI (W0:PW) (f:List (List Tm)) (g:List Tm) (L:List PL) (W:PW):Prop:=match L with
 | [.val (.int .i64 i),_,.cells [.slice A n c]]=>∃(j:Nat) (a:List Tm),i=(j:Int)∧j≤f.length∧Ext W0 W∧Jz9 f g j=some a∧Ab0 141 127 W ⟨A,n,c⟩ a
 | _=>False
theorem Kq7 {l j:Nat} (hl:l≤2000000) (hj:j≤2):nb l j≤5000000:=by
 rcases(by omega:j=0∨j=1∨j=2) with rfl | rfl | rfl<;>simp only[nb]<;>omega
theorem Ki3 {W0:PW} {M:Nat→Prop} {s sg:Sl} {f:List (List Tm)} {g:List Tm} {l:Nat} (h:Ps W0 s f) (hp:Ab0 141 127 W0 sg g) (hf:Kj2 f) (hg:GOK l g) (hl:l≤2000000):
  Aa0 Tryz.prog 62 [s.v,.agg ⟨[sg.v]⟩] W0 M fun v W'=>∃(s':Sl),v = .tuple ⟨[.agg ⟨[Sl.v s']⟩,.bool (Kd0 f g).isSome]⟩∧Ab0 141 127 W' s' ((Kd0 f g).getD []):=by
 apply Kf8
 have hn:=h.n
 have hfl:=hf.len
 have hgl:=hg.len
 refine⟨nxI W0 f g,fun L _=>match L with | [.val (.int .i64 i),_,_]=>f.length-i.toNat | _=>0,⟨0,[],rfl,Nat.zero_le _,Ext.refl _,rfl,Ab0.nil W0⟩,?_⟩
 rintro s3 s4 i5 W6 ⟨j,a,rfl,hj,hE,ha,hP⟩
 have hP:Ab0 141 127 W6 s4 a:=hP
 have hA:=Kd5 hf hg hj ha
 have hal:=Av6.len hA.2.1 hA.2.2
 have hnb:=Kq7 hl (Nat.le_trans hj hfl)
 refine⟨fun hlt=>?_,fun hge W19 hE19=>⟨s4,?_,?_⟩⟩
 ·have hjl:j<f.length:=by omega
  obtain⟨x,hx,hq⟩:=(h.ext hE).at hjl
  have hm:=hf.bd _ (List.getElem_mem hjl)
  have hdb:=Hg1 hg.bd hg.ok (j:Int)
  have hdl:=Hj1 g (j:Int)
  refine⟨(h.ext hE).inB (by omega) (by omega),x,hx,Hg6 (hp.ext hE) hg.bd (by omega) (by omega) fun s10 W9 hE9 h9=>⟨s10,rfl,?_⟩⟩
  refine Ct0 (k:=3000000) h9 (hq.ext hE9) (hdb.mono (by omega)) (hm.1.mono (by omega)) (by omega) (by omega) (by omega) (by have:=Nat.mul_le_mul (Nat.le_trans hdl hgl) hm.2;omega) fun s13 W12 hE12 h12=>⟨s13,_,rfl,fun hno W15 _=>?_,fun hyes=>?_⟩
  ·have hM:¬Ct4 (Hc3 g (j:Int)) f[j]:=by simpa using hno
   have:Kd0 f g=none:=Kb5 (j:=j+1) (by rw[Jz9,ha,Jy8 hjl];dsimp only;rw[if_neg hM]) _ hjl
   rw[this]
   exact⟨⟨none,0,0⟩,rfl,Ab0.nil W15⟩
  ·have hM:Ct4 (Hc3 g (j:Int)) f[j]:=by simpa using hyes
   rw[Gn4 hM] at h12
   have hB:=(hdb.Ff3 hm.1).norm
   have hpl:=Av6.len (Ce8 (An8 (Hc3 g (j:Int)) f[j])) h12.ok
   refine Cw8 (k:=5000000) (hP.ext (hE9.trans hE12)) h12 (hA.1.mono (by omega)) (hB.mono (by omega)) (by omega) (by omega) (by omega) fun s18 W17 hE17 h17=>⟨s18,rfl,by unfold I64;omega,⟨j+1,Ag2 (a ++ Ag2 (An8 (Hc3 g (j:Int)) f[j])),by push_cast;rfl,by omega,hE.trans (hE9.trans (hE12.trans hE17)),?_,h17⟩,?_⟩
   ·rw[Jz9,ha,Jy8 hjl]
    dsimp only
    rw[if_pos hM]
   ·show f.length-Int.toNat ((j:Int)+1)<f.length-Int.toNat (j:Int)
    omega
 ·have:j=f.length:=by omega
  subst this
  unfold Kd0
  rw[ha]
  rfl
 ·have:j=f.length:=by omega
  subst this
  unfold Kd0
  rw[ha]
  exact hP.ext hE19
theorem Kg6 {W0 W:PW} {M:Nat→Prop} {s sg:Sl} {f:List (List Tm)} {g:List Tm} {l:Nat} {K:Value→PW→Prop} (h:Ps W s f) (hp:Ab0 141 127 W sg g) (hf:Kj2 f) (hg:GOK l g) (hl:l≤2000000) (kont: ∀(s':Sl) (W':PW),Ext W W'→(Ab0 141 127 W' s' ((Kd0 f g).getD []))→K (.tuple ⟨[.agg ⟨[Sl.v s']⟩,.bool (Kd0 f g).isSome]⟩) W'):
  Aa1 Tryz.prog W0 M 62 [s.v,.agg ⟨[sg.v]⟩] W K:=
 Aa2 (fun W' hE=>Ki3 (M:=fun _=>False) (h.ext hE) (hp.ext hE) hf hg hl) (fun W' v W'' hE hE' hP=>by
  obtain⟨s',rfl,h⟩:=hP
  exact kont s' W'' (hE.trans hE') h)
def Jz7 (f:List (List Tm)) (i:Nat):Nat→Option (List Tm)
 | 0=>some (Dc6 (i:Int))
 | n+1=>match Jz7 f i n with
  | none=>none
  | some g=>Kd0 f g
theorem Kb0 {f:List (List Tm)} {i n:Nat} (h:Jz7 f i n=none): ∀k,n≤k→Jz7 f i k=none
 | 0,hk=>by
  have:n=0:=by omega
  subst this
  exact h
 | k+1,hk=>by
  by_cases e:n=k+1
  ·subst e;exact h
  ·rw[Jz7,Kb0 h k (by omega)]
def Jz6 (f:List (List Tm)) (k:Int):Prop:=Jz8 f∧(0≤k∧k≤4)∧∀i,i<f.length→(Jz7 f i k.toNat).isSome=true
noncomputable def Ke7 (f:List (List Tm)) (k:Int):Option (List (List Tm)):=by
 classical exact if Jz6 f k then some ((List.range f.length).map fun i=>(Jz7 f i k.toNat).getD []) else none
theorem Kd3 {f:List (List Tm)} {k:Int} (h:¬Jz6 f k):Ke7 f k=none:=by unfold Ke7;rw[if_neg h]
theorem Jz3 {f:List (List Tm)} {k:Int} (h:Jz6 f k):Ke7 f k=some ((List.range f.length).map fun i=>(Jz7 f i k.toNat).getD []):=by unfold Ke7;rw[if_pos h]
def lb:Nat→Nat
 | 0=>4
 | n+1=>nb (lb n) 2
theorem Kp7: ∀n,n≤4→lb n≤2000000:=by decide
theorem Kf4 {f:List (List Tm)} (hf:Kj2 f) (hl:f.length=1∨f.length=2) {i:Nat} : ∀{n:Nat} {g:List Tm} (_:n≤4) (_:Jz7 f i n=some g),GOK (lb n) g
 | 0,g,_,h=>by
  simp only[Jz7,Option.some.injEq] at h
  subst h
  unfold Dc6
  split
  ·refine⟨Cq4 (Sz.one (Nat.le_refl 1)),⟨List.pairwise_singleton _ _,fun t ht=>?_⟩,fun t ht=>?_⟩
   ·simp at ht;subst ht;exact(by decide:(1:Rat)≠0)
   ·simp at ht;subst ht
    unfold Da3
    dsimp only
    (repeat' split)<;>decide
  ·exact⟨⟨1,0,trivial,by decide,by rw[Ax0];exact(by decide:1≤lb 0),by rw[Ag9];exact Nat.zero_le _⟩,Av6.nil,fun t ht=>by simp at ht⟩
 | n+1,g,hn,h=>by
  rw[Jz7] at h
  split at h
  ·cases h
  ·rename_i g' hg'
   have ih:=Kf4 hf hl (n:=n) (by omega) hg'
   have:=Kd5 hf ih (Nat.le_refl _) h
   refine⟨this.1.mono ?_,this.2.1,this.2.2⟩
   show nb (lb n) f.length≤nb (lb n) 2
   rcases hl with e | e<;>rw[e]
   ·simp only[nb];omega
   ·exact Nat.le_refl _
def lsN (f:List (List Tm)) (n:Nat):List (List Tm):=(List.range f.length).map fun i=>(Jz7 f i n).getD []
def Kk3 (f:List (List Tm)) (n i:Nat):List (List Tm):=(List.range f.length).map fun t=>if t<i then(Jz7 f t (n+1)).getD [] else(Jz7 f t n).getD []
theorem Kn7 (f:List (List Tm)) (n:Nat):Kk3 f n 0=lsN f n:=by
 unfold Kk3 lsN
 refine List.map_congr_left fun t _=>?_
 rw[if_neg (by omega)]
theorem Ko2 (f:List (List Tm)) (n:Nat):Kk3 f n f.length=lsN f (n+1):=by
 unfold Kk3 lsN
 refine List.map_congr_left fun t ht=>?_
 rw[if_pos (List.mem_range.1 ht)]
theorem Kd4 (f:List (List Tm)) (n i:Nat):(Kk3 f n i).length=f.length:=by simp[Kk3]
theorem Kp3 {f:List (List Tm)} {n i:Nat} (hi:i<f.length):(Kk3 f n i)[i]?=some ((Jz7 f i n).getD []):=by
 unfold Kk3
 rw[List.getElem?_map,List.getElem?_range hi]
 simp
theorem Ko7 {f:List (List Tm)} {n i:Nat} (hi:i<f.length):(Kk3 f n i).set i ((Jz7 f i (n+1)).getD [])=Kk3 f n (i+1):=by
 apply List.ext_getElem?
 intro t
 rw[List.getElem?_set]
 by_cases ht:t<f.length
 ·by_cases e:i=t
  ·subst e
   rw[if_pos rfl,if_pos (by rw[Kd4];exact hi)]
   unfold Kk3
   rw[List.getElem?_map,List.getElem?_range hi]
   simp
  ·rw[if_neg e]
   unfold Kk3
   rw[List.getElem?_map,List.getElem?_map,List.getElem?_range ht]
   by_cases h1:t<i
   ·simp[h1,show t<i+1 by omega]
   ·simp[h1,show ¬t<i+1 by omega]
 ·have h1:(Kk3 f n (i+1)).length≤t:=by rw[Kd4];omega
  have h2:(Kk3 f n i).length≤t:=by rw[Kd4];omega
  rw[if_neg (by omega),List.getElem?_eq_none h1,List.getElem?_eq_none h2]
def lf1 (W0:PW) (f:List (List Tm)) (L:List PL) (W:PW):Prop:=match L with
 | [.row l,.val (.int .i64 i)]=>∃j:Nat,i=(j:Int)∧j≤f.length∧Ext W0 W∧An5 (Gx4 141 127 W) l ((List.range j).map fun t:Nat=>Dc6 (t:Int))
 | _=>False
def lf2 (W0:PW) (f:List (List Tm)) (k:Int) (L:List PL) (W:PW):Prop:=match L with
 | [.val (.int .i64 i),.row l]=>∃n:Nat,i=(n:Int)∧(n:Int)≤k∧Ext W0 W∧(∀t,t<f.length→(Jz7 f t n).isSome=true)∧An5 (Gx4 141 127 W) l (lsN f n)
 | _=>False
def lf3 (W0:PW) (f:List (List Tm)) (n:Nat) (L:List PL) (W:PW):Prop:=match L with
 | [.val (.int .i64 i),.row l]=>∃j:Nat,i=(j:Int)∧j≤f.length∧Ext W0 W∧(∀t,t<j→(Jz7 f t (n+1)).isSome=true)∧An5 (Gx4 141 127 W) l (Kk3 f n j)
 | _=>False
theorem Kl2 {W0:PW} {M:Nat→Prop} {s:Sl} {f:List (List Tm)} {k:Int} (h:Ps W0 s f) (hl:f.length≤4) (hb: ∀q∈f,Bd 56029 q∧q.length≤14):
  Aa0 Tryz.prog 21 [s.v,.int .i64 k] W0 M fun v W'=>∃(s':Sl),v = .tuple ⟨[Sl.v s',.bool (Ke7 f k).isSome]⟩∧Ps W' s' ((Ke7 f k).getD []):=by
 apply Kh9
 have hn:=h.n
 have bad:¬Jz6 f k→∀W':PW,∃s':Sl,(Value.tuple ⟨[.slice none 0 0,.bool false]⟩) = .tuple ⟨[Sl.v s',.bool (Ke7 f k).isSome]⟩∧Ps W' s' ((Ke7 f k).getD []):=fun hb W'=>by rw[Kd3 hb];exact⟨⟨none,0,0⟩,rfl,Gf4.nil W'⟩
 refine Jz5 h (by omega) (fun p hp=>by have:=(hb p hp).2;omega) fun W2 hE2 _=>⟨_,rfl,fun hno W4 _=>bad (fun hL=>by have:=hL.1;simp[this] at hno) W4,fun hyes=>⟨fun hk W5 _=>bad (fun hL=>by have:=hL.2.1;omega) W5,fun h0=>⟨fun hk W6 _=>bad (fun hL=>by have:=hL.2.1;omega) W6,fun h4=>?_⟩⟩⟩
 have hF:Jz8 f:=by simpa using hyes
 have hf:Kj2 f:=⟨hb,hF.2.2⟩
 have hf12:f.length=1∨f.length=2:=by have:=hF.2;omega
 refine⟨lf1 W0 f,fun L _=>match L with | [_,.val (.int .i64 i)]=>f.length-i.toNat | _=>0,⟨0,rfl,Nat.zero_le _,hE2,trivial⟩,?_⟩
 rintro l9 i10 W11 ⟨j,rfl,hj,hE11,ha⟩
 have hal:=ha.len
 rw[List.length_map,List.length_range] at hal
 refine⟨fun hlt=>?_,fun hge=>?_⟩
 ·refine Cr4 fun s14 W13 hE13 h13=>⟨s14,rfl,by simp only[List.length_cons,List.length_nil];omega,by unfold I64;omega,⟨j+1,by push_cast;rfl,by omega,hE11.trans hE13,?_⟩,?_⟩
  ·rw[List.range_succ,List.map_append]
   exact(ha.mono fun _ _ h=>h.ext hE13).snoc ⟨s14,rfl,h13⟩
  ·show f.length-Int.toNat ((j:Int)+1)<f.length-Int.toNat (j:Int)
   omega
 have hjj:j=f.length:=by omega
 subst hjj
 refine⟨lf2 W0 f k,fun L _=>match L with | [.val (.int .i64 i),_]=>(k-i).toNat | _=>0,⟨0,rfl,by omega,hE11,fun t _=>rfl,ha⟩,?_⟩
 rintro l17 i18 W19 ⟨n,rfl,hnk,hE19,hsome,hall⟩
 have hl17:=hall.len
 simp only[lsN,List.length_map,List.length_range] at hl17
 refine⟨fun hltk=>?_,fun hgek s31 W32 hE32 hO _ W33 hE33=>?_⟩
 ·refine⟨lf3 W0 f n,fun L _=>match L with | [.val (.int .i64 i),_]=>f.length-i.toNat | _=>0,⟨0,rfl,Nat.zero_le _,hE19,fun t ht=>absurd ht (Nat.not_lt_zero t),by rw[Kn7];exact hall⟩,?_⟩
  rintro l22 i23 W24 ⟨t,rfl,ht,hE24,hs1,hmix⟩
  have hl22:=hmix.len
  rw[Kd4] at hl22
  refine⟨fun hltt=>?_,fun hget=>⟨by unfold I64;omega,⟨n+1,by push_cast;rfl,by omega,hE24,?_,?_⟩,?_⟩⟩
  ·have htl:t<f.length:=by omega
   obtain⟨x,hx,y,rfl,hy⟩:=hmix.get (Kp3 htl)
   obtain⟨g,hg⟩:=Option.isSome_iff_exists.1 (hsome t htl)
   rw[hg] at hy
   have hy:Ab0 141 127 W24 y g:=hy
   have hG:=Kf4 hf hf12 (n:=n) (by omega) hg
   refine⟨⟨by omega,by omega⟩,y,⟨[y.v],hx,rfl⟩,Kg6 (h.ext hE24) hy hf hG (Kp7 n (by omega)) fun s28 W27 hE27 h27=>⟨s28,_,rfl,fun hno W30 _=>bad (fun hL=>?_) W30,fun hok=>⟨⟨by omega,by omega⟩,by omega,by unfold I64;omega,⟨t+1,by push_cast;rfl,by omega,hE24.trans hE27,fun u hu=>?_,?_⟩,?_⟩⟩⟩
   ·have hnn:Jz7 f t (n+1)=none:=by
     rw[Jz7,hg]
     show Kd0 f g=none
     cases hq:Kd0 f g with
     | none=>rfl
     | some r=>rw[hq] at hno;cases hno
    have h1:=hL.2.2 t htl
    rw[Kb0 hnn k.toNat (by omega)] at h1
    cases h1
   ·by_cases e:u=t
    ·subst e
     rw[Jz7,hg]
     simpa using hok
    ·exact hs1 u (by omega)
   ·rw[←Ko7 htl]
    have e:Jz7 f t (n+1)=Kd0 f g:=by rw[Jz7,hg]
    rw[e]
    exact(hmix.mono fun _ _ h=>h.ext hE27).set t ⟨s28,rfl,h27⟩
   ·show f.length-Int.toNat ((t:Int)+1)<f.length-Int.toNat (t:Int)
    omega
  ·intro u hu
   exact hs1 u (by omega)
  ·have:t=f.length:=by omega
   subst this
   rw[←Ko2]
   exact hmix
  ·show(k-((n:Int)+1)).toNat<(k-(n:Int)).toNat
   omega
 ·have hkn:k.toNat=n:=by omega
  have hL:Jz6 f k:=⟨hF,⟨by omega,by omega⟩,fun i hi=>by rw[hkn];exact hsome i hi⟩
  rw[Jz3 hL,hkn]
  exact⟨s31,rfl,l17,⟨_,(hO.ext hE33).row⟩,hall.mono fun _ _ h=>h.ext (hE32.trans hE33)⟩
theorem Kb9 {W0 W:PW} {M:Nat→Prop} {s:Sl} {f:List (List Tm)} {k:Int} {K:Value→PW→Prop} (h:Ps W s f) (hl:f.length≤4) (hb: ∀q∈f,Bd 56029 q∧q.length≤14) (kont: ∀(s':Sl) (W':PW),Ext W W'→(Ps W' s' ((Ke7 f k).getD []))→K (.tuple ⟨[Sl.v s',.bool (Ke7 f k).isSome]⟩) W'):
  Aa1 Tryz.prog W0 M 21 [s.v,.int .i64 k] W K:=
 Aa2 (fun W' hE=>Kl2 (M:=fun _=>False) (h.ext hE) hl hb) (fun W' v W'' hE hE' hP=>by
  obtain⟨s',rfl,h⟩:=hP
  exact kont s' W'' (hE.trans hE') h)
end Go.Proofs.YtahohahjnhfedaaGreatDoor
/- cincturelaw16.FlowLies. -/
namespace Go.Proofs.YtahohahjnhfedaaGreatDoor
open Go Go.SX
theorem Kq5:Ag2 [((⟨0,0,0⟩:Mon),((1:Int):Rat))] = [(⟨0,0,0⟩,1)]:=by decide +kernel
theorem Kp1:Ke7 [[((⟨0,0,0⟩:Mon),(1:Rat))]] 1=some [[(⟨0,0,0⟩,1)]]:=by
 have h1:Jz7 [[((⟨0,0,0⟩:Mon),(1:Rat))]] 0 1=some [(⟨0,0,0⟩,1)]:=by decide +kernel
 have hF:Jz8 [[((⟨0,0,0⟩:Mon),(1:Rat))]]:=by decide +kernel
 have hL:Jz6 [[((⟨0,0,0⟩:Mon),(1:Rat))]] 1:=⟨hF,by decide,fun i hi=>by
  have:i=0:=by simp at hi;exact hi
  subst this
  show(Jz7 _ 0 1).isSome=true
  rw[h1]
  rfl⟩
 rw[Jz3 hL]
 show some [(Jz7 _ 0 1).getD []]=_
 rw[h1]
 rfl
theorem Kr3:Bd 56029 [((⟨0,0,0⟩:Mon),(1:Rat))]:=(Cq4 (Sz.one (Nat.le_refl 1))).mono (by decide)
theorem Kf3 {W0:PW} {M:Nat→Prop} :
  Aa0 Tryz.prog 6 [] W0 M fun v W'=>v = .bool true∧True:=by
 apply Kd6
 refine Ay8 (z:=1) (by unfold I64;omega) fun s3 b4 s5 W2 hE2 h2=>⟨s3,b4,s5,rfl,?_⟩
 refine Gf5 h2 (Sz.one (show 1≤1 by omega)) (by omega) fun s8 W7 hE7 h7=>⟨s8,rfl,fun s9 W10 hE10 hO _=>?_⟩
 rw[Kq5] at h7
 have hf:Ps W10 s9 [[((⟨0,0,0⟩:Mon),(1:Rat))]]:=⟨_,⟨_,hO.row⟩,⟨s8,rfl,h7.ext hE10⟩,trivial⟩
 refine Kb9 hf (by simp) (fun q hq=>by simp at hq;subst hq;exact⟨Kr3,by simp⟩) fun s13 W12 hE12 h12=>⟨s13,_,rfl,?_⟩
 rw[Kp1] at h12⊢
 have h12:Ps W12 s13 [[((⟨0,0,0⟩:Mon),(1:Rat))]]:=h12
 have hn:=h12.n
 refine⟨fun _=>⟨fun _=>?_,fun e=>absurd (by rw[hn];rfl) e⟩,fun e=>(by cases e)⟩
 obtain⟨x,hx,hp⟩:=h12.at (i:=0) (by simp)
 refine⟨h12.inB (by omega) (by simp),x,hx,?_⟩
 refine Ak1 (z:=1) (by unfold I64;omega) fun b18 s19 s20 W17 hE17 h17=>⟨b18,s19,s20,rfl,hE17,?_⟩
 refine Kf1 h17 (Sz.one (show 1≤1 by omega)) (by omega) fun s23 W22 hE22 h22=>⟨s23,rfl,hE22,?_⟩
 rw[Kq5] at h22
 refine Ki6 (hp.ext (hE17.trans hE22)) h22 (k:=1) (fun t ht=>by simp at ht;subst ht;exact Sz.one (Nat.le_refl 1)) (by omega) (by simp) fun W25 hE25 _=>⟨true,rfl,fun _=>?_,fun e=>(by cases e)⟩
 refine Cr4 fun s29 W28 hE28 h28=>⟨s29,rfl,fun s30 W31 hE31 hO2 _=>?_⟩
 have hv:Ps W31 s30 [Dc6 0]:=⟨_,⟨_,hO2.row⟩,⟨s29,rfl,h28.ext hE31⟩,trivial⟩
 have hF:Jz8 [Dc6 0]:=by decide +kernel
 exact Jz5 hv (by simp) (fun p hp=>by simp at hp;subst hp;exact Nat.le_trans (show(Dc6 0).length≤1 by unfold Dc6;split<;>simp) (by omega)) fun W33 hE33 _=>⟨_,rfl,fun W35 _=>⟨by rw[decide_eq_true hF],trivial⟩⟩
theorem Ka0 {W0 W:PW} {M:Nat→Prop} {K:Value→PW→Prop} (kont: ∀(W':PW),Ext W W'→(True)→K (.bool true) W'):
  Aa1 Tryz.prog W0 M 6 [] W K:=
 Aa2 (fun W' hE=>Kf3 (M:=fun _=>False) ) (fun W' v W'' hE hE' hP=>by
  obtain⟨rfl,h⟩:=hP
  exact kont W'' (hE.trans hE') h)
end Go.Proofs.YtahohahjnhfedaaGreatDoor
/- whole.Pow, rat.Pow; cinctureref1.times. -/
namespace Go.Proofs.YtahohahjnhfedaaGreatDoor
open Go Go.SX
theorem Fu3 {i:Nat} (h:i<256):bits .and .i64 (i:Int) 1=((i%2:Nat):Int):=by
 have key: ∀i:Nat,i<256→bits .and .i64 (i:Int) 1=((i%2:Nat):Int):=by decide +kernel
 exact key i h
theorem Fp4 (i:Nat):Ah0 (i:Int) 1=((i/2:Nat):Int):=by
 unfold Ah0
 rw[Int.fdiv_eq_ediv_of_nonneg _ (by decide)]
 omega
theorem Cf5 {z:Int} {k:Nat} (h:nl z.natAbs≤k) (e:Nat):nl (z^e).natAbs≤k*e+1:=by
 induction e with
 | zero=>simp[Ax0]
 | succ e ih=>
  rw[Int.pow_succ,Int.natAbs_mul]
  have:=Ae5 (z^e).natAbs z.natAbs
  rw[Nat.mul_add]
  omega
theorem Di0 {W0:PW} {M:Nat→Prop} {s:Sl} {b:Bool} {z:Int} {n k:Nat} (h:Ab5 141 W0 s b z) (hz:nl z.natAbs≤k) (hk:k≤1048576) (hn:n≤255):
  Aa0 Tryz.prog 166 [.agg ⟨[s.v,.bool b]⟩,.int .i64 (n:Int)] W0 M fun v W'=>∃(s':Sl),∃(b':Bool),v = .agg ⟨[Sl.v s',.bool b']⟩∧Ab5 141 W' s' b' (z^n):=by
 apply Cg5
 have en:mn (mx (n:Int) 0) 255=(n:Int):=by unfold mn mx;split<;>(try split)<;>omega
 unfold Cf2
 rw[en]
 refine Bk1 (z:=1) (by unfold I64;omega) fun s3 b4 W2 hE2 h2=>⟨s3,b4,rfl,?_⟩
 refine⟨fun l W=>match l with
  | [.val (.int .i64 i),.cells [.slice A m c,.bool x],.cells [.slice A' m' c',.bool y]]=>∃(j e f:Nat),i=(j:Int)∧Ext W0 W∧f+e*j=n∧e≤2*n+1∧j≤255∧Ab5 141 W ⟨A,m,c⟩ x (z^f)∧Ab5 141 W ⟨A',m',c'⟩ y (z^e)
  | _=>False,fun l _=>match l with | [.val (.int .i64 i),_,_]=>i.toNat | _=>0,⟨n,1,0,rfl,hE2,by omega,by omega,hn,by simpa using h2,by rw[show z^1=z by rw[Int.pow_succ,Int.pow_zero,Int.one_mul]];exact h.ext hE2⟩,?_⟩
 rintro s7 b8 s9 b10 i11 W12 ⟨j,e,f,rfl,hE,hfe,he,hj,hf1,hf2⟩
 have hf1:Ab5 141 W12 s7 b8 (z^f):=hf1
 have hf2:Ab5 141 W12 s9 b10 (z^e):=hf2
 have hjn:e*j≤n:=by omega
 refine⟨fun hpos=>?_,fun hz0 W25 hE25=>⟨s7,b8,rfl,?_⟩⟩
 ·have hj1:1≤j:=by omega
  have hen:e≤n:=Nat.le_trans (Nat.le_mul_of_pos_right e hj1) hjn
  have hsz: ∀x,x≤511→nl (z^x).natAbs≤68719476736:=fun x hx=>by
   have h1:=Cf5 hz x
   have h2:=Nat.mul_le_mul hk hx
   omega
  have hee:(e+e)*(j/2)=e*(2*(j/2)):=by rw[←Nat.two_mul,Nat.mul_comm 2 e,Nat.mul_assoc]
  have hi:Int.toNat (Ah0 (j:Int) 1)<Int.toNat (j:Int):=by rw[Fp4];omega
  refine⟨fun hodd=>?_,fun heven=>?_⟩
  ·have ho:j%2=1:=by rw[Fu3 (by omega)] at hodd;omega
   have hj2:j=2*(j/2)+1:=by omega
   have hej:e*j=e*(2*(j/2))+e:=by conv=>lhs;rw[hj2,Nat.mul_add,Nat.mul_one]
   refine Ak0 hf1 hf2 (hsz f (by omega)) (hsz e (by omega)) fun s15 b16 W14 hE14 h14=>⟨s15,b16,rfl,Ak0 (hf2.ext hE14) (hf2.ext hE14) (hsz e (by omega)) (hsz e (by omega)) fun s19 b20 W18 hE18 h18=>⟨s19,b20,rfl,⟨j/2,e+e,f+e,by rw[Fp4],hE.trans (hE14.trans hE18),by omega,by omega,by omega,?_,?_⟩,hi⟩⟩
   ·rw[Int.pow_add];exact h14.ext hE18
   ·rw[Int.pow_add];exact h18
  ·have ho:j%2=0:=by
    rw[Fu3 (by omega)] at heven
    omega
   have hj2:j=2*(j/2):=by omega
   have hej:e*j=e*(2*(j/2)):=by conv=>lhs;rw[hj2]
   refine Ak0 hf2 hf2 (hsz e (by omega)) (hsz e (by omega)) fun s23 b24 W22 hE22 h22=>⟨s23,b24,rfl,⟨j/2,e+e,f,by rw[Fp4],hE.trans hE22,by omega,by omega,by omega,hf1.ext hE22,?_⟩,hi⟩
   rw[Int.pow_add];exact h22
 ·have:j=0:=by omega
  subst this
  rw[Nat.mul_zero,Nat.add_zero] at hfe
  rw[←hfe]
  exact hf1.ext hE25
theorem Bd6 {W0 W:PW} {M:Nat→Prop} {s:Sl} {b:Bool} {z:Int} {n k:Nat} {K:Value→PW→Prop} (h:Ab5 141 W s b z) (hz:nl z.natAbs≤k) (hk:k≤1048576) (hn:n≤255) (kont: ∀(s':Sl) (b':Bool) (W':PW),Ext W W'→(Ab5 141 W' s' b' (z^n))→K (.agg ⟨[Sl.v s',.bool b']⟩) W'):
  Aa1 Tryz.prog W0 M 166 [.agg ⟨[s.v,.bool b]⟩,.int .i64 (n:Int)] W K:=
 Aa2 (fun W' hE=>Di0 (M:=fun _=>False) (h.ext hE) hz hk hn) (fun W' v W'' hE hE' hP=>by
  obtain⟨s',b',rfl,h⟩:=hP
  exact kont s' b' W'' (hE.trans hE') h)
theorem Eo3 (q:Rat) (n:Nat):dn (q^n)=if dn q=0∨n=0 then 0 else q.den^n:=by
 unfold dn
 rw[Rat.den_pow]
 by_cases h1:q.den=1
 ·simp[h1]
 ·by_cases h2:n=0
  ·subst h2;simp
  ·have:q.den^n≠1:=by
    have hd:=q.den_nz
    obtain⟨m,rfl⟩: ∃m,n=m+1:=⟨n-1,by omega⟩
    rw[Nat.pow_succ]
    have:1≤q.den^m:=Nat.pow_pos (by omega)
    have:=Nat.mul_le_mul this (show 2≤q.den by omega)
    omega
   have hz:q.den≠0:=q.den_nz
   simp[h1,h2,this,hz]
theorem Er1 {W0:PW} {M:Nat→Prop} {s t:Sl} {b:Bool} {q:Rat} {n k:Nat} (h:Ab3 141 W0 s b t q) (hz:Sz k q) (hk:k≤1048576) (hn:n≤255):
  Aa0 Tryz.prog 149 [.agg ⟨[s.v,.bool b,t.v]⟩,.int .i64 (n:Int)] W0 M fun v W'=>∃(s':Sl),∃(b':Bool),∃(t':Sl),v = .agg ⟨[Sl.v s',.bool b',Sl.v t']⟩∧Ab3 141 W' s' b' t' (q^n):=by
 apply Dk0
 have hd:=hz.dn
 refine Bd6 h.1 hz.1 hk hn fun s3 b4 W2 hE2 h2=>⟨s3,b4,rfl,Ac9 (h.2.ext hE2) (by omega) fun W6 hE6 _=>⟨_,rfl,fun hb=>⟨fun hn0=>?_,fun hn0 W20 hE20=>⟨s3,b4,⟨none,0,0⟩,rfl,(h2.ext hE6).ext hE20,?_⟩⟩,fun hb W21 hE21=>⟨s3,b4,⟨none,0,0⟩,rfl,(h2.ext hE6).ext hE21,?_⟩⟩⟩
 ·refine Bc0 (h.ext (hE2.trans hE6)) hz (by omega) fun s10 b11 W9 hE9 h9=>⟨s10,b11,rfl,Bd6 h9 (by rw[Int.natAbs_natCast];exact hz.2) hk hn fun s14 b15 W13 hE13 h13=>⟨s14,b15,rfl,Ag5 h13 fun s18 W17 hE17 h17=>⟨s18,rfl,fun W19 hE19=>⟨s3,b4,s18,rfl,(h2.ext (hE6.trans (hE9.trans (hE13.trans hE17)))).ext hE19,?_⟩⟩⟩⟩
  have hdq:dn q≠0:=fun e=>by
   rw[e] at hb
   simp[Aj9] at hb
  have e:dn (q^n)=q.den^n:=by rw[Eo3,if_neg (by omega)]
  rw[e]
  have e2:((q.den:Int)^n).natAbs=q.den^n:=by rw[Int.natAbs_pow,Int.natAbs_natCast]
  rw[e2] at h17
  exact h17.ext hE19
 ·have:n=0:=by omega
  rw[Eo3,if_pos (.inr this)]
  exact Ao9 W20
 ·have:dn q=0:=(Ag3 (x:=dn q)).1 (by omega)
  rw[Eo3,if_pos (.inl this)]
  exact Ao9 W21
theorem Bq4 {W0 W:PW} {M:Nat→Prop} {s t:Sl} {b:Bool} {q:Rat} {n k:Nat} {K:Value→PW→Prop} (h:Ab3 141 W s b t q) (hz:Sz k q) (hk:k≤1048576) (hn:n≤255) (kont: ∀(s':Sl) (b':Bool) (t':Sl) (W':PW),Ext W W'→(Ab3 141 W' s' b' t' (q^n))→K (.agg ⟨[Sl.v s',.bool b',Sl.v t']⟩) W'):
  Aa1 Tryz.prog W0 M 149 [.agg ⟨[s.v,.bool b,t.v]⟩,.int .i64 (n:Int)] W K:=
 Aa2 (fun W' hE=>Er1 (M:=fun _=>False) (h.ext hE) hz hk hn) (fun W' v W'' hE hE' hP=>by
  obtain⟨s',b',t',rfl,h⟩:=hP
  exact kont s' b' t' W'' (hE.trans hE') h)
end Go.Proofs.YtahohahjnhfedaaGreatDoor
/- The program's intervals. -/
namespace Go.Proofs.YtahohahjnhfedaaGreatDoor
open Go Go.SX
theorem De5 {W0:PW} {M:Nat→Prop} {s t s' t':Sl} {b b':Bool} {p q:Rat} {k:Nat} (h1:Ab3 141 W0 s b t p) (h2:Ab3 141 W0 s' b' t' q) (hp:Sz k p) (hq:Sz k q) (hk:k≤34359738368):
  Aa0 Tryz.prog 80 [.agg ⟨[s.v,.bool b,t.v]⟩,.agg ⟨[s'.v,.bool b',t'.v]⟩] W0 M fun v W'=>∃(r:Sl),∃(c:Bool),∃(u:Sl),v = .agg ⟨[Sl.v r,.bool c,Sl.v u]⟩∧Ab3 141 W' r c u (Az9 p q):=by
 apply Cg1
 refine Aj2 h2 h1 hq hp hk hk fun W2 hE2 _=>⟨_,rfl,fun h W4 hE4=>⟨s',b',t',rfl,?_⟩,fun h W5 hE5=>⟨s,b,t,rfl,?_⟩⟩
 ·rw[Az9,if_pos (At6.1 h)];exact h2.ext (hE2.trans hE4)
 ·rw[Az9,if_neg (fun e=>h (At6.2 e))];exact h1.ext (hE2.trans hE5)
theorem Be3 {W0 W:PW} {M:Nat→Prop} {s t s' t':Sl} {b b':Bool} {p q:Rat} {k:Nat} {K:Value→PW→Prop} (h1:Ab3 141 W s b t p) (h2:Ab3 141 W s' b' t' q) (hp:Sz k p) (hq:Sz k q) (hk:k≤34359738368) (kont: ∀(r:Sl) (c:Bool) (u:Sl) (W':PW),Ext W W'→(Ab3 141 W' r c u (Az9 p q))→K (.agg ⟨[Sl.v r,.bool c,Sl.v u]⟩) W'):
  Aa1 Tryz.prog W0 M 80 [.agg ⟨[s.v,.bool b,t.v]⟩,.agg ⟨[s'.v,.bool b',t'.v]⟩] W K:=
 Aa2 (fun W' hE=>De5 (M:=fun _=>False) (h1.ext hE) (h2.ext hE) hp hq hk) (fun W' v W'' hE hE' hP=>by
  obtain⟨r,c,u,rfl,h⟩:=hP
  exact kont r c u W'' (hE.trans hE') h)
theorem Dl7 {W0:PW} {M:Nat→Prop} {s t s' t':Sl} {b b':Bool} {p q:Rat} {k:Nat} (h1:Ab3 141 W0 s b t p) (h2:Ab3 141 W0 s' b' t' q) (hp:Sz k p) (hq:Sz k q) (hk:k≤34359738368):
  Aa0 Tryz.prog 81 [.agg ⟨[s.v,.bool b,t.v]⟩,.agg ⟨[s'.v,.bool b',t'.v]⟩] W0 M fun v W'=>∃(r:Sl),∃(c:Bool),∃(u:Sl),v = .agg ⟨[Sl.v r,.bool c,Sl.v u]⟩∧Ab3 141 W' r c u (Au7 p q):=by
 apply Ck9
 refine Aj2 h2 h1 hq hp hk hk fun W2 hE2 _=>⟨_,rfl,fun h W4 hE4=>⟨s',b',t',rfl,?_⟩,fun h W5 hE5=>⟨s,b,t,rfl,?_⟩⟩
 ·rw[Au7,if_pos (Al3.1 h)];exact h2.ext (hE2.trans hE4)
 ·rw[Au7,if_neg (fun e=>h (Al3.2 e))];exact h1.ext (hE2.trans hE5)
theorem Bd3 {W0 W:PW} {M:Nat→Prop} {s t s' t':Sl} {b b':Bool} {p q:Rat} {k:Nat} {K:Value→PW→Prop} (h1:Ab3 141 W s b t p) (h2:Ab3 141 W s' b' t' q) (hp:Sz k p) (hq:Sz k q) (hk:k≤34359738368) (kont: ∀(r:Sl) (c:Bool) (u:Sl) (W':PW),Ext W W'→(Ab3 141 W' r c u (Au7 p q))→K (.agg ⟨[Sl.v r,.bool c,Sl.v u]⟩) W'):
  Aa1 Tryz.prog W0 M 81 [.agg ⟨[s.v,.bool b,t.v]⟩,.agg ⟨[s'.v,.bool b',t'.v]⟩] W K:=
 Aa2 (fun W' hE=>Dl7 (M:=fun _=>False) (h1.ext hE) (h2.ext hE) hp hq hk) (fun W' v W'' hE hE' hP=>by
  obtain⟨r,c,u,rfl,h⟩:=hP
  exact kont r c u W'' (hE.trans hE') h)
theorem Cl8 {W0:PW} {M:Nat→Prop} {s t s' t':Sl} {b b':Bool} {p q:Rat} {k:Nat} (h1:Ab3 141 W0 s b t p) (h2:Ab3 141 W0 s' b' t' q) (hp:Sz k p) (hq:Sz k q) (hk:k≤34359738368):
  Aa0 Tryz.prog 85 [.agg ⟨[s.v,.bool b,t.v]⟩,.agg ⟨[s'.v,.bool b',t'.v]⟩] W0 M fun v W'=>∃(l:List Value),v = .agg ⟨l⟩∧SpV 141 W' l (Ag0 p q):=by
 apply Bv4
 exact Be3 h1 h2 hp hq hk fun s3 b4 s5 W2 hE2 g1=>⟨s3,b4,s5,rfl,Bd3 (h1.ext hE2) (h2.ext hE2) hp hq hk fun s8 b9 s10 W7 hE7 g2=>⟨s8,b9,s10,rfl,fun W11 hE11=>⟨_,rfl,SpV.mk (x:=Ag0 p q) (g1.ext (hE7.trans hE11)) (g2.ext hE11)⟩⟩⟩
theorem Ap8 {W0 W:PW} {M:Nat→Prop} {s t s' t':Sl} {b b':Bool} {p q:Rat} {k:Nat} {K:Value→PW→Prop} (h1:Ab3 141 W s b t p) (h2:Ab3 141 W s' b' t' q) (hp:Sz k p) (hq:Sz k q) (hk:k≤34359738368) (kont: ∀(l:List Value) (W':PW),Ext W W'→(SpV 141 W' l (Ag0 p q))→K (.agg ⟨l⟩) W'):
  Aa1 Tryz.prog W0 M 85 [.agg ⟨[s.v,.bool b,t.v]⟩,.agg ⟨[s'.v,.bool b',t'.v]⟩] W K:=
 Aa2 (fun W' hE=>Cl8 (M:=fun _=>False) (h1.ext hE) (h2.ext hE) hp hq hk) (fun W' v W'' hE hE' hP=>by
  obtain⟨l,rfl,h⟩:=hP
  exact kont l W'' (hE.trans hE') h)
theorem Dh8 {W0:PW} {M:Nat→Prop} {l1 l2:List Value} {x y:Iv} {k:Nat} (h1:SpV 141 W0 l1 x) (h2:SpV 141 W0 l2 y) (hx:IvS k x) (hy:IvS k y) (hk:k≤34359738368):
  Aa0 Tryz.prog 38 [.agg ⟨l1⟩,.agg ⟨l2⟩] W0 M fun v W'=>∃(l:List Value),v = .agg ⟨l⟩∧SpV 141 W' l (Bu9 x y):=by
 obtain⟨s0,b0,t0,s1,b1,t1,rfl,h1,h1'⟩:=h1
 obtain⟨s2,b2,t2,s3,b3,t3,rfl,h2,h2'⟩:=h2
 apply Ck6
 exact Be3 h1 h2 hx.1 hy.1 hk fun s3 b4 s5 W2 hE2 g1=>⟨s3,b4,s5,rfl,Bd3 (h1'.ext hE2) (h2'.ext hE2) hx.2 hy.2 hk fun s8 b9 s10 W7 hE7 g2=>⟨s8,b9,s10,rfl,fun W11 hE11=>⟨_,rfl,SpV.mk (x:=Bu9 x y) (g1.ext (hE7.trans hE11)) (g2.ext hE11)⟩⟩⟩
theorem Cn9 {W0 W:PW} {M:Nat→Prop} {l1 l2:List Value} {x y:Iv} {k:Nat} {K:Value→PW→Prop} (h1:SpV 141 W l1 x) (h2:SpV 141 W l2 y) (hx:IvS k x) (hy:IvS k y) (hk:k≤34359738368) (kont: ∀(l:List Value) (W':PW),Ext W W'→(SpV 141 W' l (Bu9 x y))→K (.agg ⟨l⟩) W'):
  Aa1 Tryz.prog W0 M 38 [.agg ⟨l1⟩,.agg ⟨l2⟩] W K:=
 Aa2 (fun W' hE=>Dh8 (M:=fun _=>False) (h1.ext hE) (h2.ext hE) hx hy hk) (fun W' v W'' hE hE' hP=>by
  obtain⟨l,rfl,h⟩:=hP
  exact kont l W'' (hE.trans hE') h)
theorem Dx1 {W0:PW} {M:Nat→Prop} {l1 l2:List Value} {x y:Iv} {k:Nat} (h1:SpV 141 W0 l1 x) (h2:SpV 141 W0 l2 y) (hx:IvS k x) (hy:IvS k y) (hk:k≤8589934592):
  Aa0 Tryz.prog 42 [.agg ⟨l1⟩,.agg ⟨l2⟩] W0 M fun v W'=>∃(l:List Value),v = .agg ⟨l⟩∧SpV 141 W' l (Cb5 x y):=by
 obtain⟨s0,b0,t0,s1,b1,t1,rfl,h1,h1'⟩:=h1
 obtain⟨s2,b2,t2,s3,b3,t3,rfl,h2,h2'⟩:=h2
 apply Cs4
 exact At2 h1 h2 hx.1 hy.1 hk hk fun s3 b4 s5 W2 hE2 g1=>⟨s3,b4,s5,rfl,At2 (h1'.ext hE2) (h2'.ext hE2) hx.2 hy.2 hk hk fun s8 b9 s10 W7 hE7 g2=>⟨s8,b9,s10,rfl,fun W11 hE11=>⟨_,rfl,SpV.mk (x:=Cb5 x y) (g1.ext (hE7.trans hE11)) (g2.ext hE11)⟩⟩⟩
theorem Cy0 {W0 W:PW} {M:Nat→Prop} {l1 l2:List Value} {x y:Iv} {k:Nat} {K:Value→PW→Prop} (h1:SpV 141 W l1 x) (h2:SpV 141 W l2 y) (hx:IvS k x) (hy:IvS k y) (hk:k≤8589934592) (kont: ∀(l:List Value) (W':PW),Ext W W'→(SpV 141 W' l (Cb5 x y))→K (.agg ⟨l⟩) W'):
  Aa1 Tryz.prog W0 M 42 [.agg ⟨l1⟩,.agg ⟨l2⟩] W K:=
 Aa2 (fun W' hE=>Dx1 (M:=fun _=>False) (h1.ext hE) (h2.ext hE) hx hy hk) (fun W' v W'' hE hE' hP=>by
  obtain⟨l,rfl,h⟩:=hP
  exact kont l W'' (hE.trans hE') h)
theorem Dy9 {W0:PW} {M:Nat→Prop} {l1 l2:List Value} {x y:Iv} {k:Nat} (h1:SpV 141 W0 l1 x) (h2:SpV 141 W0 l2 y) (hx:IvS k x) (hy:IvS k y) (hk:k≤8589934592):
  Aa0 Tryz.prog 45 [.agg ⟨l1⟩,.agg ⟨l2⟩] W0 M fun v W'=>∃(l:List Value),v = .agg ⟨l⟩∧SpV 141 W' l (Ay9 x y):=by
 obtain⟨s0,b0,t0,s1,b1,t1,rfl,h1,h1'⟩:=h1
 obtain⟨s2,b2,t2,s3,b3,t3,rfl,h2,h2'⟩:=h2
 apply Cy7
 have z1:=hx.1.mul hy.1
 have z2:=hx.2.mul hy.2
 have z3:=hx.1.mul hy.2
 have z4:=hx.2.mul hy.1
 have zm: ∀{a b:Rat},Sz (k+k) a→Sz (k+k) b→IvS (k+k) (Ag0 a b):=fun ha hb=>⟨by rcases Dj0 _ _ with e | e<;>rw[Ag0,e]<;>assumption,by rcases Dj7 _ _ with e | e<;>rw[Ag0,e]<;>assumption⟩
 refine Ak9 h1 h2 hx.1 hy.1 hk hk fun s3 b4 s5 W2 hE2 g1=>⟨s3,b4,s5,rfl,Ak9 (h1'.ext hE2) (h2'.ext hE2) hx.2 hy.2 hk hk fun s8 b9 s10 W7 hE7 g2=>⟨s8,b9,s10,rfl,Ap8 (g1.ext hE7) g2 z1 z2 (by omega) fun l W12 hE12 h12=>h12.out fun s13 b14 s15 s16 b17 s18 h12=>?_⟩⟩
 have hE:=(hE2.trans hE7).trans hE12
 refine Ak9 (h1.ext hE) (h2'.ext hE) hx.1 hy.2 hk hk fun s3 b4 s5 W20 hE20 g1=>⟨s3,b4,s5,rfl,Ak9 (h1'.ext (hE.trans hE20)) (h2.ext (hE.trans hE20)) hx.2 hy.1 hk hk fun s8 b9 s10 W25 hE25 g2=>⟨s8,b9,s10,rfl,Ap8 (g1.ext hE25) g2 z3 z4 (by omega) fun l W30 hE30 h30=>h30.out fun s31 b32 s33 s34 b35 s36 h30=>?_⟩⟩
 exact Cn9 (h12.ext ((hE20.trans hE25).trans hE30)) h30 (zm z1 z2) (zm z3 z4) (by omega) fun l W38 hE38 h38=>h38.out fun s39 b40 s41 s42 b43 s44 h38 W45 hE45=>⟨_,rfl,h38.ext hE45⟩
theorem Cx4 {W0 W:PW} {M:Nat→Prop} {l1 l2:List Value} {x y:Iv} {k:Nat} {K:Value→PW→Prop} (h1:SpV 141 W l1 x) (h2:SpV 141 W l2 y) (hx:IvS k x) (hy:IvS k y) (hk:k≤8589934592) (kont: ∀(l:List Value) (W':PW),Ext W W'→(SpV 141 W' l (Ay9 x y))→K (.agg ⟨l⟩) W'):
  Aa1 Tryz.prog W0 M 45 [.agg ⟨l1⟩,.agg ⟨l2⟩] W K:=
 Aa2 (fun W' hE=>Dy9 (M:=fun _=>False) (h1.ext hE) (h2.ext hE) hx hy hk) (fun W' v W'' hE hE' hP=>by
  obtain⟨l,rfl,h⟩:=hP
  exact kont l W'' (hE.trans hE') h)
theorem Hv0 {W0:PW} {M:Nat→Prop} {l1:List Value} {s t:Sl} {b:Bool} {x:Iv} {r:Rat} {k:Nat} (h1:SpV 141 W0 l1 x) (h2:Ab3 141 W0 s b t r) (hx:IvS k x) (hr:Sz k r) (hk:k≤8589934592):
  Aa0 Tryz.prog 43 [.agg ⟨l1⟩,.agg ⟨[s.v,.bool b,t.v]⟩] W0 M fun v W'=>∃(l:List Value),v = .agg ⟨l⟩∧SpV 141 W' l (De8 x r):=by
 obtain⟨s0,b0,t0,s1,b1,t1,rfl,h1,h1'⟩:=h1
 apply Hu3
 exact Ak9 h1 h2 hx.1 hr hk hk fun s3 b4 s5 W2 hE2 g1=>⟨s3,b4,s5,rfl,Ak9 (h1'.ext hE2) (h2.ext hE2) hx.2 hr hk hk fun s8 b9 s10 W7 hE7 g2=>⟨s8,b9,s10,rfl,Ap8 (g1.ext hE7) g2 (hx.1.mul hr) (hx.2.mul hr) (by omega) fun l W12 hE12 h12=>h12.out fun s13 b14 s15 s16 b17 s18 h12 W19 hE19=>⟨_,rfl,h12.ext hE19⟩⟩⟩
theorem Hu2 {W0 W:PW} {M:Nat→Prop} {l1:List Value} {s t:Sl} {b:Bool} {x:Iv} {r:Rat} {k:Nat} {K:Value→PW→Prop} (h1:SpV 141 W l1 x) (h2:Ab3 141 W s b t r) (hx:IvS k x) (hr:Sz k r) (hk:k≤8589934592) (kont: ∀(l:List Value) (W':PW),Ext W W'→(SpV 141 W' l (De8 x r))→K (.agg ⟨l⟩) W'):
  Aa1 Tryz.prog W0 M 43 [.agg ⟨l1⟩,.agg ⟨[s.v,.bool b,t.v]⟩] W K:=
 Aa2 (fun W' hE=>Hv0 (M:=fun _=>False) (h1.ext hE) (h2.ext hE) hx hr hk) (fun W' v W'' hE hE' hP=>by
  obtain⟨l,rfl,h⟩:=hP
  exact kont l W'' (hE.trans hE') h)
theorem Ep4 {W0:PW} {M:Nat→Prop} {s t:Sl} {b:Bool} {r:Rat} (h:Ab3 141 W0 s b t r):
  Aa0 Tryz.prog 119 [.agg ⟨[s.v,.bool b,t.v]⟩] W0 M fun v W'=>∃(l:List Value),v = .agg ⟨l⟩∧SpV 141 W' l (Eb6 r):=by
 apply Dk8
 exact fun W1 hE=>⟨_,rfl,SpV.mk (x:=Eb6 r) (h.ext hE) (h.ext hE)⟩
theorem De4 {W0 W:PW} {M:Nat→Prop} {s t:Sl} {b:Bool} {r:Rat} {K:Value→PW→Prop} (h:Ab3 141 W s b t r) (kont: ∀(l:List Value) (W':PW),Ext W W'→(SpV 141 W' l (Eb6 r))→K (.agg ⟨l⟩) W'):
  Aa1 Tryz.prog W0 M 119 [.agg ⟨[s.v,.bool b,t.v]⟩] W K:=
 Aa2 (fun W' hE=>Ep4 (M:=fun _=>False) (h.ext hE)) (fun W' v W'' hE hE' hP=>by
  obtain⟨l,rfl,h⟩:=hP
  exact kont l W'' (hE.trans hE') h)
theorem Dt0 {W0:PW} {M:Nat→Prop} {l1:List Value} {s t:Sl} {b:Bool} {x:Iv} {r:Rat} {k:Nat} (h1:SpV 141 W0 l1 x) (h2:Ab3 141 W0 s b t r) (hx:IvS k x) (hr:Sz k r) (hk:k≤8589934592):
  Aa0 Tryz.prog 150 [.agg ⟨l1⟩,.agg ⟨[s.v,.bool b,t.v]⟩] W0 M fun v W'=>v = .bool (decide (x.1≤r∧r≤x.2))∧True:=by
 obtain⟨s0,b0,t0,s1,b1,t1,rfl,h1,h1'⟩:=h1
 apply Cu8
 refine Aj2 h1 h2 hx.1 hr (by omega) (by omega) fun W2 hE2 _=>⟨_,rfl,fun h=>Aj2 (h2.ext hE2) (h1'.ext hE2) hr hx.2 (by omega) (by omega) fun W5 hE5 _=>⟨_,rfl,fun W7 hE7=>⟨?_,trivial⟩⟩,fun h W8 hE8=>⟨?_,trivial⟩⟩
 ·have h:=Dn3.1 h
  congr 1
  rw[decide_eq_decide,Dn3]
  exact⟨fun e=>⟨h,e⟩,fun e=>e.2⟩
 ·rw[decide_eq_false fun e=>h (Dn3.2 e.1)]
theorem Cs8 {W0 W:PW} {M:Nat→Prop} {l1:List Value} {s t:Sl} {b:Bool} {x:Iv} {r:Rat} {k:Nat} {K:Value→PW→Prop} (h1:SpV 141 W l1 x) (h2:Ab3 141 W s b t r) (hx:IvS k x) (hr:Sz k r) (hk:k≤8589934592) (kont: ∀(W':PW),Ext W W'→(True)→K (.bool (decide (x.1≤r∧r≤x.2))) W'):
  Aa1 Tryz.prog W0 M 150 [.agg ⟨l1⟩,.agg ⟨[s.v,.bool b,t.v]⟩] W K:=
 Aa2 (fun W' hE=>Dt0 (M:=fun _=>False) (h1.ext hE) (h2.ext hE) hx hr hk) (fun W' v W'' hE hE' hP=>by
  obtain⟨rfl,h⟩:=hP
  exact kont W'' (hE.trans hE') h)
theorem Du0 {W0:PW} {M:Nat→Prop} {l1:List Value} {x:Iv} {n k:Nat} (h1:SpV 141 W0 l1 x) (hx:IvS k x) (hk:k≤1048576) (hn:n≤255):
  Aa0 Tryz.prog 120 [.agg ⟨l1⟩,.int .i64 (n:Int)] W0 M fun v W'=>∃(l:List Value),v = .agg ⟨l⟩∧SpV 141 W' l (Ai3 x n):=by
 obtain⟨s0,b0,t0,s1,b1,t1,rfl,h1,h1'⟩:=h1
 apply Cz8
 have hm:=Nat.mul_le_mul hk hn
 have hmn:mn (mx (n:Int) 0) 255=(n:Int):=by unfold mn mx;(repeat' split)<;>omega
 unfold Da1
 rw[hmn]
 refine Bq4 h1 hx.1 hk hn fun s3 b4 s5 W2 hE2 g1=>⟨s3,b4,s5,rfl,Bq4 (h1'.ext hE2) hx.2 hk hn fun s8 b9 s10 W7 hE7 g2=>⟨s8,b9,s10,rfl,Ap8 (g1.ext hE7) g2 (Sz.Fe7 hx.1 n) (Sz.Fe7 hx.2 n) (by omega) fun l W12 hE12 h12=>h12.out fun s13 b14 s15 s16 b17 s18 h12=>⟨fun hpos=>⟨by omega,fun hev=>?_,fun hod W24 hE24=>⟨_,rfl,?_⟩⟩,fun h0 W25 hE25=>⟨_,rfl,?_⟩⟩⟩⟩
 ·have hev':n%2=0:=by have:=Int.tmod_eq_emod_of_nonneg (a:=(n:Int)) (b:=2) (by omega);omega
  have hE:=(hE2.trans hE7).trans hE12
  refine Cs8 (s:=⟨none,0,0⟩) (b:=false) (t:=⟨none,0,0⟩) (k:=k+1) (SpV.mk (h1.ext hE) (h1'.ext hE)) (Ar9 W12) ⟨hx.1.mono (by omega),hx.2.mono (by omega)⟩ (Sz.zero (by omega)) (by omega) fun W20 hE20 _=>⟨_,rfl,fun hb W22 hE22=>⟨_,rfl,?_⟩,fun hb W23 hE23=>⟨_,rfl,?_⟩⟩
  ·have hb:=of_decide_eq_true hb
   rw[Ai3,if_pos ⟨by omega,hev',hb⟩]
   obtain⟨_,_,_,_,_,_,e,k1,k2⟩:=h12.ext (hE20.trans hE22)
   simp only[List.cons.injEq,Value.bool.injEq,and_true] at e
   obtain⟨e1,e2,e3,e4,e5,e6⟩:=e
   have e4:=Sl.Ck0 e4
   have e6:=Sl.Ck0 e6
   subst e4 e5 e6
   exact⟨⟨none,0,0⟩,false,⟨none,0,0⟩,_,_,_,rfl,Ar9 _,k2⟩
  ·have hb:=of_decide_eq_false hb
   rw[Ai3,if_neg fun e=>hb e.2.2]
   exact h12.ext (hE20.trans hE23)
 ·rw[Ai3,if_neg]
  ·exact h12.ext hE24
  ·intro e
   apply hod
   have:=Int.tmod_eq_emod_of_nonneg (a:=(n:Int)) (b:=2) (by omega)
   have:=e.2.1
   omega
 ·rw[Ai3,if_neg fun e=>h0 (by have:=e.1;omega)]
  exact h12.ext hE25
theorem Co8 {W0 W:PW} {M:Nat→Prop} {l1:List Value} {x:Iv} {n k:Nat} {K:Value→PW→Prop} (h1:SpV 141 W l1 x) (hx:IvS k x) (hk:k≤1048576) (hn:n≤255) (kont: ∀(l:List Value) (W':PW),Ext W W'→(SpV 141 W' l (Ai3 x n))→K (.agg ⟨l⟩) W'):
  Aa1 Tryz.prog W0 M 120 [.agg ⟨l1⟩,.int .i64 (n:Int)] W K:=
 Aa2 (fun W' hE=>Du0 (M:=fun _=>False) (h1.ext hE) hx hk hn) (fun W' v W'' hE hE' hP=>by
  obtain⟨l,rfl,h⟩:=hP
  exact kont l W'' (hE.trans hE') h)
theorem Dt4 {W0:PW} {M:Nat→Prop} {s t s' t':Sl} {b b':Bool} {p q:Rat} {k:Nat} (h1:Ab3 141 W0 s b t p) (h2:Ab3 141 W0 s' b' t' q) (hp:Sz k p) (hq:Sz k q) (hk:k≤34359738368):
  Aa0 Tryz.prog 125 [.agg ⟨[s.v,.bool b,t.v]⟩,.agg ⟨[s'.v,.bool b',t'.v]⟩] W0 M fun v W'=>∃(l:List Value),v = .tuple ⟨[.agg ⟨l⟩,.bool (decide (p≤q))]⟩∧SpV 141 W' l (if p≤q then(p,q) else(0,0)):=by
 apply Ct1
 refine Aj2 h1 h2 hp hq hk hk fun W2 hE2 _=>⟨_,rfl,fun h W4 hE4=>?_,fun h W5 hE5=>?_⟩
 ·have h:=Al3.1 h
  have h':¬p≤q:=Rat.not_le.2 h
  rw[if_neg h',decide_eq_false h']
  exact⟨_,rfl,SpV.zero W4⟩
 ·have h':p≤q:=Rat.not_lt.1 fun e=>h (Al3.2 e)
  rw[if_pos h',decide_eq_true h']
  exact⟨_,rfl,SpV.mk (x:=(p,q)) (h1.ext (hE2.trans hE5)) (h2.ext (hE2.trans hE5))⟩
theorem Cq7 {W0 W:PW} {M:Nat→Prop} {s t s' t':Sl} {b b':Bool} {p q:Rat} {k:Nat} {K:Value→PW→Prop} (h1:Ab3 141 W s b t p) (h2:Ab3 141 W s' b' t' q) (hp:Sz k p) (hq:Sz k q) (hk:k≤34359738368) (kont: ∀(l:List Value) (W':PW),Ext W W'→(SpV 141 W' l (if p≤q then(p,q) else(0,0)))→K (.tuple ⟨[.agg ⟨l⟩,.bool (decide (p≤q))]⟩) W'):
  Aa1 Tryz.prog W0 M 125 [.agg ⟨[s.v,.bool b,t.v]⟩,.agg ⟨[s'.v,.bool b',t'.v]⟩] W K:=
 Aa2 (fun W' hE=>Dt4 (M:=fun _=>False) (h1.ext hE) (h2.ext hE) hp hq hk) (fun W' v W'' hE hE' hP=>by
  obtain⟨l,rfl,h⟩:=hP
  exact kont l W'' (hE.trans hE') h)
end Go.Proofs.YtahohahjnhfedaaGreatDoor
/- The reference's intervals; cincturelaw5.Is, Of; span.Parse. -/
namespace Go.Proofs.YtahohahjnhfedaaGreatDoor
open Go Go.SX
end Go.Proofs.YtahohahjnhfedaaGreatDoor
/- bound.Over, cinctureref1.Over. -/
namespace Go.Proofs.YtahohahjnhfedaaGreatDoor
open Go Go.SX
theorem Dq6 {m:Mon} (h:m.ok) (k:Nat):An6 m k=((mex m k:Nat):Int):=by
 unfold Mon.ok at h
 unfold An6 mex
 (repeat' split)<;>omega
def ovO (W0:PW) (p:List Tm) (b:Nat→Iv) (L:List PL) (W:PW):Prop:=match L with
 | [.val (.int .i64 i),.cells l]=>∃j:Nat,i=(j:Int)∧j≤p.length∧Ext W0 W∧SpV 141 W l (Aq8 b (p.take j))
 | _=>False
def ovI (W0:PW) (t:Tm) (b:Nat→Iv) (L:List PL) (W:PW):Prop:=match L with
 | [.val (.int .i64 i),.cells l]=>∃j:Nat,i=(j:Int)∧j≤3∧Ext W0 W∧SpV 141 W l (Ci9 b t j)
 | _=>False
theorem Fl7 {b:Nat→Iv} {p:List Tm} {k m e:Nat} (hp:Bd k p) (hm: ∀i,BdI m (b i)) (he: ∀t∈p,∀i,mex t.1 i≤e) (he2:e≤255) (hm2:m≤1000) (hk:k≤200000000):
  (∀j,IvS 210000000 (Aq8 b (p.take j)))∧(∀t∈p,∀j,j≤3→IvS 210000000 (Ci9 b t j))∧(∀t∈p,∀j,IvS 210000000 (Ai3 (b j) (mex t.1 j)))∧∀j,IvS 1048576 (b j):=by
 have hme:=Nat.mul_le_mul (show m+1≤1001 by omega) he2
 have hme':=Nat.mul_le_mul hm2 he2
 refine⟨fun j=>((Cv6 (hp.take j) hm fun t ht=>he t (List.mem_of_mem_take ht)).mono (by omega)).sz,fun t ht j hj=>((Ef7 (hp.sz t ht) hm (he t ht) j).mono ?_).sz,fun t ht j=>(((hm j).pow (mex t.1 j)).mono ?_).sz,fun j=>((hm j).mono (by omega)).sz⟩
 ·have:=Nat.mul_le_mul hj (show m*e+1≤1000*255+1 by omega)
  omega
 ·have:=Nat.mul_le_mul hm2 (Nat.le_trans (he t ht j) he2)
  omega
theorem Cz2 {W0:PW} {M:Nat→Prop} {s:Sl} {l:List Value} {p:List Tm} {b:Nat→Iv} {k m e:Nat} (h:Ab0 141 127 W0 s p) (hb:DmV 141 W0 l b) (hp:Bd k p) (hm: ∀i,BdI m (b i)) (he: ∀t∈p,∀i,mex t.1 i≤e) (he2:e≤255) (hm2:m≤1000) (hk:k≤200000000) (hl:p.length≤1073741824):
  Aa0 Tryz.prog 83 [.agg ⟨[s.v]⟩,.agg ⟨l⟩] W0 M fun v W'=>∃(r:List Value),v = .agg ⟨r⟩∧SpV 141 W' r (Aq8 b p):=by
 obtain⟨z1,z2,z3,z4⟩:=Fl7 hp hm he he2 hm2 hk
 have hb0:=hb
 obtain⟨s0,b0,t0,s1,b1,t1,s2,b2,t2,s3,b3,t3,s4,b4,t4,s5,b5,t5,rfl,_⟩:=hb
 apply Bz6
 obtain⟨xs,hr,ha⟩:=h
 have hxl:=ha.len
 refine Ba1 hr (by omega) fun s3 W2 hE2 ⟨_,hO⟩=>⟨s3,rfl,?_⟩
 have h3:Ab0 141 127 W2 s3 p:=⟨xs,hO.row,ha.mono fun _ _ e=>e.ext hE2⟩
 have hn:=h3.n
 refine⟨ovO W2 p b,cn1 p.length,⟨0,rfl,Nat.zero_le _,Ext.refl _,SpV.zero W2⟩,?_⟩
 rintro s6 b7 s8 s9 b10 s11 i12 W13 ⟨j,rfl,hj,hE13,hS⟩
 refine⟨fun hlt=>?_,fun hge W69 hE69=>⟨_,rfl,?_⟩⟩
 ·have hjl:j<p.length:=by omega
  have hP:=h3.ext hE13
  have hmem:=List.getElem_mem hjl
  obtain⟨h0,c1,d1,c2,e1,_,_,hq⟩:=hP.at (List.getElem?_eq_getElem hjl)
  refine⟨hP.inB (by omega) (by omega),_,_,_,c1,d1,c2,e1,De4 hq fun r W21 hE21 h21=>h21.out fun s22 b23 s24 s25 b26 s27 h21=>?_⟩
  refine⟨ovI W21 p[j] b,cn1 3,⟨0,rfl,Nat.zero_le _,Ext.refl _,h21⟩,?_⟩
  rintro s30 b31 s32 s33 b34 s35 i36 W37 ⟨v,rfl,hv,hE37,hT⟩
  refine⟨fun hlt3=>?_,fun hge3=>?_⟩
  ·have hv3:v<3:=by omega
   have hbW:=(hb0.ext (hE2.trans (hE13.trans (hE21.trans hE37))))
   obtain⟨x1,y1,x2,x3,y2,x4,hbx,hsp⟩:=hbW.box hv3
   have hmx:=he _ hmem v
   refine⟨⟨by omega,by omega⟩,_,Cn5 p[j].1 hv3,?_⟩
   rw[Dq6 h0 v]
   refine⟨fun hpos=>⟨⟨by omega,by omega⟩,x1,y1,x2,x3,y2,x4,hbx,by unfold I64;omega,?_⟩,fun hno=>⟨by unfold I64;omega,⟨v+1,by push_cast;rfl,by omega,hE37,?_⟩,?_⟩⟩
   ·refine Co8 hsp (z4 v) (by omega) (by omega) fun r W46 hE46 h46=>h46.out fun s47 b48 s49 s50 b51 s52 h46=>?_
    refine Cx4 (hT.ext hE46) h46 (z2 _ hmem v hv) (z3 _ hmem v) (by omega) fun r W54 hE54 h54=>h54.out fun s55 b56 s57 s58 b59 s60 h54=>⟨by unfold I64;omega,⟨v+1,by push_cast;rfl,by omega,hE37.trans (hE46.trans hE54),?_⟩,?_⟩
    ·rw[Ci9,if_pos (by omega)]
     exact h54
    ·show 3-Int.toNat ((v:Int)+1)<3-Int.toNat (v:Int)
     omega
   ·rw[Ci9,if_neg (by omega)]
    exact hT
   ·show 3-Int.toNat ((v:Int)+1)<3-Int.toNat (v:Int)
    omega
  ·have:v=3:=by omega
   subst this
   refine Cy0 (hS.ext (hE21.trans hE37)) hT (z1 j) (z2 _ hmem 3 (Nat.le_refl _)) (by omega) fun r W62 hE62 h62=>h62.out fun s63 b64 s65 s66 b67 s68 h62=>⟨by unfold I64;omega,⟨j+1,by push_cast;rfl,by omega,hE13.trans (hE21.trans (hE37.trans hE62)),?_⟩,?_⟩
   ·rw[List.take_succ_eq_append_getElem hjl,Bt2]
    exact h62
   ·show p.length-Int.toNat ((j:Int)+1)<p.length-Int.toNat (j:Int)
    omega
 ·have:j=p.length:=by omega
  subst this
  rw[List.take_length] at hS
  exact hS.ext hE69
theorem Az5 {W0 W:PW} {M:Nat→Prop} {s:Sl} {l:List Value} {p:List Tm} {b:Nat→Iv} {k m e:Nat} {K:Value→PW→Prop} (h:Ab0 141 127 W s p) (hb:DmV 141 W l b) (hp:Bd k p) (hm: ∀i,BdI m (b i)) (he: ∀t∈p,∀i,mex t.1 i≤e) (he2:e≤255) (hm2:m≤1000) (hk:k≤200000000) (hl:p.length≤1073741824) (kont: ∀(r:List Value) (W':PW),Ext W W'→(SpV 141 W' r (Aq8 b p))→K (.agg ⟨r⟩) W'):
  Aa1 Tryz.prog W0 M 83 [.agg ⟨[s.v]⟩,.agg ⟨l⟩] W K:=
 Aa2 (fun W' hE=>Cz2 (M:=fun _=>False) (h.ext hE) (hb.ext hE) hp hm he he2 hm2 hk hl) (fun W' v W'' hE hE' hP=>by
  obtain⟨r,rfl,h⟩:=hP
  exact kont r W'' (hE.trans hE') h)
end Go.Proofs.YtahohahjnhfedaaGreatDoor
/- poly.Compose, cinctureref1.Compose. -/
namespace Go.Proofs.YtahohahjnhfedaaGreatDoor
open Go Go.SX
def cst (r:Rat):List Tm:=Ag2 [(⟨0,0,0⟩,r)]
end Go.Proofs.YtahohahjnhfedaaGreatDoor
