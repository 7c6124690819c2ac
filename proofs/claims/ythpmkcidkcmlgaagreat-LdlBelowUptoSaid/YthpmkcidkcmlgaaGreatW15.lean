/- mat.Same; ldl.symmetric, ldl.left. -/
import Derived.Test.YthpmkcidkcmlgaaGreatW14
import Derived.Test.YthpmkcidkcmlgaaGreatLib4
import Derived.Test.YthpmkcidkcmlgaaGreatR15
set_option linter.unusedVariables false
set_option linter.unusedSimpArgs false
set_option maxRecDepth 100000
set_option linter.unusedVariables false
set_option linter.unusedSimpArgs false
namespace Go.Proofs.YthpmkcidkcmlgaaGreat
open Go Go.SX
theorem sameRat_ok {W0:PW} {M:Nat→Prop} {s t s' t':Sl} {b b':Bool} {p q:Rat} {k:Nat} (h1:IsRat 317 W0 s b t p) (h2:IsRat 317 W0 s' b' t' q) (hp:Sz k p) (hq:Sz k q) (hk:k≤34359738368):
  PCallsM Go.Proofs.Tryz.prog 105 [.agg #[s.v,.bool b,t.v],.agg #[s'.v,.bool b',t'.v]] W0 M fun v W'=>∃(e:Bool),v = .bool e∧(e=true↔p=q):=by
 apply callmat_Same_1_1
 refine ratCmp_call h1 h2 hp hq hk hk fun W2 hE2 _=>⟨_,rfl,fun W4 hE4=>⟨_,rfl,?_⟩⟩
 rw[decide_eq_true_iff]
 exact cmpQ_zero p q
theorem sameRat_call {W0 W:PW} {M:Nat→Prop} {s t s' t':Sl} {b b':Bool} {p q:Rat} {k:Nat} {K:Value→PW→Prop} (h1:IsRat 317 W s b t p) (h2:IsRat 317 W s' b' t' q) (hp:Sz k p) (hq:Sz k q) (hk:k≤34359738368) (kont: ∀(e:Bool) (W':PW),Ext W W'→((e=true↔p=q))→K (.bool e) W'):
  callN Go.Proofs.Tryz.prog W0 M 105 [.agg #[s.v,.bool b,t.v],.agg #[s'.v,.bool b',t'.v]] W K:=
 callN_of (fun W' hE=>sameRat_ok (M:=fun _=>False) (h1.ext hE) (h2.ext hE) hp hq hk) (fun W' v W'' hE hE' hP=>by
  obtain⟨e,rfl,h⟩:=hP
  exact kont e W'' (hE.trans hE') h)
theorem eqRats_ok {W0:PW} {M:Nat→Prop} {s t:Sl} {n n' k:Nat} {f g:Nat→Rat} (h1:IsQs 317 51 W0 s n f) (h2:IsQs 317 51 W0 t n' g) (hn:n≤1099511627776) (hf: ∀i,i<n→Sz k (f i)) (hg: ∀i,i<n'→Sz k (g i)) (hk:k≤34359738368):
  PCallsM Go.Proofs.Tryz.prog 104 [s.v,t.v,.func (.func 105) #[] #[]] W0 M fun v W'=>∃(e:Bool),v = .bool e∧(e=true↔n=n'∧∀i,i<n→f i=g i):=by
 apply callslices_EqualFunc_rat_Rat_rat_Rat_rat_Rat_rat_Rat
 have n1:=h1.n
 have n2:=h2.n
 refine⟨fun hne W1 _=>⟨false,rfl,fun h=>(by cases h),fun h=>?_⟩,fun heq=>?_⟩
 ·have:=h.1
  omega
 have hnn:n=n':=by omega
 subst hnn
 refine⟨fun l W=>match l with | [.val (.int .i64 i)]=>Ext W0 W∧∃k:Nat,i=(k:Int)∧k≤n∧∀i,i<k→f i=g i | _=>False,fun l _=>match l with | [.val (.int .i64 i)]=>n-i.toNat | _=>0,⟨Ext.refl _,0,rfl,Nat.zero_le _,fun i h=>(by omega)⟩,?_⟩
 rintro i4 W5 ⟨hE5,j,rfl,hj,hfg⟩
 have a5:=h1.ext hE5
 have b5:=h2.ext hE5
 refine⟨fun hlt=>?_,fun hge W16 _=>⟨true,rfl,fun _=>⟨rfl,fun i hi=>hfg i (by omega)⟩,fun _=>rfl⟩⟩
 obtain⟨s6,b7,s8,e1,e2⟩:=a5.at (i:=j) (by omega)
 obtain⟨s9,b10,s11,f1,f2⟩:=b5.at (i:=j) (by omega)
 refine⟨a5.inB (by omega) (by omega),s6,b7,s8,e1,b5.inB (by omega) (by omega),s9,b10,s11,f1,?_⟩
 refine sameRat_call e2 f2 (hf j (by omega)) (hg j (by omega)) hk fun b14 W13 hE13 hb=>⟨b14,rfl,fun hne W15 _=>⟨false,rfl,fun h=>(by cases h),fun h=>?_⟩,fun heq=>⟨by unfold I64;omega,⟨hE5.trans hE13,j+1,by push_cast;rfl,by omega,fun i hi=>?_⟩,?_⟩⟩
 ·rw[hb.2 (h.2 j (by omega))] at hne
  cases hne
 ·by_cases e:i=j
  ·subst e
   exact hb.1 (by simpa using heq)
  ·exact hfg i (by omega)
 ·show n-Int.toNat ((j:Int)+1)<n-Int.toNat (j:Int)
  omega
theorem eqRats_call {W0 W:PW} {M:Nat→Prop} {s t:Sl} {n n' k:Nat} {f g:Nat→Rat} {K:Value→PW→Prop} (h1:IsQs 317 51 W s n f) (h2:IsQs 317 51 W t n' g) (hn:n≤1099511627776) (hf: ∀i,i<n→Sz k (f i)) (hg: ∀i,i<n'→Sz k (g i)) (hk:k≤34359738368) (kont: ∀(e:Bool) (W':PW),Ext W W'→((e=true↔n=n'∧∀i,i<n→f i=g i))→K (.bool e) W'):
  callN Go.Proofs.Tryz.prog W0 M 104 [s.v,t.v,.func (.func 105) #[] #[]] W K:=
 callN_of (fun W' hE=>eqRats_ok (M:=fun _=>False) (h1.ext hE) (h2.ext hE) hn hf hg hk) (fun W' v W'' hE hE' hP=>by
  obtain⟨e,rfl,h⟩:=hP
  exact kont e W'' (hE.trans hE') h)
theorem sameRow_ok {W0:PW} {M:Nat→Prop} {s t:Sl} {n n' k:Nat} {f g:Nat→Rat} (h1:IsQs 317 51 W0 s n f) (h2:IsQs 317 51 W0 t n' g) (hn:n≤1099511627776) (hf: ∀i,i<n→Sz k (f i)) (hg: ∀i,i<n'→Sz k (g i)) (hk:k≤34359738368):
  PCallsM Go.Proofs.Tryz.prog 103 [s.v,t.v] W0 M fun v W'=>∃(e:Bool),v = .bool e∧(e=true↔n=n'∧∀i,i<n→f i=g i):=by
 apply callmat_Same_1
 exact eqRats_call h1 h2 hn hf hg hk fun b W2 hE2 hb=>⟨b,rfl,fun W4 hE4=>⟨b,rfl,hb⟩⟩
theorem sameRow_call {W0 W:PW} {M:Nat→Prop} {s t:Sl} {n n' k:Nat} {f g:Nat→Rat} {K:Value→PW→Prop} (h1:IsQs 317 51 W s n f) (h2:IsQs 317 51 W t n' g) (hn:n≤1099511627776) (hf: ∀i,i<n→Sz k (f i)) (hg: ∀i,i<n'→Sz k (g i)) (hk:k≤34359738368) (kont: ∀(e:Bool) (W':PW),Ext W W'→((e=true↔n=n'∧∀i,i<n→f i=g i))→K (.bool e) W'):
  callN Go.Proofs.Tryz.prog W0 M 103 [s.v,t.v] W K:=
 callN_of (fun W' hE=>sameRow_ok (M:=fun _=>False) (h1.ext hE) (h2.ext hE) hn hf hg hk) (fun W' v W'' hE hE' hP=>by
  obtain⟨e,rfl,h⟩:=hP
  exact kont e W'' (hE.trans hE') h)
def SameP (r r':Nat) (c c':Nat→Nat) (m m':Nat→Nat→Rat):Prop:=r=r'∧∀i,i<r→c i=c' i∧∀j,j<c i→m i j=m' i j
theorem eqRows_ok {W0:PW} {M:Nat→Prop} {s t:Sl} {r r' k:Nat} {c c':Nat→Nat} {m m':Nat→Nat→Rat} (h1:IsMat 317 51 100 W0 s r c m) (h2:IsMat 317 51 100 W0 t r' c' m') (hr:r≤1099511627776) (hc: ∀i,i<r→c i≤1099511627776) (hf: ∀i j,i<r→j<c i→Sz k (m i j)) (hg: ∀i j,i<r'→j<c' i→Sz k (m' i j)) (hk:k≤34359738368):
  PCallsM Go.Proofs.Tryz.prog 102 [s.v,t.v,.func (.func 103) #[] #[]] W0 M fun v W'=>∃(e:Bool),v = .bool e∧(e=true↔SameP r r' c c' m m'):=by
 apply callslices_EqualFunc_mat_Mat_mat_Mat_rat_Rat_rat_Rat
 have n1:=h1.n
 have n2:=h2.n
 refine⟨fun hne W1 _=>⟨false,rfl,fun h=>(by cases h),fun h=>?_⟩,fun heq=>?_⟩
 ·have:=h.1
  omega
 have hnn:r=r':=by omega
 subst hnn
 refine⟨fun l W=>match l with | [.val (.int .i64 i)]=>Ext W0 W∧∃k:Nat,i=(k:Int)∧k≤r∧∀i,i<k→c i=c' i∧∀j,j<c i→m i j=m' i j | _=>False,fun l _=>match l with | [.val (.int .i64 i)]=>r-i.toNat | _=>0,⟨Ext.refl _,0,rfl,Nat.zero_le _,fun i h=>(by omega)⟩,?_⟩
 rintro i4 W5 ⟨hE5,j,rfl,hj,hfg⟩
 have a5:=h1.ext hE5
 have b5:=h2.ext hE5
 refine⟨fun hlt=>?_,fun hge W16 _=>⟨true,rfl,fun _=>⟨rfl,fun i hi=>hfg i (by omega)⟩,fun _=>rfl⟩⟩
 obtain⟨x,e1,e2⟩:=a5.at (i:=j) (by omega)
 obtain⟨y,f1,f2⟩:=b5.at (i:=j) (by omega)
 refine⟨a5.inB (by omega) (by omega),x,e1,b5.inB (by omega) (by omega),y,f1,?_⟩
 refine sameRow_call e2 f2 (hc j (by omega)) (fun i hi=>hf j i (by omega) hi) (fun i hi=>hg j i (by omega) hi) hk fun b14 W13 hE13 hb=>⟨b14,rfl,fun hne W15 _=>⟨false,rfl,fun h=>(by cases h),fun h=>?_⟩,fun heq=>⟨by unfold I64;omega,⟨hE5.trans hE13,j+1,by push_cast;rfl,by omega,fun i hi=>?_⟩,?_⟩⟩
 ·rw[hb.2 (h.2 j (by omega))] at hne
  cases hne
 ·by_cases e:i=j
  ·subst e
   exact hb.1 (by simpa using heq)
  ·exact hfg i (by omega)
 ·show r-Int.toNat ((j:Int)+1)<r-Int.toNat (j:Int)
  omega
theorem eqRows_call {W0 W:PW} {M:Nat→Prop} {s t:Sl} {r r' k:Nat} {c c':Nat→Nat} {m m':Nat→Nat→Rat} {K:Value→PW→Prop} (h1:IsMat 317 51 100 W s r c m) (h2:IsMat 317 51 100 W t r' c' m') (hr:r≤1099511627776) (hc: ∀i,i<r→c i≤1099511627776) (hf: ∀i j,i<r→j<c i→Sz k (m i j)) (hg: ∀i j,i<r'→j<c' i→Sz k (m' i j)) (hk:k≤34359738368) (kont: ∀(e:Bool) (W':PW),Ext W W'→((e=true↔SameP r r' c c' m m'))→K (.bool e) W'):
  callN Go.Proofs.Tryz.prog W0 M 102 [s.v,t.v,.func (.func 103) #[] #[]] W K:=
 callN_of (fun W' hE=>eqRows_ok (M:=fun _=>False) (h1.ext hE) (h2.ext hE) hr hc hf hg hk) (fun W' v W'' hE hE' hP=>by
  obtain⟨e,rfl,h⟩:=hP
  exact kont e W'' (hE.trans hE') h)
theorem matSame_ok {W0:PW} {M:Nat→Prop} {s t:Sl} {r r' k:Nat} {c c':Nat→Nat} {m m':Nat→Nat→Rat} (h1:IsMat 317 51 100 W0 s r c m) (h2:IsMat 317 51 100 W0 t r' c' m') (hr:r≤1099511627776) (hr':r'≤1099511627776) (hf: ∀i j,i<r→j<c i→Sz k (m i j)) (hg: ∀i j,i<r'→j<c' i→Sz k (m' i j)) (hk:k≤34359738368):
  PCallsM Go.Proofs.Tryz.prog 23 [s.v,t.v] W0 M fun v W'=>∃(e:Bool),v = .bool e∧(e=true↔RightP r c∧RightP r' c'∧SameP r r' c c' m m'):=by
 apply callmat_Same
 refine matRight_call h1 hr fun b W2 hE2 hb=>⟨b,rfl,fun ht=>?_,fun hf W16 _=>⟨false,rfl,fun h=>(by cases h),fun h=>?_⟩⟩
 ·have hR:=hb.1 ht
  refine matRight_call (h2.ext hE2) hr' fun b' W5 hE5 hb'=>⟨b',rfl,fun ht'=>?_,fun hf' W11 _=>⟨false,rfl,fun h=>(by cases h),fun h=>?_⟩⟩
  ·have hR':=hb'.1 ht'
   refine eqRows_call ((h1.ext hE2).ext hE5) ((h2.ext hE2).ext hE5) hr (fun i hi=>by have:=hR.1 i hi;have:=hR.2.2.2.2;omega) hf hg hk fun b9 W8 hE8 hb9=>⟨b9,rfl,fun W10 _=>⟨b9,rfl,?_⟩⟩
   rw[hb9]
   exact⟨fun h=>⟨hR,hR',h⟩,fun h=>h.2.2⟩
  ·rw[hb'.2 h.2.1] at hf'
   cases hf'
 ·rw[hb.2 h.1] at hf
  cases hf
theorem matSame_call {W0 W:PW} {M:Nat→Prop} {s t:Sl} {r r' k:Nat} {c c':Nat→Nat} {m m':Nat→Nat→Rat} {K:Value→PW→Prop} (h1:IsMat 317 51 100 W s r c m) (h2:IsMat 317 51 100 W t r' c' m') (hr:r≤1099511627776) (hr':r'≤1099511627776) (hf: ∀i j,i<r→j<c i→Sz k (m i j)) (hg: ∀i j,i<r'→j<c' i→Sz k (m' i j)) (hk:k≤34359738368) (kont: ∀(e:Bool) (W':PW),Ext W W'→((e=true↔RightP r c∧RightP r' c'∧SameP r r' c c' m m'))→K (.bool e) W'):
  callN Go.Proofs.Tryz.prog W0 M 23 [s.v,t.v] W K:=
 callN_of (fun W' hE=>matSame_ok (M:=fun _=>False) (h1.ext hE) (h2.ext hE) hr hr' hf hg hk) (fun W' v W'' hE hE' hP=>by
  obtain⟨e,rfl,h⟩:=hP
  exact kont e W'' (hE.trans hE') h)
def SymP (r:Nat) (c:Nat→Nat) (m:Nat→Nat→Rat):Prop:=RightP r c∧c 0=r∧∀i j,i<r→j<r→m i j=m j i
theorem ldlSym_ok {W0:PW} {M:Nat→Prop} {s:Sl} {r k:Nat} {c:Nat→Nat} {m:Nat→Nat→Rat} (h:IsMat 317 51 100 W0 s r c m) (hr:r≤1099511627776) (hf: ∀i j,i<r→j<c i→Sz k (m i j)) (hk:k≤34359738368):
  PCallsM Go.Proofs.Tryz.prog 120 [s.v] W0 M fun v W'=>∃(e:Bool),v = .bool e∧(e=true↔SymP r c m):=by
 apply callldl_symmetric
 have hnn:NewFrom W0.w.heap.size W0:=Nat.le_refl _
 refine matTurn_call hnn h hr fun s3 b W2 hE2 ⟨hb,hO⟩=>⟨s3,b,rfl,fun ht=>?_,fun hf W9 _=>⟨false,rfl,fun h=>(by cases h),fun h=>?_⟩⟩
 ·have hR:=hb.1 ht
  have hO:=hO hR
  have hR':=hR
  obtain⟨hc,hr1,hr12,hc1,hc12⟩:=hR'
  refine matSame_call (h.ext hE2) hO.mat hr (by omega) hf (fun i j hi hj=>hf j i hj (by have:=hc j hj;omega)) hk fun b7 W6 hE6 hb7=>⟨b7,rfl,fun W8 _=>⟨b7,rfl,?_⟩⟩
  rw[hb7]
  constructor
  ·rintro⟨_,_,h1,h2⟩
   refine⟨hR,h1.symm,fun i j hi hj=>(h2 i hi).2 j ?_⟩
   have:=hc i hi
   omega
  ·rintro⟨_,h1,h2⟩
   exact⟨hR,⟨fun i _=>rfl,by omega,by omega,by show 1≤r;omega,by show r≤12;omega⟩,h1.symm,fun i hi=>⟨by have:=hc i hi;show c i=r;omega,fun j hj=>h2 i j hi (by have:=hc i hi;omega)⟩⟩
 ·rw[hb.2 h.1] at hf
  cases hf
theorem ldlSym_call {W0 W:PW} {M:Nat→Prop} {s:Sl} {r k:Nat} {c:Nat→Nat} {m:Nat→Nat→Rat} {K:Value→PW→Prop} (h:IsMat 317 51 100 W s r c m) (hr:r≤1099511627776) (hf: ∀i j,i<r→j<c i→Sz k (m i j)) (hk:k≤34359738368) (kont: ∀(e:Bool) (W':PW),Ext W W'→((e=true↔SymP r c m))→K (.bool e) W'):
  callN Go.Proofs.Tryz.prog W0 M 120 [s.v] W K:=
 callN_of (fun W' hE=>ldlSym_ok (M:=fun _=>False) (h.ext hE) hr hf hk) (fun W' v W'' hE hE' hP=>by
  obtain⟨e,rfl,h⟩:=hP
  exact kont e W'' (hE.trans hE') h)
theorem left_sz {f:Nat→Rat} {x:Rat} {K σ:Nat} (hx:Sz σ x): ∀{j:Nat} (_: ∀t,t<j→Sz K (f t)),Sz (σ+j*(K+1)) (x-lsum f j)
 | 0,_=>by
  have:x-lsum f 0=x:=by simp only[lsum];grind
  rw[this]
  exact hx.mono (by omega)
 | j+1,h=>by
  have h1:=left_sz hx (j:=j) (fun t ht=>h t (by omega))
  have h2:=h1.sub (h j (by omega))
  have e:x-lsum f (j+1)=x-lsum f j-f j:=by simp only[lsum];grind
  rw[e]
  exact h2.mono (by rw[Nat.succ_mul];omega)
theorem ldlLeft_ok {W0:PW} {M:Nat→Prop} {s l d:Sl} {r r' n i k u σ:Nat} {c c':Nat→Nat} {m L:Nat→Nat→Rat} {D:Nat→Rat} (h1:IsMat 317 51 100 W0 s r c m) (h2:IsMat 317 51 100 W0 l r' c' L) (h3:IsQs 317 51 W0 d n D) (hir:i<r) (hkc:k<c i) (hir':i<r') (hkr':k<r') (hci:k≤c' i) (hck:k≤c' k) (hkn:k≤n) (hk12:k≤12) (hz:Sz σ (m i k)) (hL: ∀j,j<k→Sz u (L i j)∧Sz u (D j)∧Sz u (L k j)) (hσ:σ≤100000000) (hu:u≤100000000):
  PCallsM Go.Proofs.Tryz.prog 122 [s.v,l.v,d.v,.int .i64 (i:Int),.int .i64 (k:Int)] W0 M fun v W'=>∃(s':Sl),∃(b':Bool),∃(t':Sl),v = .agg #[Sl.v s',.bool b',Sl.v t']∧IsRat 317 W' s' b' t' (leftF m L D i k):=by
 apply callldl_left
 obtain⟨x,e1,e2⟩:=h1.at hir
 obtain⟨s2,b3,s4,f1,f2⟩:=e2.at hkc
 refine⟨h1.inB (by omega) (by omega),x,e1,e2.inB (by omega) (by omega),s2,b3,s4,f1,?_⟩
 refine⟨fun l W=>match l with | [.val (.int .i64 j),.cells [.slice A n c,.bool b,.slice A' n' c']]=>Ext W0 W∧∃q:Nat,j=(q:Int)∧q≤k∧IsRat 317 W ⟨A,n,c⟩ b ⟨A',n',c'⟩ (m i k-lsum (fun j=>L i j*D j*L k j) q) | _=>False,fun l _=>match l with | [.val (.int .i64 j),_]=>k-j.toNat | _=>0,⟨Ext.refl _,0,rfl,Nat.zero_le _,?_⟩,?_⟩
 ·have:m i k-lsum (fun j=>L i j*D j*L k j) 0=m i k:=by simp only[lsum];grind
  rw[this]
  exact f2
 rintro s7 b8 s9 i10 W11 ⟨hE11,q,rfl,hq,h7⟩
 have h7:IsRat 317 W11 s7 b8 s9 (m i k-lsum (fun j=>L i j*D j*L k j) q):=h7
 refine⟨fun hlt=>?_,fun hge W38 hE38=>⟨s7,b8,s9,rfl,?_⟩⟩
 ·have hqk:q<k:=by omega
  have l11:=h2.ext hE11
  have d11:=h3.ext hE11
  obtain⟨y,y1,y2⟩:=l11.at hir'
  obtain⟨s13,b14,s15,g1,g2⟩:=y2.at (i:=q) (by omega)
  obtain⟨s16,b17,s18,u1,u2⟩:=d11.at (i:=q) (by omega)
  obtain⟨z,z1,z2⟩:=l11.at hkr'
  obtain⟨s20,b21,s22,v1,v2⟩:=z2.at (i:=q) (by omega)
  obtain⟨a1,a2,a3⟩:=hL q hqk
  have hsz:Sz (σ+q*(u+u+u+1)) (m i k-lsum (fun j=>L i j*D j*L k j) q):=left_sz hz fun t ht=>((hL t (by omega)).1.mul (hL t (by omega)).2.1).mul (hL t (by omega)).2.2
  have hqb:q*(u+u+u+1)≤12*(u+u+u+1):=Nat.mul_le_mul_right _ (by omega)
  refine⟨l11.inB (by omega) (by omega),y,y1,y2.inB (by omega) (by omega),s13,b14,s15,g1,d11.inB (by omega) (by omega),s16,b17,s18,u1,l11.inB (by omega) (by omega),z,z1,z2.inB (by omega) (by omega),s20,b21,s22,v1,?_⟩
  refine ratMul_call g2 u2 a1 a2 (by omega) (by omega) fun s25 b26 s27 W24 hE24 h25=>⟨s25,b26,s27,rfl,hE24,?_⟩
  refine ratMul_call h25 (v2.ext hE24) (a1.mul a2) a3 (by omega) (by omega) fun s30 b31 s32 W29 hE29 h30=>⟨s30,b31,s32,rfl,hE29,?_⟩
  refine ratSub_call ((h7.ext hE24).ext hE29) h30 hsz ((a1.mul a2).mul a3) (by omega) (by omega) fun s35 b36 s37 W34 hE34 h35=>⟨s35,b36,s37,rfl,hE34,by unfold I64;omega,⟨((hE11.trans hE24).trans hE29).trans hE34,q+1,by push_cast;rfl,by omega,?_⟩,?_⟩
  ·have:m i k-lsum (fun j=>L i j*D j*L k j) (q+1)=m i k-lsum (fun j=>L i j*D j*L k j) q-L i q*D q*L k q:=by simp only[lsum];grind
   rw[this]
   exact h35
  ·show k-Int.toNat ((q:Int)+1)<k-Int.toNat (q:Int)
   omega
 ·have:q=k:=by omega
  subst this
  exact h7.ext hE38
theorem ldlLeft_call {W0 W:PW} {M:Nat→Prop} {s l d:Sl} {r r' n i k u σ:Nat} {c c':Nat→Nat} {m L:Nat→Nat→Rat} {D:Nat→Rat} {K:Value→PW→Prop} (h1:IsMat 317 51 100 W s r c m) (h2:IsMat 317 51 100 W l r' c' L) (h3:IsQs 317 51 W d n D) (hir:i<r) (hkc:k<c i) (hir':i<r') (hkr':k<r') (hci:k≤c' i) (hck:k≤c' k) (hkn:k≤n) (hk12:k≤12) (hz:Sz σ (m i k)) (hL: ∀j,j<k→Sz u (L i j)∧Sz u (D j)∧Sz u (L k j)) (hσ:σ≤100000000) (hu:u≤100000000) (kont: ∀(s':Sl) (b':Bool) (t':Sl) (W':PW),Ext W W'→(IsRat 317 W' s' b' t' (leftF m L D i k))→K (.agg #[Sl.v s',.bool b',Sl.v t']) W'):
  callN Go.Proofs.Tryz.prog W0 M 122 [s.v,l.v,d.v,.int .i64 (i:Int),.int .i64 (k:Int)] W K:=
 callN_of (fun W' hE=>ldlLeft_ok (M:=fun _=>False) (h1.ext hE) (h2.ext hE) (h3.ext hE) hir hkc hir' hkr' hci hck hkn hk12 hz hL hσ hu) (fun W' v W'' hE hE' hP=>by
  obtain⟨s',b',t',rfl,h⟩:=hP
  exact kont s' b' t' W'' (hE.trans hE') h)
end Go.Proofs.YthpmkcidkcmlgaaGreat

/- mat.Inverse and what it uses. -/
set_option maxRecDepth 100000
set_option linter.unusedVariables false
set_option linter.unusedSimpArgs false
namespace Go.Proofs.YthpmkcidkcmlgaaGreat
open Go Go.SX
abbrev OM (W:PW) (s:Sl) (ss:List Sl) (c:Nat) (m:Nat→Nat→Rat):Prop:=OwM 317 51 100 W s ss c m
def clearM (m:Nat→Nat→Rat) (j i:Nat):Nat→Nat→Rat:=fun a b=>if a=j∧i≤b then m j b-m j i/m i i*m i b else m a b
def clI (W0:PW) (s:Sl) (ss:List Sl) (c:Nat) (m:Nat→Nat→Rat) (N:Nat→Prop) (i j:Nat) (s1:Sl) (b:Bool) (s2:Sl) (L:List PL) (W:PW):Prop:=match L with
 | [.val (.int .i64 z)]=>∃p:Nat,z=(p:Int)∧i≤p∧p≤c∧ExtM N W0 W∧IsRat 317 W s1 b s2 (m j i/m i i)∧OM W s ss c (fun a b=>if a=j∧i≤b∧b<p then m j b-m j i/m i i*m i b else m a b)
 | _=>False
theorem matClear_ok {W0:PW} {s:Sl} {ss:List Sl} {c i j k:Nat} {m:Nat→Nat→Rat} (h:OM W0 s ss c m) (hi:i<ss.length) (hj:j<ss.length) (hne:j≠i) (hic:i<c) (hl:ss.length≤1048576) (hc:c≤1048576) (hz: ∀a b,a<ss.length→b<c→Sz k (m a b)) (hk:k≤1000000) (hk1:1≤k):
  PCallsM Go.Proofs.Tryz.prog 126 [s.v,.int .i64 (j:Int),.int .i64 (i:Int)] W0 (fun g=>ss[j].v.ownBlock=some g) fun v W'=>v = .tuple ⟨[]⟩∧OM W' s ss c (clearM m j i):=by
 apply callmat_clear
 obtain⟨s2,b3,s4,e1,q1⟩:=h.at (i:=j) (j:=i) hj hic
 obtain⟨s6,b7,s8,e2,q2⟩:=h.at (i:=i) (j:=i) hi hic
 have hrn:=h.rn hj
 refine⟨h.inB (by omega) (by omega),ss[j],h.elem hj,h.inBr hj (by omega) (by omega),s2,b3,s4,e1,h.inB (by omega) (by omega),ss[i],h.elem hi,h.inBr hi (by omega) (by omega),s6,b7,s8,e2,?_⟩
 have zf:=(hz j i hj hic).div (hz i i hi hic) hk1
 refine ratDiv_call q1 q2 (hz j i hj hic) (hz i i hi hic) (by omega) (by omega) hk1 fun s11 b12 s13 W10 hE10 h10=>⟨s11,b12,s13,_,rfl,hE10,?_⟩
 refine⟨clI W0 s ss c m (fun g=>ss[j].v.ownBlock=some g) i j s11 b12 s13,fun L _=>match L with | [.val (.int .i64 z)]=>c-z.toNat | _=>0,⟨i,rfl,Nat.le_refl _,by omega,hE10.toM _,h10,(h.ext hE10).congr fun a b _ _=>by rw[if_neg (by omega)]⟩,?_⟩
 rintro i17 W18 ⟨p,rfl,hip,hpc,hE18,h18,hM18⟩
 refine⟨hM18.inB (by omega) (by omega),ss[j],hM18.elem hj,fun hlt=>?_,fun hge W44 hE44=>⟨rfl,(hM18.ext hE44).congr fun a b _ hb=>?_⟩⟩
 ·have hpl:p<c:=by omega
  refine ratSign_call h18 zf (by omega) fun W21 hE21 _=>⟨_,rfl,fun hne0=>?_,fun heq W43 hE43=>⟨rfl,(hM18.ext (hE21.trans hE43)).congr fun a b _ hb=>?_⟩⟩
  ·have h21:=hM18.ext hE21
   obtain⟨s25,b26,s27,e3,q3⟩:=h21.at (i:=j) (j:=p) hj hpl
   obtain⟨s29,b30,s31,e4,q4⟩:=h21.at (i:=i) (j:=p) hi hpl
   rw[if_neg (by omega)] at q3 q4
   have hib:=h21.inB (i:=(j:Int)) (by omega) (by omega)
   refine⟨hib,ss[j],h21.elem hj,hib,ss[j],h21.elem hj,h21.inBr hj (by omega) (by omega),s25,b26,s27,e3,h21.inB (by omega) (by omega),ss[i],h21.elem hi,h21.inBr hi (by omega) (by omega),s29,b30,s31,e4,?_⟩
   refine ratMul_call (h18.ext hE21) q4 zf (hz i p hi hpl) (by omega) (by omega) fun s34 b35 s36 W33 hE33 h33=>⟨s34,b35,s36,rfl,hE33,?_⟩
   refine ratSub_call (q3.ext hE33) h33 (hz j p hj hpl) (zf.mul (hz i p hi hpl)) (by omega) (by omega) fun s39 b40 s41 W38 hE38 h38=>⟨s39,b40,s41,rfl,hE38,h21.inBr hj (by omega) (by omega),?_⟩
   have E:=hE33.trans hE38
   refine(h21.ext E).store (j:=p) hj hpl h38 (by decide) (by decide) (fun g hg=>.inl hg) fun W42 hX hp h42=>⟨by unfold I64;omega,⟨p+1,by push_cast;rfl,by omega,by omega,(hE18.trans ((hE21.trans E).toM _)).trans hX,hp.rat (h18.ext (hE21.trans E)) (by decide),h42.congr fun a b ha hb=>?_⟩,?_⟩
   ·unfold setM
    by_cases e:a=j∧b=p
    ·rw[if_pos e,if_pos (by omega),e.2]
    ·rw[if_neg e]
     dsimp only
     by_cases e':a=j∧i≤b∧b<p
     ·rw[if_pos e',if_pos (by omega)]
     ·rw[if_neg e',if_neg (by omega)]
   ·show c-Int.toNat ((p:Int)+1)<c-Int.toNat (p:Int)
    omega
  ·have h0:m j i/m i i=0:=(cmpQ_zero _ 0).1 (by omega)
   unfold clearM
   rw[h0]
   by_cases e:a=j∧i≤b
   ·rw[if_pos e]
    by_cases e':a=j∧i≤b∧b<p
    ·rw[if_pos e']
    ·rw[if_neg e',e.1];grind
   ·rw[if_neg e,if_neg (by omega)]
 ·unfold clearM
  by_cases e:a=j∧i≤b
  ·rw[if_pos e,if_pos (by omega)]
  ·rw[if_neg e,if_neg (by omega)]
theorem matClear_call {W0 W:PW} {M:Nat→Prop} {s:Sl} {ss:List Sl} {c i j k:Nat} {m:Nat→Nat→Rat} {K:Value→PW→Prop} (h:OM W s ss c m) (hi:i<ss.length) (hj:j<ss.length) (hne:j≠i) (hic:i<c) (hl:ss.length≤1048576) (hc:c≤1048576) (hz: ∀a b,a<ss.length→b<c→Sz k (m a b)) (hk:k≤1000000) (hk1:1≤k) (hM: ∀g,ss[j].v.ownBlock=some g→may W0 M g)
  (kont: ∀W' W'',Ext W W'→ExtM (fun g=>ss[j].v.ownBlock=some g) W' W''→OM W'' s ss c (clearM m j i)→K (.tuple ⟨[]⟩) W''):
  callN Go.Proofs.Tryz.prog W0 M 126 [s.v,.int .i64 (j:Int),.int .i64 (i:Int)] W K:=fun W' hE=>by
 have h':=h.ext hE
 refine⟨_,_,matClear_ok h' hi hj hne hic hl hc hz hk hk1,fun g hg=>⟨?_,hM g hg⟩,fun v W'' hX hP=>?_⟩
 ·obtain⟨xs,k1,_⟩:=h'.2.1 j hj
  exact(k1.block hg).2
 ·obtain⟨rfl,h2⟩:=hP
  exact kont W' W'' hE hX h2
theorem matPivot_ok {W0:PW} {s:Sl} {ss:List Sl} {c i k:Nat} {m:Nat→Nat→Rat} (h:OM W0 s ss c m) (hi:i<ss.length) (hic:i<c) (hl:ss.length≤1048576) (hz:Sz k (m i i)) (hk:k≤1000000) (h0:m i i≠0):
  PCallsM Go.Proofs.Tryz.prog 125 [s.v,.int .i64 (i:Int)] W0 (fun g=>s.v.ownBlock=some g) fun v W'=>v = .tuple ⟨[.bool true,.bool true]⟩∧OM W' s ss c m:=by
 apply callmat_pivot
 have hn:=h.n
 refine⟨fun L W=>match L with | [.val (.int .i64 z)]=>z=(i:Int)∧Ext W0 W | _=>False,fun _ _=>0,⟨rfl,Ext.refl _⟩,?_⟩
 rintro i3 W4 ⟨rfl,hE4⟩
 refine⟨fun hlt=>?_,fun hge=>by omega⟩
 have h4:=h.ext hE4
 obtain⟨s6,b7,s8,e1,q1⟩:=h4.at (i:=i) (j:=i) hi hic
 have hib:=h4.inB (i:=(i:Int)) (by omega) (by omega)
 refine⟨hib,ss[i],h4.elem hi,h4.inBr hi (by omega) (by omega),s6,b7,s8,e1,ratSign_call q1 hz (by omega) fun W10 hE10 _=>⟨_,rfl,fun hne=>?_,fun heq=>absurd ((cmpQ_zero _ 0).1 (by omega)) h0⟩⟩
 have h10:=h4.ext hE10
 refine⟨hib,ss[i],h10.elem hi,hib,ss[i],h10.elem hi,hib,?_⟩
 refine h10.same hi (by omega) (by decide) (by decide) (fun g hg=>.inl hg) fun W14 hX14 h14=>⟨hib,?_⟩
 refine h14.same hi (by omega) (by decide) (by decide) (fun g hg=>.inl hg) fun W15 hX15 h15 W16 hE16=>⟨?_,h15.ext hE16⟩
 rw[decide_eq_true rfl]
theorem matPivot_call {W0 W:PW} {M:Nat→Prop} {s:Sl} {ss:List Sl} {c i k:Nat} {m:Nat→Nat→Rat} {K:Value→PW→Prop} (h:OM W s ss c m) (hi:i<ss.length) (hic:i<c) (hl:ss.length≤1048576) (hz:Sz k (m i i)) (hk:k≤1000000) (h0:m i i≠0) (hM: ∀g,s.v.ownBlock=some g→may W0 M g)
  (kont: ∀W' W'',Ext W W'→ExtM (fun g=>s.v.ownBlock=some g) W' W''→OM W'' s ss c m→K (.tuple ⟨[.bool true,.bool true]⟩) W''):
  callN Go.Proofs.Tryz.prog W0 M 125 [s.v,.int .i64 (i:Int)] W K:=fun W' hE=>by
 have h':=h.ext hE
 refine⟨_,_,matPivot_ok h' hi hic hl hz hk h0,fun g hg=>⟨(h'.1.block hg).2,hM g hg⟩,fun v W'' hX hP=>?_⟩
 obtain⟨rfl,h2⟩:=hP
 exact kont W' W'' hE hX h2
theorem cloneRat_ok {W0:PW} {M:Nat→Prop} {s:Sl} {n:Nat} {f:Nat→Rat} (h:IsQs 317 51 W0 s n f) (hl:n≤1099511627776):
  PCallsM Go.Proofs.Tryz.prog 192 [s.v] W0 M fun v W'=>∃(s':Sl),∃(xs:List (List Value)),v=Sl.v s'∧Fresh W0 s'∧Go.SX.Own W' 51 3 s' xs∧Qs 317 W' xs n f:=by
 apply callslices_Clone_rat_Rat_rat_Rat
 obtain⟨xs,h,hq⟩:=h
 have hxl:=hq.1
 refine⟨fun hn W1 hE=>?_,fun hn=>⟨xs,⟨_,h⟩,by omega,fun s3 W4 hE4 hO hf W5 hE5=>⟨s3,xs,rfl,fun g hg=>(hf g hg).1,by rw[List.nil_append] at hO;exact hO.ext hE5,hq.ext (hE4.trans hE5)⟩⟩⟩
 have:xs = []:=Classical.byContradiction fun hne=>by
  have:=h.some hne
  rw[hn] at this
  cases this
 subst this
 exact⟨⟨none,0,0⟩,[],rfl,fun g hg=>by simp[Sl.v,Value.ownBlock] at hg,⟨⟨by simp,rfl,.inl ⟨rfl,rfl⟩⟩,fun g hg=>by simp[Sl.v,Value.ownBlock] at hg⟩,hq.ext hE⟩
theorem cloneRat_call {W0 W:PW} {M:Nat→Prop} {s:Sl} {n:Nat} {f:Nat→Rat} {K:Value→PW→Prop} (h:IsQs 317 51 W s n f) (hl:n≤1099511627776) (kont: ∀(s':Sl) (xs:List (List Value)) (W':PW),Ext W W'→(Fresh W s'∧Go.SX.Own W' 51 3 s' xs∧Qs 317 W' xs n f)→K (Sl.v s') W'):
  callN Go.Proofs.Tryz.prog W0 M 192 [s.v] W K:=
 callN_of (fun W' hE=>cloneRat_ok (M:=fun _=>False) (h.ext hE) hl) (fun W' v W'' hE hE' hP=>by
  obtain⟨s',xs,rfl,hf,h⟩:=hP
  exact kont s' xs W'' (hE.trans hE') ⟨hf.back hE,h⟩)
end Go.Proofs.YthpmkcidkcmlgaaGreat
