/- mat.Same; ldl.symmetric, ldl.left. -/
import Derived.Test.YthpmkcidkcmlgaaGreatW20
import Derived.Test.YthpmkcidkcmlgaaGreatR5
import Derived.Test.YthpmkcidkcmlgaaGreatLib2
set_option linter.unusedVariables false
set_option linter.unusedSimpArgs false
set_option maxRecDepth 100000
set_option linter.unusedVariables false
set_option linter.unusedSimpArgs false
namespace Go.Proofs.YthpmkcidkcmlgaaGreat
open Go Go.SX
theorem sameRat_ok {W0:PW} {M:Nat→Prop} {s t s' t':Sl} {b b':Bool} {p q:Rat} {k:Nat} (h1:IsRat 317 W0 s b t p) (h2:IsRat 317 W0 s' b' t' q) (hp:Sz k p) (hq:Sz k q) (hk:k≤34359738368):
  PCallsM Go.Proofs.Tryz.prog 105 [.agg #[s.v,.bool b,t.v],.agg #[s'.v,.bool b',t'.v]] W0 M fun v W'=>∃(e:Bool),v = .bool e∧(e=true↔p=q):=by
 apply callmat_Same_1_1
 refine ratCmp_call h1 h2 hp hq hk hk fun W2 hE2 _=>⟨_,rfl,fun W4 hE4=>⟨_,rfl,?_⟩⟩
 rw[decide_eq_true_iff]
 exact cmpQ_zero p q
theorem sameRat_call {W0 W:PW} {M:Nat→Prop} {s t s' t':Sl} {b b':Bool} {p q:Rat} {k:Nat} {K:Value→PW→Prop} (h1:IsRat 317 W s b t p) (h2:IsRat 317 W s' b' t' q) (hp:Sz k p) (hq:Sz k q) (hk:k≤34359738368) (kont: ∀(e:Bool) (W':PW),Ext W W'→((e=true↔p=q))→K (.bool e) W'):
  callN Go.Proofs.Tryz.prog W0 M 105 [.agg #[s.v,.bool b,t.v],.agg #[s'.v,.bool b',t'.v]] W K:=
 callN_of (fun W' hE=>sameRat_ok (M:=fun _=>False) (h1.ext hE) (h2.ext hE) hp hq hk) (fun W' v W'' hE hE' hP=>by
  obtain⟨e,rfl,h⟩:=hP
  exact kont e W'' (hE.trans hE') h)
theorem eqRats_ok {W0:PW} {M:Nat→Prop} {s t:Sl} {n n' k:Nat} {f g:Nat→Rat} (h1:IsQs 317 51 W0 s n f) (h2:IsQs 317 51 W0 t n' g) (hn:n≤1099511627776) (hf: ∀i,i<n→Sz k (f i)) (hg: ∀i,i<n'→Sz k (g i)) (hk:k≤34359738368):
  PCallsM Go.Proofs.Tryz.prog 104 [s.v,t.v,.func (.func 105) #[] #[]] W0 M fun v W'=>∃(e:Bool),v = .bool e∧(e=true↔n=n'∧∀i,i<n→f i=g i):=by
 apply callslices_EqualFunc_rat_Rat_rat_Rat_rat_Rat_rat_Rat
 have n1:=h1.n
 have n2:=h2.n
 refine⟨fun hne W1 _=>⟨false,rfl,fun h=>(by cases h),fun h=>?_⟩,fun heq=>?_⟩
 ·have:=h.1
  omega
 have hnn:n=n':=by omega
 subst hnn
 refine⟨fun l W=>match l with | [.val (.int .i64 i)]=>Ext W0 W∧∃k:Nat,i=(k:Int)∧k≤n∧∀i,i<k→f i=g i | _=>False,fun l _=>match l with | [.val (.int .i64 i)]=>n-i.toNat | _=>0,⟨Ext.refl _,0,rfl,Nat.zero_le _,fun i h=>(by omega)⟩,?_⟩
 rintro i4 W5 ⟨hE5,j,rfl,hj,hfg⟩
 have a5:=h1.ext hE5
 have b5:=h2.ext hE5
 refine⟨fun hlt=>?_,fun hge W16 _=>⟨true,rfl,fun _=>⟨rfl,fun i hi=>hfg i (by omega)⟩,fun _=>rfl⟩⟩
 obtain⟨s6,b7,s8,e1,e2⟩:=a5.at (i:=j) (by omega)
 obtain⟨s9,b10,s11,f1,f2⟩:=b5.at (i:=j) (by omega)
 refine⟨a5.inB (by omega) (by omega),s6,b7,s8,e1,b5.inB (by omega) (by omega),s9,b10,s11,f1,?_⟩
 refine sameRat_call e2 f2 (hf j (by omega)) (hg j (by omega)) hk fun b14 W13 hE13 hb=>⟨b14,rfl,fun hne W15 _=>⟨false,rfl,fun h=>(by cases h),fun h=>?_⟩,fun heq=>⟨by unfold I64;omega,⟨hE5.trans hE13,j+1,by push_cast;rfl,by omega,fun i hi=>?_⟩,?_⟩⟩
 ·rw[hb.2 (h.2 j (by omega))] at hne
  cases hne
 ·by_cases e:i=j
  ·subst e
   exact hb.1 (by simpa using heq)
  ·exact hfg i (by omega)
 ·show n-Int.toNat ((j:Int)+1)<n-Int.toNat (j:Int)
  omega
theorem eqRats_call {W0 W:PW} {M:Nat→Prop} {s t:Sl} {n n' k:Nat} {f g:Nat→Rat} {K:Value→PW→Prop} (h1:IsQs 317 51 W s n f) (h2:IsQs 317 51 W t n' g) (hn:n≤1099511627776) (hf: ∀i,i<n→Sz k (f i)) (hg: ∀i,i<n'→Sz k (g i)) (hk:k≤34359738368) (kont: ∀(e:Bool) (W':PW),Ext W W'→((e=true↔n=n'∧∀i,i<n→f i=g i))→K (.bool e) W'):
  callN Go.Proofs.Tryz.prog W0 M 104 [s.v,t.v,.func (.func 105) #[] #[]] W K:=
 callN_of (fun W' hE=>eqRats_ok (M:=fun _=>False) (h1.ext hE) (h2.ext hE) hn hf hg hk) (fun W' v W'' hE hE' hP=>by
  obtain⟨e,rfl,h⟩:=hP
  exact kont e W'' (hE.trans hE') h)
theorem sameRow_ok {W0:PW} {M:Nat→Prop} {s t:Sl} {n n' k:Nat} {f g:Nat→Rat} (h1:IsQs 317 51 W0 s n f) (h2:IsQs 317 51 W0 t n' g) (hn:n≤1099511627776) (hf: ∀i,i<n→Sz k (f i)) (hg: ∀i,i<n'→Sz k (g i)) (hk:k≤34359738368):
  PCallsM Go.Proofs.Tryz.prog 103 [s.v,t.v] W0 M fun v W'=>∃(e:Bool),v = .bool e∧(e=true↔n=n'∧∀i,i<n→f i=g i):=by
 apply callmat_Same_1
 exact eqRats_call h1 h2 hn hf hg hk fun b W2 hE2 hb=>⟨b,rfl,fun W4 hE4=>⟨b,rfl,hb⟩⟩
theorem sameRow_call {W0 W:PW} {M:Nat→Prop} {s t:Sl} {n n' k:Nat} {f g:Nat→Rat} {K:Value→PW→Prop} (h1:IsQs 317 51 W s n f) (h2:IsQs 317 51 W t n' g) (hn:n≤1099511627776) (hf: ∀i,i<n→Sz k (f i)) (hg: ∀i,i<n'→Sz k (g i)) (hk:k≤34359738368) (kont: ∀(e:Bool) (W':PW),Ext W W'→((e=true↔n=n'∧∀i,i<n→f i=g i))→K (.bool e) W'):
  callN Go.Proofs.Tryz.prog W0 M 103 [s.v,t.v] W K:=
 callN_of (fun W' hE=>sameRow_ok (M:=fun _=>False) (h1.ext hE) (h2.ext hE) hn hf hg hk) (fun W' v W'' hE hE' hP=>by
  obtain⟨e,rfl,h⟩:=hP
  exact kont e W'' (hE.trans hE') h)
def SameP (r r':Nat) (c c':Nat→Nat) (m m':Nat→Nat→Rat):Prop:=r=r'∧∀i,i<r→c i=c' i∧∀j,j<c i→m i j=m' i j
theorem eqRows_ok {W0:PW} {M:Nat→Prop} {s t:Sl} {r r' k:Nat} {c c':Nat→Nat} {m m':Nat→Nat→Rat} (h1:IsMat 317 51 100 W0 s r c m) (h2:IsMat 317 51 100 W0 t r' c' m') (hr:r≤1099511627776) (hc: ∀i,i<r→c i≤1099511627776) (hf: ∀i j,i<r→j<c i→Sz k (m i j)) (hg: ∀i j,i<r'→j<c' i→Sz k (m' i j)) (hk:k≤34359738368):
  PCallsM Go.Proofs.Tryz.prog 102 [s.v,t.v,.func (.func 103) #[] #[]] W0 M fun v W'=>∃(e:Bool),v = .bool e∧(e=true↔SameP r r' c c' m m'):=by
 apply callslices_EqualFunc_mat_Mat_mat_Mat_rat_Rat_rat_Rat
 have n1:=h1.n
 have n2:=h2.n
 refine⟨fun hne W1 _=>⟨false,rfl,fun h=>(by cases h),fun h=>?_⟩,fun heq=>?_⟩
 ·have:=h.1
  omega
 have hnn:r=r':=by omega
 subst hnn
 refine⟨fun l W=>match l with | [.val (.int .i64 i)]=>Ext W0 W∧∃k:Nat,i=(k:Int)∧k≤r∧∀i,i<k→c i=c' i∧∀j,j<c i→m i j=m' i j | _=>False,fun l _=>match l with | [.val (.int .i64 i)]=>r-i.toNat | _=>0,⟨Ext.refl _,0,rfl,Nat.zero_le _,fun i h=>(by omega)⟩,?_⟩
 rintro i4 W5 ⟨hE5,j,rfl,hj,hfg⟩
 have a5:=h1.ext hE5
 have b5:=h2.ext hE5
 refine⟨fun hlt=>?_,fun hge W16 _=>⟨true,rfl,fun _=>⟨rfl,fun i hi=>hfg i (by omega)⟩,fun _=>rfl⟩⟩
 obtain⟨x,e1,e2⟩:=a5.at (i:=j) (by omega)
 obtain⟨y,f1,f2⟩:=b5.at (i:=j) (by omega)
 refine⟨a5.inB (by omega) (by omega),x,e1,b5.inB (by omega) (by omega),y,f1,?_⟩
 refine sameRow_call e2 f2 (hc j (by omega)) (fun i hi=>hf j i (by omega) hi) (fun i hi=>hg j i (by omega) hi) hk fun b14 W13 hE13 hb=>⟨b14,rfl,fun hne W15 _=>⟨false,rfl,fun h=>(by cases h),fun h=>?_⟩,fun heq=>⟨by unfold I64;omega,⟨hE5.trans hE13,j+1,by push_cast;rfl,by omega,fun i hi=>?_⟩,?_⟩⟩
 ·rw[hb.2 (h.2 j (by omega))] at hne
  cases hne
 ·by_cases e:i=j
  ·subst e
   exact hb.1 (by simpa using heq)
  ·exact hfg i (by omega)
 ·show r-Int.toNat ((j:Int)+1)<r-Int.toNat (j:Int)
  omega
theorem eqRows_call {W0 W:PW} {M:Nat→Prop} {s t:Sl} {r r' k:Nat} {c c':Nat→Nat} {m m':Nat→Nat→Rat} {K:Value→PW→Prop} (h1:IsMat 317 51 100 W s r c m) (h2:IsMat 317 51 100 W t r' c' m') (hr:r≤1099511627776) (hc: ∀i,i<r→c i≤1099511627776) (hf: ∀i j,i<r→j<c i→Sz k (m i j)) (hg: ∀i j,i<r'→j<c' i→Sz k (m' i j)) (hk:k≤34359738368) (kont: ∀(e:Bool) (W':PW),Ext W W'→((e=true↔SameP r r' c c' m m'))→K (.bool e) W'):
  callN Go.Proofs.Tryz.prog W0 M 102 [s.v,t.v,.func (.func 103) #[] #[]] W K:=
 callN_of (fun W' hE=>eqRows_ok (M:=fun _=>False) (h1.ext hE) (h2.ext hE) hr hc hf hg hk) (fun W' v W'' hE hE' hP=>by
  obtain⟨e,rfl,h⟩:=hP
  exact kont e W'' (hE.trans hE') h)
theorem matSame_ok {W0:PW} {M:Nat→Prop} {s t:Sl} {r r' k:Nat} {c c':Nat→Nat} {m m':Nat→Nat→Rat} (h1:IsMat 317 51 100 W0 s r c m) (h2:IsMat 317 51 100 W0 t r' c' m') (hr:r≤1099511627776) (hr':r'≤1099511627776) (hf: ∀i j,i<r→j<c i→Sz k (m i j)) (hg: ∀i j,i<r'→j<c' i→Sz k (m' i j)) (hk:k≤34359738368):
  PCallsM Go.Proofs.Tryz.prog 23 [s.v,t.v] W0 M fun v W'=>∃(e:Bool),v = .bool e∧(e=true↔RightP r c∧RightP r' c'∧SameP r r' c c' m m'):=by
 apply callmat_Same
 refine matRight_call h1 hr fun b W2 hE2 hb=>⟨b,rfl,fun ht=>?_,fun hf W16 _=>⟨false,rfl,fun h=>(by cases h),fun h=>?_⟩⟩
 ·have hR:=hb.1 ht
  refine matRight_call (h2.ext hE2) hr' fun b' W5 hE5 hb'=>⟨b',rfl,fun ht'=>?_,fun hf' W11 _=>⟨false,rfl,fun h=>(by cases h),fun h=>?_⟩⟩
  ·have hR':=hb'.1 ht'
   refine eqRows_call ((h1.ext hE2).ext hE5) ((h2.ext hE2).ext hE5) hr (fun i hi=>by have:=hR.1 i hi;have:=hR.2.2.2.2;omega) hf hg hk fun b9 W8 hE8 hb9=>⟨b9,rfl,fun W10 _=>⟨b9,rfl,?_⟩⟩
   rw[hb9]
   exact⟨fun h=>⟨hR,hR',h⟩,fun h=>h.2.2⟩
  ·rw[hb'.2 h.2.1] at hf'
   cases hf'
 ·rw[hb.2 h.1] at hf
  cases hf
theorem matSame_call {W0 W:PW} {M:Nat→Prop} {s t:Sl} {r r' k:Nat} {c c':Nat→Nat} {m m':Nat→Nat→Rat} {K:Value→PW→Prop} (h1:IsMat 317 51 100 W s r c m) (h2:IsMat 317 51 100 W t r' c' m') (hr:r≤1099511627776) (hr':r'≤1099511627776) (hf: ∀i j,i<r→j<c i→Sz k (m i j)) (hg: ∀i j,i<r'→j<c' i→Sz k (m' i j)) (hk:k≤34359738368) (kont: ∀(e:Bool) (W':PW),Ext W W'→((e=true↔RightP r c∧RightP r' c'∧SameP r r' c c' m m'))→K (.bool e) W'):
  callN Go.Proofs.Tryz.prog W0 M 23 [s.v,t.v] W K:=
 callN_of (fun W' hE=>matSame_ok (M:=fun _=>False) (h1.ext hE) (h2.ext hE) hr hr' hf hg hk) (fun W' v W'' hE hE' hP=>by
  obtain⟨e,rfl,h⟩:=hP
  exact kont e W'' (hE.trans hE') h)
def SymP (r:Nat) (c:Nat→Nat) (m:Nat→Nat→Rat):Prop:=RightP r c∧c 0=r∧∀i j,i<r→j<r→m i j=m j i
theorem ldlSym_ok {W0:PW} {M:Nat→Prop} {s:Sl} {r k:Nat} {c:Nat→Nat} {m:Nat→Nat→Rat} (h:IsMat 317 51 100 W0 s r c m) (hr:r≤1099511627776) (hf: ∀i j,i<r→j<c i→Sz k (m i j)) (hk:k≤34359738368):
  PCallsM Go.Proofs.Tryz.prog 120 [s.v] W0 M fun v W'=>∃(e:Bool),v = .bool e∧(e=true↔SymP r c m):=by
 apply callldl_symmetric
 have hnn:NewFrom W0.w.heap.size W0:=Nat.le_refl _
 refine matTurn_call hnn h hr fun s3 b W2 hE2 ⟨hb,hO⟩=>⟨s3,b,rfl,fun ht=>?_,fun hf W9 _=>⟨false,rfl,fun h=>(by cases h),fun h=>?_⟩⟩
 ·have hR:=hb.1 ht
  have hO:=hO hR
  have hR':=hR
  obtain⟨hc,hr1,hr12,hc1,hc12⟩:=hR'
  refine matSame_call (h.ext hE2) hO.mat hr (by omega) hf (fun i j hi hj=>hf j i hj (by have:=hc j hj;omega)) hk fun b7 W6 hE6 hb7=>⟨b7,rfl,fun W8 _=>⟨b7,rfl,?_⟩⟩
  rw[hb7]
  constructor
  ·rintro⟨_,_,h1,h2⟩
   refine⟨hR,h1.symm,fun i j hi hj=>(h2 i hi).2 j ?_⟩
   have:=hc i hi
   omega
  ·rintro⟨_,h1,h2⟩
   exact⟨hR,⟨fun i _=>rfl,by omega,by omega,by show 1≤r;omega,by show r≤12;omega⟩,h1.symm,fun i hi=>⟨by have:=hc i hi;show c i=r;omega,fun j hj=>h2 i j hi (by have:=hc i hi;omega)⟩⟩
 ·rw[hb.2 h.1] at hf
  cases hf
theorem ldlSym_call {W0 W:PW} {M:Nat→Prop} {s:Sl} {r k:Nat} {c:Nat→Nat} {m:Nat→Nat→Rat} {K:Value→PW→Prop} (h:IsMat 317 51 100 W s r c m) (hr:r≤1099511627776) (hf: ∀i j,i<r→j<c i→Sz k (m i j)) (hk:k≤34359738368) (kont: ∀(e:Bool) (W':PW),Ext W W'→((e=true↔SymP r c m))→K (.bool e) W'):
  callN Go.Proofs.Tryz.prog W0 M 120 [s.v] W K:=
 callN_of (fun W' hE=>ldlSym_ok (M:=fun _=>False) (h.ext hE) hr hf hk) (fun W' v W'' hE hE' hP=>by
  obtain⟨e,rfl,h⟩:=hP
  exact kont e W'' (hE.trans hE') h)
theorem left_sz {f:Nat→Rat} {x:Rat} {K σ:Nat} (hx:Sz σ x): ∀{j:Nat} (_: ∀t,t<j→Sz K (f t)),Sz (σ+j*(K+1)) (x-lsum f j)
 | 0,_=>by
  have:x-lsum f 0=x:=by simp only[lsum];grind
  rw[this]
  exact hx.mono (by omega)
 | j+1,h=>by
  have h1:=left_sz hx (j:=j) (fun t ht=>h t (by omega))
  have h2:=h1.sub (h j (by omega))
  have e:x-lsum f (j+1)=x-lsum f j-f j:=by simp only[lsum];grind
  rw[e]
  exact h2.mono (by rw[Nat.succ_mul];omega)
theorem ldlLeft_ok {W0:PW} {M:Nat→Prop} {s l d:Sl} {r r' n i k u σ:Nat} {c c':Nat→Nat} {m L:Nat→Nat→Rat} {D:Nat→Rat} (h1:IsMat 317 51 100 W0 s r c m) (h2:IsMat 317 51 100 W0 l r' c' L) (h3:IsQs 317 51 W0 d n D) (hir:i<r) (hkc:k<c i) (hir':i<r') (hkr':k<r') (hci:k≤c' i) (hck:k≤c' k) (hkn:k≤n) (hk12:k≤12) (hz:Sz σ (m i k)) (hL: ∀j,j<k→Sz u (L i j)∧Sz u (D j)∧Sz u (L k j)) (hσ:σ≤100000000) (hu:u≤100000000):
  PCallsM Go.Proofs.Tryz.prog 122 [s.v,l.v,d.v,.int .i64 (i:Int),.int .i64 (k:Int)] W0 M fun v W'=>∃(s':Sl),∃(b':Bool),∃(t':Sl),v = .agg #[Sl.v s',.bool b',Sl.v t']∧IsRat 317 W' s' b' t' (leftF m L D i k):=by
 apply callldl_left
 obtain⟨x,e1,e2⟩:=h1.at hir
 obtain⟨s2,b3,s4,f1,f2⟩:=e2.at hkc
 refine⟨h1.inB (by omega) (by omega),x,e1,e2.inB (by omega) (by omega),s2,b3,s4,f1,?_⟩
 refine⟨fun l W=>match l with | [.val (.int .i64 j),.cells [.slice A n c,.bool b,.slice A' n' c']]=>Ext W0 W∧∃q:Nat,j=(q:Int)∧q≤k∧IsRat 317 W ⟨A,n,c⟩ b ⟨A',n',c'⟩ (m i k-lsum (fun j=>L i j*D j*L k j) q) | _=>False,fun l _=>match l with | [.val (.int .i64 j),_]=>k-j.toNat | _=>0,⟨Ext.refl _,0,rfl,Nat.zero_le _,?_⟩,?_⟩
 ·have:m i k-lsum (fun j=>L i j*D j*L k j) 0=m i k:=by simp only[lsum];grind
  rw[this]
  exact f2
 rintro s7 b8 s9 i10 W11 ⟨hE11,q,rfl,hq,h7⟩
 have h7:IsRat 317 W11 s7 b8 s9 (m i k-lsum (fun j=>L i j*D j*L k j) q):=h7
 refine⟨fun hlt=>?_,fun hge W38 hE38=>⟨s7,b8,s9,rfl,?_⟩⟩
 ·have hqk:q<k:=by omega
  have l11:=h2.ext hE11
  have d11:=h3.ext hE11
  obtain⟨y,y1,y2⟩:=l11.at hir'
  obtain⟨s13,b14,s15,g1,g2⟩:=y2.at (i:=q) (by omega)
  obtain⟨s16,b17,s18,u1,u2⟩:=d11.at (i:=q) (by omega)
  obtain⟨z,z1,z2⟩:=l11.at hkr'
  obtain⟨s20,b21,s22,v1,v2⟩:=z2.at (i:=q) (by omega)
  obtain⟨a1,a2,a3⟩:=hL q hqk
  have hsz:Sz (σ+q*(u+u+u+1)) (m i k-lsum (fun j=>L i j*D j*L k j) q):=left_sz hz fun t ht=>((hL t (by omega)).1.mul (hL t (by omega)).2.1).mul (hL t (by omega)).2.2
  have hqb:q*(u+u+u+1)≤12*(u+u+u+1):=Nat.mul_le_mul_right _ (by omega)
  refine⟨l11.inB (by omega) (by omega),y,y1,y2.inB (by omega) (by omega),s13,b14,s15,g1,d11.inB (by omega) (by omega),s16,b17,s18,u1,l11.inB (by omega) (by omega),z,z1,z2.inB (by omega) (by omega),s20,b21,s22,v1,?_⟩
  refine ratMul_call g2 u2 a1 a2 (by omega) (by omega) fun s25 b26 s27 W24 hE24 h25=>⟨s25,b26,s27,rfl,hE24,?_⟩
  refine ratMul_call h25 (v2.ext hE24) (a1.mul a2) a3 (by omega) (by omega) fun s30 b31 s32 W29 hE29 h30=>⟨s30,b31,s32,rfl,hE29,?_⟩
  refine ratSub_call ((h7.ext hE24).ext hE29) h30 hsz ((a1.mul a2).mul a3) (by omega) (by omega) fun s35 b36 s37 W34 hE34 h35=>⟨s35,b36,s37,rfl,hE34,by unfold I64;omega,⟨((hE11.trans hE24).trans hE29).trans hE34,q+1,by push_cast;rfl,by omega,?_⟩,?_⟩
  ·have:m i k-lsum (fun j=>L i j*D j*L k j) (q+1)=m i k-lsum (fun j=>L i j*D j*L k j) q-L i q*D q*L k q:=by simp only[lsum];grind
   rw[this]
   exact h35
  ·show k-Int.toNat ((q:Int)+1)<k-Int.toNat (q:Int)
   omega
 ·have:q=k:=by omega
  subst this
  exact h7.ext hE38
theorem ldlLeft_call {W0 W:PW} {M:Nat→Prop} {s l d:Sl} {r r' n i k u σ:Nat} {c c':Nat→Nat} {m L:Nat→Nat→Rat} {D:Nat→Rat} {K:Value→PW→Prop} (h1:IsMat 317 51 100 W s r c m) (h2:IsMat 317 51 100 W l r' c' L) (h3:IsQs 317 51 W d n D) (hir:i<r) (hkc:k<c i) (hir':i<r') (hkr':k<r') (hci:k≤c' i) (hck:k≤c' k) (hkn:k≤n) (hk12:k≤12) (hz:Sz σ (m i k)) (hL: ∀j,j<k→Sz u (L i j)∧Sz u (D j)∧Sz u (L k j)) (hσ:σ≤100000000) (hu:u≤100000000) (kont: ∀(s':Sl) (b':Bool) (t':Sl) (W':PW),Ext W W'→(IsRat 317 W' s' b' t' (leftF m L D i k))→K (.agg #[Sl.v s',.bool b',Sl.v t']) W'):
  callN Go.Proofs.Tryz.prog W0 M 122 [s.v,l.v,d.v,.int .i64 (i:Int),.int .i64 (k:Int)] W K:=
 callN_of (fun W' hE=>ldlLeft_ok (M:=fun _=>False) (h1.ext hE) (h2.ext hE) (h3.ext hE) hir hkc hir' hkr' hci hck hkn hk12 hz hL hσ hu) (fun W' v W'' hE hE' hP=>by
  obtain⟨s',b',t',rfl,h⟩:=hP
  exact kont s' b' t' W'' (hE.trans hE') h)
end Go.Proofs.YthpmkcidkcmlgaaGreat

/- ldl.Of. -/
set_option maxRecDepth 100000
set_option linter.unusedVariables false
set_option linter.unusedSimpArgs false
namespace Go.Proofs.YthpmkcidkcmlgaaGreat
open Go Go.SX
def ofI (κ:Nat) (m:Nat→Nat→Rat) (W0:PW) (r:Nat) (s7 s8:Sl) (l:List PL) (W:PW):Prop:=
 match l with
 | [.val (.int .i64 i)]=>∃(k:Nat) (L:Nat→Nat→Rat) (D:Nat→Rat) (xs:List (List Value)),i=(k:Int)∧k≤r∧ExtN W0.w.heap.size W0 W∧
   OMat 317 51 100 (fun g=>W0.w.heap.size≤g∧¬s8.v.ownBlock=some g) W s7 r r L∧Go.SX.Own W 51 3 s8 xs∧Qs 317 W xs r D∧Outer m L D r k∧SzO κ L D r k
 | _=>False
def ofI2 (κ:Nat) (m:Nat→Nat→Rat) (W0:PW) (r k:Nat) (s7 s8:Sl) (l:List PL) (W:PW):Prop:=
 match l with
 | [.val (.int .i64 i)]=>∃(j:Nat) (L:Nat→Nat→Rat) (D:Nat→Rat) (xs:List (List Value)),i=(j:Int)∧k<j∧j≤r∧ExtN W0.w.heap.size W0 W∧
   OMat 317 51 100 (fun g=>W0.w.heap.size≤g∧¬s8.v.ownBlock=some g) W s7 r r L∧Go.SX.Own W 51 3 s8 xs∧Qs 317 W xs r D∧Inner m L D r k j∧SzI κ L D r k j
 | _=>False
def ofM (r:Nat) (l:List PL) (W:PW):Nat:=
 match l with
 | [.val (.int .i64 i)]=>r-i.toNat
 | _=>0
def NoParts (r:Nat) (c:Nat→Nat) (m:Nat→Nat→Rat):Prop:=¬SymP r c m∨∃(L:Nat→Nat→Rat) (D:Nat→Rat) (k j:Nat),Parts m L D r k∧D k=leftF m L D k k∧D k=0∧k<j∧j<r∧leftF m L D j k≠0
theorem ldlOf_ok {W0:PW} {M:Nat→Prop} {s:Sl} {r κ:Nat} {c:Nat→Nat} {m:Nat→Nat→Rat} (h:IsMat 317 51 100 W0 s r c m) (hr:r≤5) (hz: ∀i j,i<r→j<c i→Sz κ (m i j)) (hK:1≤κ) (hK2:κ≤100000000) (hU: ∀k,k≤r→Ub κ k≤100000000∧Sk κ k≤1000000000):
  PCallsM Go.Proofs.Tryz.prog 37 [s.v] W0 M fun v W'=>∃(u:Sl),∃(d:Sl),∃(b:Bool),v = .tuple #[Sl.v u,Sl.v d,.bool b]∧(b=false→u=⟨none,0,0⟩∧d=⟨none,0,0⟩∧NoParts r c m)∧(b=true→SymP r c m∧∃(L:Nat→Nat→Rat) (D:Nat→Rat),IsMat 317 51 100 W' u r (fun _=>r) L∧IsQs 317 51 W' d r D∧Parts m L D r r∧SzO κ L D r r):=by
 apply callldl_Of
 have hsn:=h.n
 have hnn:NewFrom W0.w.heap.size W0:=Nat.le_refl _
 have bad:NoParts r c m→∀W':PW,∃(u d:Sl) (b:Bool),(Value.tuple #[.slice none 0 0,.slice none 0 0,.bool false]) = .tuple #[Sl.v u,Sl.v d,.bool b]∧(b=false→u=⟨none,0,0⟩∧d=⟨none,0,0⟩∧NoParts r c m)∧(b=true→SymP r c m∧∃(L:Nat→Nat→Rat) (D:Nat→Rat),IsMat 317 51 100 W' u r (fun _=>r) L∧IsQs 317 51 W' d r D∧Parts m L D r r∧SzO κ L D r r):=
  fun hN W'=>⟨⟨none,0,0⟩,⟨none,0,0⟩,false,rfl,fun _=>⟨rfl,rfl,hN⟩,fun h=>(by cases h)⟩
 refine ldlSym_call h (by omega) hz (by omega) fun b W2 hE2 hb=>⟨b,rfl,fun hf W4 _=>bad (.inl fun h=>by rw[hb.2 h] at hf;cases hf) W4,fun ht=>?_⟩
 have hSym:=hb.1 (by simpa using ht)
 obtain⟨⟨hc',hr1,hr12,hc1,hc12⟩,hcr,hsym⟩:=hSym
 have hSym:=hb.1 (by simpa using ht)
 have hc: ∀i,i<r→c i=r:=fun i hi=>by have:=hc' i hi;omega
 rw[hsn]
 refine⟨matOne_call (hnn.ext hE2) hr1 hr12 fun s7 W6 hE6 h7=>⟨s7,rfl,⟨rfl,by omega,by omega⟩,fun s8 W9 hE9 hO hf=>?_⟩,⟨rfl,by omega,by omega⟩,matOne_call (hnn.ext hE2) hr1 hr12 fun s7 W6 hE6 h7=>⟨s7,rfl,fun s8 W9 hE9 hO hf=>?_⟩⟩
 ·have hfr: ∀g,s8.v.ownBlock=some g→W0.w.heap.size≤g:=fun g hg=>(hf g hg).1
  have h9:=(h7.avoid (A:=fun g=>s8.v.ownBlock=some g) fun g hg hlt=>(hf g hg).2 hlt).ext hE9
  rw[show Int.toNat (r:Int)=r from rfl] at hO
  refine⟨ofI κ m W0 r s7 s8,ofM r,⟨0,_,_,_,rfl,Nat.zero_le _,((hE2.trans hE6).trans hE9).toM _,h9,hO,qs_zero W9 r,outer_zero m _ r,fun a j _ h=>absurd h (Nat.not_lt_zero _),fun j h=>absurd h (Nat.not_lt_zero _)⟩,?_⟩
  rintro i13 W14 ⟨k,L,D,xs,rfl,hk,hE14,h14,ho14,hq14,hout,hsz⟩
  refine⟨fun hlt=>?_,fun hge W67 hE67=>⟨s7,s8,true,rfl,fun h=>(by cases h),fun _=>⟨hSym,L,D,(h14.ext hE67).mat,⟨xs,(ho14.ext hE67).row,hq14.ext hE67⟩,?_⟩⟩⟩
  ·have hkr:k<r:=by omega
   have hub:=hU k (by omega)
   have hck:=hc k hkr
   have hmk:=hz k k hkr (by omega)
   refine ldlLeft_call (h.new hE14 (Nat.le_refl _)) h14.mat ⟨xs,ho14.row,hq14⟩ hkr (by omega) hkr hkr (by omega) (by omega) (by omega) (by omega) hmk (fun j hj=>⟨hsz.1 k j hkr hj,hsz.2 j hj,hsz.1 k j hkr hj⟩) (by omega) (by omega) fun s17 b18 s19 W16 hE16 h17=>⟨s17,b18,s19,rfl,?_⟩
   have o16:=ho14.ext hE16
   have hxl:xs.length=r:=hq14.1
   have hq16:IsQs 317 51 W16 s8 r D:=⟨xs,o16.row,hq14.ext hE16⟩
   refine⟨hq16.inB (by omega) (by omega),?_⟩
   refine storeN_own (j:=k) o16 (by omega) rfl (fun u hu=>?_) (fun g hg=>.inr (hfr g hg)) fun W20 g hg hw hO20=>⟨by unfold I64;omega,?_⟩
   ·simp only[List.mem_cons,List.not_mem_nil,or_false] at hu
    rcases hu with rfl | rfl | rfl<;>rfl
   have hszk:Sz (Sk κ k) (leftF m L D k k):=left_sz hmk fun t ht=>((hsz.1 k t hkr ht).mul (hsz.2 t ht)).mul (hsz.1 k t hkr ht)
   refine⟨ofI2 κ m W0 r k s7 s8,ofM r,⟨k+1,L,_,_,by push_cast;rfl,by omega,by omega,(hE14.trans (hE16.toM _)).trans (hw.extN (hfr g hg)),(h14.ext hE16).other hw (fun h=>h.2 hg) (by decide) (by decide),hO20,(hw.qs (hq14.ext hE16) (by decide)).set (by omega) (hw.rat h17 (by decide)),inner_start hout hkr,⟨hsz.1,fun j hj=>?_⟩,?_,fun a h1 h2=>(by omega)⟩,?_⟩
   ·show Sz _ (if j=k then _ else _)
    rw[if_neg (by omega)]
    exact hsz.2 j hj
   ·show Sz _ (if k=k then _ else _)
    rw[if_pos rfl]
    exact hszk
   clear hsz hout hO20 hq16 hszk o16 hxl hq14 ho14 h14 hw
   rintro i23 W24 ⟨j,L,D,ys,rfl,hkj,hjr,hE24,h24,ho24,hq24,hin,hsz⟩
   refine⟨fun hlt2=>?_,fun hge2=>⟨by unfold I64;omega,⟨k+1,L,D,ys,by push_cast;rfl,by omega,hE24,h24,ho24,hq24,?_,?_⟩,?_⟩⟩
   ·have hjr:j<r:=by omega
    have hcj:=hc j hjr
    have hmj:=hz j k hjr (by omega)
    refine ldlLeft_call (h.new hE24 (Nat.le_refl _)) h24.mat ⟨ys,ho24.row,hq24⟩ hjr (by omega) hjr hkr (by omega) (by omega) (by omega) (by omega) hmj (fun t ht=>⟨hsz.1.1 j t hjr ht,hsz.1.2 t ht,hsz.1.1 k t hkr ht⟩) (by omega) (by omega) fun s27 b28 s29 W26 hE26 h27=>⟨s27,b28,s29,rfl,?_⟩
    have hszl:Sz (Sk κ k) (leftF m L D j k):=left_sz hmj fun t ht=>((hsz.1.1 j t hjr ht).mul (hsz.1.2 t ht)).mul (hsz.1.1 k t hkr ht)
    have hszd:=hsz.2.1
    have hq26:IsQs 317 51 W26 s8 r D:=⟨ys,(ho24.ext hE26).row,hq24.ext hE26⟩
    obtain⟨s30,b31,s32,u1,hdk⟩:=hq26.at (i:=k) hkr
    refine⟨hq26.inB (by omega) (by omega),s30,b31,s32,u1,?_⟩
    ·refine ratDiv_call h27 hdk hszl hszd (by omega) (by omega) (by unfold Sk;omega) fun s35 b36 s37 W34 hE34 h35=>⟨s35,b36,s37,_,rfl,fun _ W=>Ext W34 W∧(D k=0→leftF m L D j k=0),⟨fun hz=>?_,fun hz=>⟨Ext.refl _,fun h0=>?_⟩⟩,?_⟩
     ·refine ratSign_call (h27.ext hE34) hszl (by omega) fun W41 hE41 _=>⟨_,rfl,fun hne W43 _=>bad (.inr ⟨L,D,k,j,hin.parts,hin.dk,by simpa using hz,hkj,hjr,fun e=>hne ((cmpQ_zero _ 0).2 e)⟩) W43,fun heq=>⟨hE41,fun _=>(cmpQ_zero _ 0).1 ?_⟩⟩
      omega
     ·simp[h0] at hz
     ·rintro b45 b46 W47 ⟨hE47,h0⟩
      have h47:=((h24.ext hE26).ext hE34).ext hE47
      obtain⟨y,y1,y2⟩:=h47.mat.at (i:=j) hjr
      refine⟨h47.mat.inB (by omega) (by omega),y,y1,y2.inB (by omega) (by omega),?_⟩
      refine h47.store (j:=k) y1 hjr (by omega) (h35.ext hE47) (by decide) (by decide) (fun g hg=>.inr hg.1) fun W49 hp h49=>⟨by unfold I64;omega,⟨j+1,_,D,ys,by push_cast;rfl,by omega,by omega,(((hE24.trans (hE26.toM _)).trans (hE34.toM _)).trans (hE47.toM _)).trans (hp.extN fun g hg=>hg.1),h49,hp.own (((ho24.ext hE26).ext hE34).ext hE47) (fun g hg hN=>hN.2 hg),hp.qs (((hq24.ext hE26).ext hE34).ext hE47) (by decide),inner_step hin hkj hjr h0,⟨⟨fun a c ha hc=>?_,hsz.1.2⟩,hsz.2.1,fun a ha1 ha2=>?_⟩⟩,?_⟩
      ·show Sz _ (if a=j∧c=k then _ else _)
       rw[if_neg (by omega)]
       exact hsz.1.1 a c ha hc
      ·show Sz _ (if a=j∧k=k then _ else _)
       by_cases e:a=j
       ·rw[if_pos ⟨e,rfl⟩,Ub_succ]
        exact hszl.div hszd (by unfold Sk;omega)
       ·rw[if_neg (by omega)]
        exact hsz.2.2 a ha1 (by omega)
      ·show r-Int.toNat ((j:Int)+1)<r-Int.toNat (j:Int)
       omega
   ·have:j=r:=by omega
    subst this
    exact inner_end hin hkr
   ·have:j=r:=by omega
    subst this
    exact szI_end hK hsz hin hkr
   ·show r-Int.toNat ((k:Int)+1)<r-Int.toNat (k:Int)
    omega
  ·have:k=r:=by omega
   subst this
   exact⟨hout.1,hsz⟩
 ·have hfr: ∀g,s8.v.ownBlock=some g→W0.w.heap.size≤g:=fun g hg=>(hf g hg).1
  have h9:=(h7.avoid (A:=fun g=>s8.v.ownBlock=some g) fun g hg hlt=>(hf g hg).2 hlt).ext hE9
  rw[show Int.toNat (r:Int)=r from rfl] at hO
  refine⟨ofI κ m W0 r s7 s8,ofM r,⟨0,_,_,_,rfl,Nat.zero_le _,((hE2.trans hE6).trans hE9).toM _,h9,hO,qs_zero W9 r,outer_zero m _ r,fun a j _ h=>absurd h (Nat.not_lt_zero _),fun j h=>absurd h (Nat.not_lt_zero _)⟩,?_⟩
  rintro i13 W14 ⟨k,L,D,xs,rfl,hk,hE14,h14,ho14,hq14,hout,hsz⟩
  refine⟨fun hlt=>?_,fun hge W67 hE67=>⟨s7,s8,true,rfl,fun h=>(by cases h),fun _=>⟨hSym,L,D,(h14.ext hE67).mat,⟨xs,(ho14.ext hE67).row,hq14.ext hE67⟩,?_⟩⟩⟩
  ·have hkr:k<r:=by omega
   have hub:=hU k (by omega)
   have hck:=hc k hkr
   have hmk:=hz k k hkr (by omega)
   refine ldlLeft_call (h.new hE14 (Nat.le_refl _)) h14.mat ⟨xs,ho14.row,hq14⟩ hkr (by omega) hkr hkr (by omega) (by omega) (by omega) (by omega) hmk (fun j hj=>⟨hsz.1 k j hkr hj,hsz.2 j hj,hsz.1 k j hkr hj⟩) (by omega) (by omega) fun s17 b18 s19 W16 hE16 h17=>⟨s17,b18,s19,rfl,?_⟩
   have o16:=ho14.ext hE16
   have hxl:xs.length=r:=hq14.1
   have hq16:IsQs 317 51 W16 s8 r D:=⟨xs,o16.row,hq14.ext hE16⟩
   refine⟨hq16.inB (by omega) (by omega),?_⟩
   refine storeN_own (j:=k) o16 (by omega) rfl (fun u hu=>?_) (fun g hg=>.inr (hfr g hg)) fun W20 g hg hw hO20=>⟨by unfold I64;omega,?_⟩
   ·simp only[List.mem_cons,List.not_mem_nil,or_false] at hu
    rcases hu with rfl | rfl | rfl<;>rfl
   have hszk:Sz (Sk κ k) (leftF m L D k k):=left_sz hmk fun t ht=>((hsz.1 k t hkr ht).mul (hsz.2 t ht)).mul (hsz.1 k t hkr ht)
   refine⟨ofI2 κ m W0 r k s7 s8,ofM r,⟨k+1,L,_,_,by push_cast;rfl,by omega,by omega,(hE14.trans (hE16.toM _)).trans (hw.extN (hfr g hg)),(h14.ext hE16).other hw (fun h=>h.2 hg) (by decide) (by decide),hO20,(hw.qs (hq14.ext hE16) (by decide)).set (by omega) (hw.rat h17 (by decide)),inner_start hout hkr,⟨hsz.1,fun j hj=>?_⟩,?_,fun a h1 h2=>(by omega)⟩,?_⟩
   ·show Sz _ (if j=k then _ else _)
    rw[if_neg (by omega)]
    exact hsz.2 j hj
   ·show Sz _ (if k=k then _ else _)
    rw[if_pos rfl]
    exact hszk
   clear hsz hout hO20 hq16 hszk o16 hxl hq14 ho14 h14 hw
   rintro i23 W24 ⟨j,L,D,ys,rfl,hkj,hjr,hE24,h24,ho24,hq24,hin,hsz⟩
   refine⟨fun hlt2=>?_,fun hge2=>⟨by unfold I64;omega,⟨k+1,L,D,ys,by push_cast;rfl,by omega,hE24,h24,ho24,hq24,?_,?_⟩,?_⟩⟩
   ·have hjr:j<r:=by omega
    have hcj:=hc j hjr
    have hmj:=hz j k hjr (by omega)
    refine ldlLeft_call (h.new hE24 (Nat.le_refl _)) h24.mat ⟨ys,ho24.row,hq24⟩ hjr (by omega) hjr hkr (by omega) (by omega) (by omega) (by omega) hmj (fun t ht=>⟨hsz.1.1 j t hjr ht,hsz.1.2 t ht,hsz.1.1 k t hkr ht⟩) (by omega) (by omega) fun s27 b28 s29 W26 hE26 h27=>⟨s27,b28,s29,rfl,?_⟩
    have hszl:Sz (Sk κ k) (leftF m L D j k):=left_sz hmj fun t ht=>((hsz.1.1 j t hjr ht).mul (hsz.1.2 t ht)).mul (hsz.1.1 k t hkr ht)
    have hszd:=hsz.2.1
    have hq26:IsQs 317 51 W26 s8 r D:=⟨ys,(ho24.ext hE26).row,hq24.ext hE26⟩
    obtain⟨s30,b31,s32,u1,hdk⟩:=hq26.at (i:=k) hkr
    refine⟨hq26.inB (by omega) (by omega),s30,b31,s32,u1,?_⟩
    ·refine ratDiv_call h27 hdk hszl hszd (by omega) (by omega) (by unfold Sk;omega) fun s35 b36 s37 W34 hE34 h35=>⟨s35,b36,s37,_,rfl,fun _ W=>Ext W34 W∧(D k=0→leftF m L D j k=0),⟨fun hz=>?_,fun hz=>⟨Ext.refl _,fun h0=>?_⟩⟩,?_⟩
     ·refine ratSign_call (h27.ext hE34) hszl (by omega) fun W41 hE41 _=>⟨_,rfl,fun hne W43 _=>bad (.inr ⟨L,D,k,j,hin.parts,hin.dk,by simpa using hz,hkj,hjr,fun e=>hne ((cmpQ_zero _ 0).2 e)⟩) W43,fun heq=>⟨hE41,fun _=>(cmpQ_zero _ 0).1 ?_⟩⟩
      omega
     ·simp[h0] at hz
     ·rintro b45 b46 W47 ⟨hE47,h0⟩
      have h47:=((h24.ext hE26).ext hE34).ext hE47
      obtain⟨y,y1,y2⟩:=h47.mat.at (i:=j) hjr
      refine⟨h47.mat.inB (by omega) (by omega),y,y1,y2.inB (by omega) (by omega),?_⟩
      refine h47.store (j:=k) y1 hjr (by omega) (h35.ext hE47) (by decide) (by decide) (fun g hg=>.inr hg.1) fun W49 hp h49=>⟨by unfold I64;omega,⟨j+1,_,D,ys,by push_cast;rfl,by omega,by omega,(((hE24.trans (hE26.toM _)).trans (hE34.toM _)).trans (hE47.toM _)).trans (hp.extN fun g hg=>hg.1),h49,hp.own (((ho24.ext hE26).ext hE34).ext hE47) (fun g hg hN=>hN.2 hg),hp.qs (((hq24.ext hE26).ext hE34).ext hE47) (by decide),inner_step hin hkj hjr h0,⟨⟨fun a c ha hc=>?_,hsz.1.2⟩,hsz.2.1,fun a ha1 ha2=>?_⟩⟩,?_⟩
      ·show Sz _ (if a=j∧c=k then _ else _)
       rw[if_neg (by omega)]
       exact hsz.1.1 a c ha hc
      ·show Sz _ (if a=j∧k=k then _ else _)
       by_cases e:a=j
       ·rw[if_pos ⟨e,rfl⟩,Ub_succ]
        exact hszl.div hszd (by unfold Sk;omega)
       ·rw[if_neg (by omega)]
        exact hsz.2.2 a ha1 (by omega)
      ·show r-Int.toNat ((j:Int)+1)<r-Int.toNat (j:Int)
       omega
   ·have:j=r:=by omega
    subst this
    exact inner_end hin hkr
   ·have:j=r:=by omega
    subst this
    exact szI_end hK hsz hin hkr
   ·show r-Int.toNat ((k:Int)+1)<r-Int.toNat (k:Int)
    omega
  ·have:k=r:=by omega
   subst this
   exact⟨hout.1,hsz⟩
theorem ldlOf_call {W0 W:PW} {M:Nat→Prop} {s:Sl} {r κ:Nat} {c:Nat→Nat} {m:Nat→Nat→Rat} {K:Value→PW→Prop} (h:IsMat 317 51 100 W s r c m) (hr:r≤5) (hz: ∀i j,i<r→j<c i→Sz κ (m i j)) (hK:1≤κ) (hK2:κ≤100000000) (hU: ∀k,k≤r→Ub κ k≤100000000∧Sk κ k≤1000000000) (kont: ∀(u:Sl) (d:Sl) (b:Bool) (W':PW),Ext W W'→((b=false→u=⟨none,0,0⟩∧d=⟨none,0,0⟩∧NoParts r c m)∧(b=true→SymP r c m∧∃(L:Nat→Nat→Rat) (D:Nat→Rat),IsMat 317 51 100 W' u r (fun _=>r) L∧IsQs 317 51 W' d r D∧Parts m L D r r∧SzO κ L D r r))→K (.tuple #[Sl.v u,Sl.v d,.bool b]) W'):
  callN Go.Proofs.Tryz.prog W0 M 37 [s.v] W K:=
 callN_of (fun W' hE=>ldlOf_ok (M:=fun _=>False) (h.ext hE) hr hz hK hK2 hU) (fun W' v W'' hE hE' hP=>by
  obtain⟨u,d,b,rfl,h⟩:=hP
  exact kont u d b W'' (hE.trans hE') h)
end Go.Proofs.YthpmkcidkcmlgaaGreat
