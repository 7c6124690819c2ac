/- mat.Same; ldl.symmetric, ldl.left. -/
import Derived.Test.YthpmkcidkcmlgaaGreatW20
import Derived.Test.YthpmkcidkcmlgaaGreatW19
import Derived.Test.YthpmkcidkcmlgaaGreatW17
import Derived.Test.YthpmkcidkcmlgaaGreatLib3
import Derived.Test.YthpmkcidkcmlgaaGreatRows
import Derived.WalkKit
import Derived.ProofKit
import Derived.OpenShut
import Derived.JoinedCond
import Derived.Carry
import Derived.Deep.Strs
import Derived.Deep.Slices
import Derived.Test.YthpmkcidkcmlgaaGreatLib4
set_option linter.unusedVariables false
set_option linter.unusedSimpArgs false
set_option maxRecDepth 100000
set_option linter.unusedVariables false
set_option linter.unusedSimpArgs false
namespace Go.Proofs.YthpmkcidkcmlgaaGreat
open Go Go.SX
theorem sameRat_ok {W0:PW} {M:Nat→Prop} {s t s' t':Sl} {b b':Bool} {p q:Rat} {k:Nat} (h1:IsRat 317 W0 s b t p) (h2:IsRat 317 W0 s' b' t' q) (hp:Sz k p) (hq:Sz k q) (hk:k≤34359738368):
  PCallsM Go.Proofs.Tryz.prog 105 [.agg #[s.v,.bool b,t.v],.agg #[s'.v,.bool b',t'.v]] W0 M fun v W'=>∃(e:Bool),v = .bool e∧(e=true↔p=q):=by
 apply callmat_Same_1_1
 refine ratCmp_call h1 h2 hp hq hk hk fun W2 hE2 _=>⟨_,rfl,fun W4 hE4=>⟨_,rfl,?_⟩⟩
 rw[decide_eq_true_iff]
 exact cmpQ_zero p q
theorem sameRat_call {W0 W:PW} {M:Nat→Prop} {s t s' t':Sl} {b b':Bool} {p q:Rat} {k:Nat} {K:Value→PW→Prop} (h1:IsRat 317 W s b t p) (h2:IsRat 317 W s' b' t' q) (hp:Sz k p) (hq:Sz k q) (hk:k≤34359738368) (kont: ∀(e:Bool) (W':PW),Ext W W'→((e=true↔p=q))→K (.bool e) W'):
  callN Go.Proofs.Tryz.prog W0 M 105 [.agg #[s.v,.bool b,t.v],.agg #[s'.v,.bool b',t'.v]] W K:=
 callN_of (fun W' hE=>sameRat_ok (M:=fun _=>False) (h1.ext hE) (h2.ext hE) hp hq hk) (fun W' v W'' hE hE' hP=>by
  obtain⟨e,rfl,h⟩:=hP
  exact kont e W'' (hE.trans hE') h)
theorem eqRats_ok {W0:PW} {M:Nat→Prop} {s t:Sl} {n n' k:Nat} {f g:Nat→Rat} (h1:IsQs 317 51 W0 s n f) (h2:IsQs 317 51 W0 t n' g) (hn:n≤1099511627776) (hf: ∀i,i<n→Sz k (f i)) (hg: ∀i,i<n'→Sz k (g i)) (hk:k≤34359738368):
  PCallsM Go.Proofs.Tryz.prog 104 [s.v,t.v,.func (.func 105) #[] #[]] W0 M fun v W'=>∃(e:Bool),v = .bool e∧(e=true↔n=n'∧∀i,i<n→f i=g i):=by
 apply callslices_EqualFunc_rat_Rat_rat_Rat_rat_Rat_rat_Rat
 have n1:=h1.n
 have n2:=h2.n
 refine⟨fun hne W1 _=>⟨false,rfl,fun h=>(by cases h),fun h=>?_⟩,fun heq=>?_⟩
 ·have:=h.1
  omega
 have hnn:n=n':=by omega
 subst hnn
 refine⟨fun l W=>match l with | [.val (.int .i64 i)]=>Ext W0 W∧∃k:Nat,i=(k:Int)∧k≤n∧∀i,i<k→f i=g i | _=>False,fun l _=>match l with | [.val (.int .i64 i)]=>n-i.toNat | _=>0,⟨Ext.refl _,0,rfl,Nat.zero_le _,fun i h=>(by omega)⟩,?_⟩
 rintro i4 W5 ⟨hE5,j,rfl,hj,hfg⟩
 have a5:=h1.ext hE5
 have b5:=h2.ext hE5
 refine⟨fun hlt=>?_,fun hge W16 _=>⟨true,rfl,fun _=>⟨rfl,fun i hi=>hfg i (by omega)⟩,fun _=>rfl⟩⟩
 obtain⟨s6,b7,s8,e1,e2⟩:=a5.at (i:=j) (by omega)
 obtain⟨s9,b10,s11,f1,f2⟩:=b5.at (i:=j) (by omega)
 refine⟨a5.inB (by omega) (by omega),s6,b7,s8,e1,b5.inB (by omega) (by omega),s9,b10,s11,f1,?_⟩
 refine sameRat_call e2 f2 (hf j (by omega)) (hg j (by omega)) hk fun b14 W13 hE13 hb=>⟨b14,rfl,fun hne W15 _=>⟨false,rfl,fun h=>(by cases h),fun h=>?_⟩,fun heq=>⟨by unfold I64;omega,⟨hE5.trans hE13,j+1,by push_cast;rfl,by omega,fun i hi=>?_⟩,?_⟩⟩
 ·rw[hb.2 (h.2 j (by omega))] at hne
  cases hne
 ·by_cases e:i=j
  ·subst e
   exact hb.1 (by simpa using heq)
  ·exact hfg i (by omega)
 ·show n-Int.toNat ((j:Int)+1)<n-Int.toNat (j:Int)
  omega
theorem eqRats_call {W0 W:PW} {M:Nat→Prop} {s t:Sl} {n n' k:Nat} {f g:Nat→Rat} {K:Value→PW→Prop} (h1:IsQs 317 51 W s n f) (h2:IsQs 317 51 W t n' g) (hn:n≤1099511627776) (hf: ∀i,i<n→Sz k (f i)) (hg: ∀i,i<n'→Sz k (g i)) (hk:k≤34359738368) (kont: ∀(e:Bool) (W':PW),Ext W W'→((e=true↔n=n'∧∀i,i<n→f i=g i))→K (.bool e) W'):
  callN Go.Proofs.Tryz.prog W0 M 104 [s.v,t.v,.func (.func 105) #[] #[]] W K:=
 callN_of (fun W' hE=>eqRats_ok (M:=fun _=>False) (h1.ext hE) (h2.ext hE) hn hf hg hk) (fun W' v W'' hE hE' hP=>by
  obtain⟨e,rfl,h⟩:=hP
  exact kont e W'' (hE.trans hE') h)
theorem sameRow_ok {W0:PW} {M:Nat→Prop} {s t:Sl} {n n' k:Nat} {f g:Nat→Rat} (h1:IsQs 317 51 W0 s n f) (h2:IsQs 317 51 W0 t n' g) (hn:n≤1099511627776) (hf: ∀i,i<n→Sz k (f i)) (hg: ∀i,i<n'→Sz k (g i)) (hk:k≤34359738368):
  PCallsM Go.Proofs.Tryz.prog 103 [s.v,t.v] W0 M fun v W'=>∃(e:Bool),v = .bool e∧(e=true↔n=n'∧∀i,i<n→f i=g i):=by
 apply callmat_Same_1
 exact eqRats_call h1 h2 hn hf hg hk fun b W2 hE2 hb=>⟨b,rfl,fun W4 hE4=>⟨b,rfl,hb⟩⟩
theorem sameRow_call {W0 W:PW} {M:Nat→Prop} {s t:Sl} {n n' k:Nat} {f g:Nat→Rat} {K:Value→PW→Prop} (h1:IsQs 317 51 W s n f) (h2:IsQs 317 51 W t n' g) (hn:n≤1099511627776) (hf: ∀i,i<n→Sz k (f i)) (hg: ∀i,i<n'→Sz k (g i)) (hk:k≤34359738368) (kont: ∀(e:Bool) (W':PW),Ext W W'→((e=true↔n=n'∧∀i,i<n→f i=g i))→K (.bool e) W'):
  callN Go.Proofs.Tryz.prog W0 M 103 [s.v,t.v] W K:=
 callN_of (fun W' hE=>sameRow_ok (M:=fun _=>False) (h1.ext hE) (h2.ext hE) hn hf hg hk) (fun W' v W'' hE hE' hP=>by
  obtain⟨e,rfl,h⟩:=hP
  exact kont e W'' (hE.trans hE') h)
def SameP (r r':Nat) (c c':Nat→Nat) (m m':Nat→Nat→Rat):Prop:=r=r'∧∀i,i<r→c i=c' i∧∀j,j<c i→m i j=m' i j
theorem eqRows_ok {W0:PW} {M:Nat→Prop} {s t:Sl} {r r' k:Nat} {c c':Nat→Nat} {m m':Nat→Nat→Rat} (h1:IsMat 317 51 100 W0 s r c m) (h2:IsMat 317 51 100 W0 t r' c' m') (hr:r≤1099511627776) (hc: ∀i,i<r→c i≤1099511627776) (hf: ∀i j,i<r→j<c i→Sz k (m i j)) (hg: ∀i j,i<r'→j<c' i→Sz k (m' i j)) (hk:k≤34359738368):
  PCallsM Go.Proofs.Tryz.prog 102 [s.v,t.v,.func (.func 103) #[] #[]] W0 M fun v W'=>∃(e:Bool),v = .bool e∧(e=true↔SameP r r' c c' m m'):=by
 apply callslices_EqualFunc_mat_Mat_mat_Mat_rat_Rat_rat_Rat
 have n1:=h1.n
 have n2:=h2.n
 refine⟨fun hne W1 _=>⟨false,rfl,fun h=>(by cases h),fun h=>?_⟩,fun heq=>?_⟩
 ·have:=h.1
  omega
 have hnn:r=r':=by omega
 subst hnn
 refine⟨fun l W=>match l with | [.val (.int .i64 i)]=>Ext W0 W∧∃k:Nat,i=(k:Int)∧k≤r∧∀i,i<k→c i=c' i∧∀j,j<c i→m i j=m' i j | _=>False,fun l _=>match l with | [.val (.int .i64 i)]=>r-i.toNat | _=>0,⟨Ext.refl _,0,rfl,Nat.zero_le _,fun i h=>(by omega)⟩,?_⟩
 rintro i4 W5 ⟨hE5,j,rfl,hj,hfg⟩
 have a5:=h1.ext hE5
 have b5:=h2.ext hE5
 refine⟨fun hlt=>?_,fun hge W16 _=>⟨true,rfl,fun _=>⟨rfl,fun i hi=>hfg i (by omega)⟩,fun _=>rfl⟩⟩
 obtain⟨x,e1,e2⟩:=a5.at (i:=j) (by omega)
 obtain⟨y,f1,f2⟩:=b5.at (i:=j) (by omega)
 refine⟨a5.inB (by omega) (by omega),x,e1,b5.inB (by omega) (by omega),y,f1,?_⟩
 refine sameRow_call e2 f2 (hc j (by omega)) (fun i hi=>hf j i (by omega) hi) (fun i hi=>hg j i (by omega) hi) hk fun b14 W13 hE13 hb=>⟨b14,rfl,fun hne W15 _=>⟨false,rfl,fun h=>(by cases h),fun h=>?_⟩,fun heq=>⟨by unfold I64;omega,⟨hE5.trans hE13,j+1,by push_cast;rfl,by omega,fun i hi=>?_⟩,?_⟩⟩
 ·rw[hb.2 (h.2 j (by omega))] at hne
  cases hne
 ·by_cases e:i=j
  ·subst e
   exact hb.1 (by simpa using heq)
  ·exact hfg i (by omega)
 ·show r-Int.toNat ((j:Int)+1)<r-Int.toNat (j:Int)
  omega
theorem eqRows_call {W0 W:PW} {M:Nat→Prop} {s t:Sl} {r r' k:Nat} {c c':Nat→Nat} {m m':Nat→Nat→Rat} {K:Value→PW→Prop} (h1:IsMat 317 51 100 W s r c m) (h2:IsMat 317 51 100 W t r' c' m') (hr:r≤1099511627776) (hc: ∀i,i<r→c i≤1099511627776) (hf: ∀i j,i<r→j<c i→Sz k (m i j)) (hg: ∀i j,i<r'→j<c' i→Sz k (m' i j)) (hk:k≤34359738368) (kont: ∀(e:Bool) (W':PW),Ext W W'→((e=true↔SameP r r' c c' m m'))→K (.bool e) W'):
  callN Go.Proofs.Tryz.prog W0 M 102 [s.v,t.v,.func (.func 103) #[] #[]] W K:=
 callN_of (fun W' hE=>eqRows_ok (M:=fun _=>False) (h1.ext hE) (h2.ext hE) hr hc hf hg hk) (fun W' v W'' hE hE' hP=>by
  obtain⟨e,rfl,h⟩:=hP
  exact kont e W'' (hE.trans hE') h)
theorem matSame_ok {W0:PW} {M:Nat→Prop} {s t:Sl} {r r' k:Nat} {c c':Nat→Nat} {m m':Nat→Nat→Rat} (h1:IsMat 317 51 100 W0 s r c m) (h2:IsMat 317 51 100 W0 t r' c' m') (hr:r≤1099511627776) (hr':r'≤1099511627776) (hf: ∀i j,i<r→j<c i→Sz k (m i j)) (hg: ∀i j,i<r'→j<c' i→Sz k (m' i j)) (hk:k≤34359738368):
  PCallsM Go.Proofs.Tryz.prog 23 [s.v,t.v] W0 M fun v W'=>∃(e:Bool),v = .bool e∧(e=true↔RightP r c∧RightP r' c'∧SameP r r' c c' m m'):=by
 apply callmat_Same
 refine matRight_call h1 hr fun b W2 hE2 hb=>⟨b,rfl,fun ht=>?_,fun hf W16 _=>⟨false,rfl,fun h=>(by cases h),fun h=>?_⟩⟩
 ·have hR:=hb.1 ht
  refine matRight_call (h2.ext hE2) hr' fun b' W5 hE5 hb'=>⟨b',rfl,fun ht'=>?_,fun hf' W11 _=>⟨false,rfl,fun h=>(by cases h),fun h=>?_⟩⟩
  ·have hR':=hb'.1 ht'
   refine eqRows_call ((h1.ext hE2).ext hE5) ((h2.ext hE2).ext hE5) hr (fun i hi=>by have:=hR.1 i hi;have:=hR.2.2.2.2;omega) hf hg hk fun b9 W8 hE8 hb9=>⟨b9,rfl,fun W10 _=>⟨b9,rfl,?_⟩⟩
   rw[hb9]
   exact⟨fun h=>⟨hR,hR',h⟩,fun h=>h.2.2⟩
  ·rw[hb'.2 h.2.1] at hf'
   cases hf'
 ·rw[hb.2 h.1] at hf
  cases hf
theorem matSame_call {W0 W:PW} {M:Nat→Prop} {s t:Sl} {r r' k:Nat} {c c':Nat→Nat} {m m':Nat→Nat→Rat} {K:Value→PW→Prop} (h1:IsMat 317 51 100 W s r c m) (h2:IsMat 317 51 100 W t r' c' m') (hr:r≤1099511627776) (hr':r'≤1099511627776) (hf: ∀i j,i<r→j<c i→Sz k (m i j)) (hg: ∀i j,i<r'→j<c' i→Sz k (m' i j)) (hk:k≤34359738368) (kont: ∀(e:Bool) (W':PW),Ext W W'→((e=true↔RightP r c∧RightP r' c'∧SameP r r' c c' m m'))→K (.bool e) W'):
  callN Go.Proofs.Tryz.prog W0 M 23 [s.v,t.v] W K:=
 callN_of (fun W' hE=>matSame_ok (M:=fun _=>False) (h1.ext hE) (h2.ext hE) hr hr' hf hg hk) (fun W' v W'' hE hE' hP=>by
  obtain⟨e,rfl,h⟩:=hP
  exact kont e W'' (hE.trans hE') h)
end Go.Proofs.YthpmkcidkcmlgaaGreat

/- cincturelaw13.GramMatrices. -/
set_option maxRecDepth 100000
set_option linter.unusedVariables false
set_option linter.unusedSimpArgs false
namespace Go.Proofs.YthpmkcidkcmlgaaGreat
open Go Go.SX
def gzI (W0:PW) (n:Nat) (L:List PL) (W:PW):Prop:=match L with
 | [.row l,.val (.int .i64 i)]=>∃j:Nat,i=(j:Int)∧j≤n∧Ext W0 W∧All2 (PolyX 317 188 W) l ((List.range j).map fun t:Nat=>varP (t:Int))
 | _=>False
theorem cst_int1:pnorm [((⟨0,0,0⟩:Mon),((1:Int):Rat))]=cst 1:=rfl
theorem gramMatrices_ok {W0:PW} {M:Nat→Prop} {s:Sl} {L:List (Mon×ByteArray)} {n:Int} (h1:IsAPoly W0 s L) (l1:L.length≤1099511627776) (z1: ∀t∈L,t.2.size≤1099511627776):
  PCallsM Go.Proofs.Tryz.prog 3 [s.v,.int .i64 n] W0 M fun v W'=>v = .bool true∧True:=by
 apply calllaw13_GramMatrices
 have alv: ∀W,callN Go.Proofs.Tryz.prog W0 M 13 [] W fun v11 W12=>∃b13:Bool,v11 = .bool b13∧∀(W14:PW),Ext W12 W14→Value.bool b13 = .bool true∧True:=fun W=>law13alive_call fun W12 _ _=>⟨true,rfl,fun W14 _=>⟨rfl,trivial⟩⟩
 refine law8Of_call h1 l1 z1 fun s3 s4 b5 W2 hE2 g1=>⟨s3,s4,b5,rfl,fun _=>alv _,fun hb5=>law13alive_call fun W11 hE11 _=>⟨true,rfl,fun e=>(by cases e),fun _=>?_⟩⟩
 obtain⟨p,op,p1,p2⟩:=g1 (by simpa using hb5)
 have lp:=op.len
 have hG:=op.1.good
 have hok:=p1.ok
 refine gramMatrix_call (p1.ext hE11) hG op.1.sz (by omega) fun s19 b20 W18 hE18 ⟨m1,m2,m3⟩=>⟨s19,b20,rfl,?_⟩
 refine refMatrix_call (p2.ext (hE11.trans hE18)) hG op.1.sz (by omega) fun s23 b24 W22 hE22 ⟨k1,k2,k3⟩=>⟨s23,b24,rfl,?_⟩
 have hbb:b20=b24:=by
  have:=m1.trans k1.symm
  cases b20<;>cases b24<;>simp_all
 subst hbb
 refine⟨fun h=>absurd rfl h,fun _=>?_⟩
 cases b20 with
 | false=>
  obtain rfl:=m3 rfl
  obtain rfl:=k3 rfl
  have hm0:IsMat 317 51 100 W22 ⟨none,0,0⟩ 0 (fun _=>0) (fun _ _=>0):=⟨[],⟨rfl,Nat.le_refl _,by simp[maxLen],by simp,.inl rfl⟩,rfl,fun i hi=>absurd hi (Nat.not_lt_zero i)⟩
  have hr0:IsRMat 317 92 193 W22 ⟨none,0,0⟩ 0 (fun _=>0) (fun _ _=>0):=⟨[],⟨rfl,Nat.le_refl _,by simp[maxLen],by simp,.inl rfl⟩,rfl,fun i hi=>absurd hi (Nat.not_lt_zero i)⟩
  exact law11Is_call (k:=1) (s:=⟨none,0,0⟩) (t:=⟨none,0,0⟩) hm0 hr0 (by omega) (fun i hi=>by omega) (fun i j hi=>by omega) (by omega) (fun i hi=>by omega) fun W27 hE27 _=>⟨true,rfl,fun e=>(by cases e),fun _=>⟨fun _ W30 _=>⟨rfl,trivial⟩,fun e=>(by cases e)⟩⟩
 | true=>
  obtain⟨hn1,hn3,hdeg,hvar⟩:=m1.1 rfl
  have hm:=(m2 rfl).ext hE22
  have hr:=k2 rfl
  obtain⟨c,rfl⟩:=Int.eq_ofNat_of_zero_le (show 0≤n by omega)
  rw[Int.toNat_natCast] at hm hr
  have hd: ∀t∈p,t.1.deg≤2:=fun t ht=>by have:=(le_maxf (w:=Mon.deg) (n:=-1) (p:=p)).2 t ht;omega
  have hv: ∀t∈p,varsM t.1≤(c:Int):=fun t ht=>by have:=(le_maxf (w:=varsM) (n:=0) (p:=p)).2 t ht;omega
  have hsm: ∀i j,Sz 4001 (gmat c p i j):=gmat_sz (by omega) p _ (fun _ _=>Sz.zero (by omega)) op.1.sz
  refine law11Is_call hm hr (by omega) (fun i _=>by omega) (fun i j _ _=>hsm i j) (by omega) (fun i _=>⟨rfl,fun j _=>rfl⟩) fun W27 hE27 _=>⟨true,rfl,fun e=>(by cases e),fun _=>⟨fun e=>(by cases e),fun _=>?_⟩⟩
  refine⟨gzI W27 c,fun L _=>match L with | [_,.val (.int .i64 i)]=>c-i.toNat | _=>0,⟨0,rfl,Nat.zero_le _,Ext.refl _,trivial⟩,?_⟩
  rintro l33 i34 W35 ⟨j,rfl,hj,hE35,hl⟩
  have hll:=hl.len
  simp only[List.length_map,List.length_range] at hll
  refine⟨fun hlt=>polyVar_call fun s38 W37 hE37 h38=>⟨s38,rfl,by simp;omega,by unfold I64;omega,⟨j+1,by push_cast;rfl,by omega,hE35.trans hE37,?_⟩,?_⟩,fun hge=>?_⟩
  ·rw[List.range_succ,List.map_append]
   exact(hl.mono fun _ _ h=>h.ext hE37).append ⟨⟨s38,rfl,h38⟩,trivial⟩
  ·show c-Int.toNat ((j:Int)+1)<c-Int.toNat (j:Int)
   omega
  have:j=c:=by omega
  subst this
  refine ratOf_call (z:=1) (by unfold I64;omega) fun s41 b42 s43 W40 hE40 h40=>⟨s41,b42,s43,rfl,polyConst_call h40 (Sz.one (show 1≤1 by omega)) (by omega) fun s46 W45 hE45 h45=>⟨s46,rfl,by simp;omega,fun s47 W48 hE48 hO48 _=>?_⟩⟩
  rw[cst_int1] at h45
  have hE:=(hE40.trans hE45).trans hE48
  have hps:Ps W48 s47 (zs j):=⟨_,⟨_,hO48.row⟩,(hl.mono fun _ _ h=>h.ext hE).append ⟨⟨s46,rfl,h45.ext hE48⟩,trivial⟩⟩
  have hm48:=hm.ext (hE27.trans (hE35.trans hE))
  refine gramForm_call hps hm48 (zs_sys (by omega)) (by omega) hsm fun s51 W50 hE50 h50=>⟨s51,_,rfl,?_⟩
  have hF:=form_gmat (show 1≤j by omega) (by omega) hG hok hd hv hsm
  rw[hF] at h50⊢
  have h50:IsPoly 317 188 W50 s51 p:=h50
  have hnn:NewFrom W50.w.heap.size W50:=Nat.le_refl _
  have hm50:=hm48.ext hE50
  refine matTurn_call hnn hm50 (by omega) fun s55 b56 W54 hE54 ⟨t1,t2⟩=>⟨s55,b56,rfl,fun _=>?_,fun e=>(by cases e)⟩
  have hRP:RightP (j+1) (fun _=>j+1):=⟨fun _ _=>rfl,by omega,by omega,by dsimp only;omega,by dsimp only;omega⟩
  have ht:=(t2 hRP).mat
  refine⟨fun _=>?_,fun e=>absurd (t1.2 hRP) (by rw[e];exact Bool.false_ne_true)⟩
  refine polySame_call (h50.ext hE54) (p1.ext (hE11.trans (hE18.trans (hE22.trans (hE27.trans (hE35.trans (hE.trans (hE50.trans hE54)))))))) op.1.sz op.1.sz (by omega) (by omega) fun W58 hE58 _=>⟨_,rfl,fun _=>?_,fun e=>absurd e (by simp)⟩
  refine matSame_call (ht.ext hE58) (hm50.ext (hE54.trans hE58)) (by omega) (by omega) (fun a b _ _=>hsm b a) (fun a b _ _=>hsm a b) (by omega) fun e W61 hE61 he=>⟨e,rfl,fun W63 _=>⟨?_,trivial⟩⟩
  rw[he.2 ⟨hRP,hRP,rfl,fun i _=>⟨rfl,fun k _=>gmat_sym j p _ (fun _ _=>rfl) k i⟩⟩]
end Go.Proofs.YthpmkcidkcmlgaaGreat

/- Arguments opened: what every kind of argument needs. -/
set_option maxRecDepth 100000
set_option linter.unusedVariables false
set_option linter.unusedSimpArgs false
namespace Go.Proofs.YthpmkcidkcmlgaaGreat
open Go Go.SX Go.ChangeShapes Go.WideShapes Go.ChangeAt Go.RowKit Go.Deep
theorem ownKnob_none:ownKnob Go.Proofs.Tryz.prog.godebug=none:=by kernel_rfl
theorem laidOut:laidOutB Go.Proofs.Tryz.prog=true:=by kernel_rfl
theorem cells_str:Go.Proofs.Tryz.prog.cellsOf 9=1:=by kernel_rfl
theorem cell_block {W:World} {b o:Nat} {v:Value} (h:W.cell? ⟨b,o,none⟩=some v): ∃cs t fz,W.heap[b]?=some (.cells cs t fz)∧cs[o]?=some v:=by
 unfold World.cell? at h
 cases e:W.heap[b]? with
 | none=>simp[e] at h
 | some ob=>
  cases ob with
  | cells cs t fz=>exact⟨cs,t,fz,rfl,by simpa[e] using h⟩
  | _=>simp[e] at h
theorem bulk_one {H:Type} (d:DataW H):1≤Rows.uptoBulk d:=by
 cases d with
 | lit l=>cases l<;>simp[Rows.uptoBulk]
 | nil=>simp[Rows.uptoBulk]
 | ptr d=>simp[Rows.uptoBulk]
 | slice elems spare=>simp[Rows.uptoBulk]
 | agg parts=>simp[Rows.uptoBulk]
 | iface t d=>simp[Rows.uptoBulk]
 | map entries=>simp[Rows.uptoBulk]
 | held h=>simp[Rows.uptoBulk]
theorem bulk_part {H:Type} {d:DataW H} {l:List (DataW H)} (h:d∈l):Rows.uptoBulk d≤Rows.uptoBulkAll l:=by
 induction l with
 | nil=>cases h
 | cons x r ih=>
  simp only[Rows.uptoBulkAll]
  cases List.mem_cons.1 h with
  | inl e=>subst e;omega
  | inr e=>have:=ih e;omega
theorem bulk_length {H:Type} (l:List (DataW H)):l.length≤Rows.uptoBulkAll l:=by
 induction l with
 | nil=>simp[Rows.uptoBulkAll]
 | cons x r ih=>have:=bulk_one x;simp only[Rows.uptoBulkAll,List.length_cons];omega
theorem rowA_of_cellsN {W:World} {a:Addr} {n c sz:Nat} {V:Nat→List Value} (h: ∀j,j<n→∀i v,(V j)[i]?=some v→W.cell? (a.add (j*sz+i))=some v) (hV: ∀j,j<n→(V j).length=sz) (hsz:0<sz) (hn:n≤c) (hc:c≤maxLen) (h1: ∀j,j<n→∀u∈V j,u.oneCell'=true):
  RowA ⟨W,fun _=>False⟩ sz ⟨some a,n,c⟩ ((List.range n).map V):=by
 have hel: ∀x∈(List.range n).map V,x.length=sz∧∀u∈x,u.oneCell'=true:=by
  intro x hx
  obtain⟨j,hj,rfl⟩:=List.mem_map.1 hx
  exact⟨hV j (List.mem_range.1 hj),h1 j (List.mem_range.1 hj)⟩
 by_cases h0:n=0
 ·subst h0
  exact⟨0,rfl,Nat.zero_le _,hc,hel,.inl rfl⟩
 ·obtain⟨b,off,sp⟩:=a
  have hlen0:=hV 0 (by omega)
  obtain⟨v0,hv0⟩: ∃v,(V 0)[0]?=some v:=⟨_,List.getElem?_eq_getElem (by omega)⟩
  have hc0:=h 0 (by omega) 0 v0 hv0
  have hsp:sp=none:=by simpa[Addr.add] using World.cell?_spot hc0
  subst hsp
  obtain⟨cs,t,fz,hh,_⟩:=cell_block (by rw[←add_plain];exact hc0)
  refine⟨t,by simp,hn,hc,hel,.inr ⟨b,off,cs,fz,rfl,id,hh,fun j v hj=>?_⟩⟩
  have hjl:=(List.getElem?_eq_some_iff.1 hj).1
  rw[flatten_length (sz:=sz) (fun x hx=>(hel x hx).1)] at hjl
  simp only[List.length_map,List.length_range] at hjl
  have hi:j/sz<n:=(Nat.div_lt_iff_lt_mul hsz).2 hjl
  have hm:j%sz<sz:=Nat.mod_lt _ hsz
  have e:j/sz*sz+j%sz=j:=by rw[Nat.mul_comm];exact Nat.div_add_mod j sz
  have hx:((List.range n).map V)[j/sz]?=some (V (j/sz)):=by simp[hi]
  have hl:=hV _ hi
  have hf:=flatten_at (sz:=sz) (fun x hx=>(hel x hx).1) hx (j:=j%sz) (v:=(V (j/sz))[j%sz]'(by omega)) (List.getElem?_eq_getElem (by omega))
  rw[e,hj] at hf
  have hcell:=h _ hi (j%sz) v (by rw[hf];exact List.getElem?_eq_getElem (by omega))
  rw[e,add_plain] at hcell
  obtain⟨cs',t',fz',hh',hv⟩:=cell_block hcell
  rw[hh] at hh'
  cases hh'
  exact hv
end Go.Proofs.YthpmkcidkcmlgaaGreat

/- An argument that is a slice of terms with texts, opened. -/
set_option maxRecDepth 100000
set_option linter.unusedVariables false
set_option linter.unusedSimpArgs false
namespace Go.Proofs.YthpmkcidkcmlgaaGreat
open Go Go.SX Go.ChangeShapes Go.WideShapes Go.ChangeAt Go.RowKit Go.Deep
instance:Inhabited (Mon×ByteArray):=⟨(⟨0,0,0⟩,⟨#[]⟩)⟩
theorem cells_term:Go.Proofs.Tryz.prog.cellsOf 185=4:=by kernel_rfl
theorem cells_mono:Go.Proofs.Tryz.prog.cellsOf 183=3:=by kernel_rfl
theorem cells_u8:Go.Proofs.Tryz.prog.cellsOf 5=1:=by kernel_rfl
theorem u8_ok {n:Int} (h:(Lit.int .u8 n).wf=true):0≤n∧n≤255:=by
 simp[Lit.wf,IntKind.min,IntKind.max,IntKind.bits,IntKind.signed] at h
 omega
theorem open_term {H:Type} {enc:TypeId×Value→H} {W:World} {fuel:Nat} {cs:List Value} {x:DataW H×List MemPlace} (h:DataW.trod enc Go.Proofs.Tryz.prog W 0 (fun _=>true) true fuel 185 cs=some x):
  ∃t:Mon×ByteArray,AT cs t∧t.2.size≤Rows.uptoBulk x.1:=by
 obtain⟨xs,k,rfl,rfl,hl,hxl,hf⟩:=DataW.trod_struct Go.Proofs.Tryz.underlying185 h
 rw[cells_term] at hl
 have g0:DataW.trod enc Go.Proofs.Tryz.prog W 0 (fun _=>true) true k 183 ((cs.drop 0).take (Go.Proofs.Tryz.prog.cellsOf 183))=xs[0]?:=hf 0 _ rfl
 have g1:DataW.trod enc Go.Proofs.Tryz.prog W 0 (fun _=>true) true k 9 ((cs.drop 3).take (Go.Proofs.Tryz.prog.cellsOf 9))=xs[1]?:=hf 1 _ rfl
 rw[cells_mono] at g0
 rw[cells_str] at g1
 match cs,hl,xs,hxl with
 | [v0,v1,v2,v3],_,[y0,y1],_=>
  have g0:DataW.trod enc Go.Proofs.Tryz.prog W 0 (fun _=>true) true k 183 [v0,v1,v2]=some y0:=g0
  have g1:DataW.trod enc Go.Proofs.Tryz.prog W 0 (fun _=>true) true k 9 [v3]=some y1:=g1
  obtain⟨zs,m,rfl,rfl,_,hzl,hz⟩:=DataW.trod_array Go.Proofs.Tryz.underlying183 g0
  obtain⟨s,hs,rfl,hsz⟩:=DataW.trod_string Go.Proofs.Tryz.underlying9 g1
  have e0:=hz 0 (by omega)
  have e1:=hz 1 (by omega)
  have e2:=hz 2 (by omega)
  rw[cells_u8] at e0 e1 e2
  match zs,hzl with
  | [w0,w1,w2],_=>
   have e0:DataW.trod enc Go.Proofs.Tryz.prog W 0 (fun _=>true) true m 5 [v0]=some w0:=e0
   have e1:DataW.trod enc Go.Proofs.Tryz.prog W 0 (fun _=>true) true m 5 [v1]=some w1:=e1
   have e2:DataW.trod enc Go.Proofs.Tryz.prog W 0 (fun _=>true) true m 5 [v2]=some w2:=e2
   obtain⟨n0,h0,_,k0⟩:=DataW.trod_int Go.Proofs.Tryz.underlying5 e0
   obtain⟨n1,h1,_,k1⟩:=DataW.trod_int Go.Proofs.Tryz.underlying5 e1
   obtain⟨n2,h2,_,k2⟩:=DataW.trod_int Go.Proofs.Tryz.underlying5 e2
   have hs: [v3] = [Value.string s]:=hs
   have h0: [v0] = [Value.int .u8 n0]:=h0
   have h1: [v1] = [Value.int .u8 n1]:=h1
   have h2: [v2] = [Value.int .u8 n2]:=h2
   simp only[List.cons.injEq,and_true] at hs h0 h1 h2
   subst hs h0 h1 h2
   refine⟨(⟨n0,n1,n2⟩,s),⟨⟨u8_ok k0,u8_ok k1,u8_ok k2⟩,rfl⟩,?_⟩
   have e:s.data.toList.length=s.size:=by rw[Array.length_toList];rfl
   simp only[List.map_cons,List.map_nil,Rows.uptoBulk,Rows.uptoBulkAll]
   omega
theorem all2_map {n:Nat} {V:Nat→List Value} {y:Nat→Mon×ByteArray} (h: ∀i,i<n→AT (V i) (y i)):All2 AT ((List.range n).map V) ((List.range n).map y):=by
 induction n with
 | zero=>trivial
 | succ n ih=>
  rw[List.range_succ,List.map_append,List.map_append]
  exact(ih fun i hi=>h i (by omega)).append ⟨h n (by omega),trivial⟩
theorem open_terms {H:Type} {enc:TypeId×Value→H} {W:World} {fuel:Nat} {v:Value} {d:DataW H} {p:List MemPlace} (h:DataW.trod enc Go.Proofs.Tryz.prog W 0 (fun _=>true) true fuel 22 [v]=some (d,p)):
  ∃(s:Sl) (L:List (Mon×ByteArray)),v=s.v∧IsAPoly ⟨W,fun _=>False⟩ s L∧L.length≤Rows.uptoBulk d∧∀t∈L,t.2.size≤Rows.uptoBulk d:=by
 rcases open_slice Go.Proofs.Tryz.underlying22 h with⟨hcs,hx⟩ | ⟨a,len,cap,m,n,D,Pl,hcs,_,hl,hm,hmm,hx,hcell⟩
 ·have hv:v = .slice none 0 0:=by simpa using hcs
  subst hv
  exact⟨⟨none,0,0⟩,[],rfl,⟨[],⟨0,rfl,Nat.le_refl _,Nat.zero_le _,fun x h=>by simp at h,.inl rfl⟩,trivial⟩,Nat.zero_le _,fun l h=>by simp at h⟩
 ·have hv:v = .slice (some a) len cap:=by simpa using hcs
  subst hv
  simp only[if_true] at hmm
  subst hmm
  simp only[Prod.mk.injEq] at hx
  obtain⟨rfl,_⟩:=hx
  rw[cells_term] at hcell
  obtain⟨q,hq⟩: ∃q:Nat→List Value×(Mon×ByteArray),∀i,i<m→W.cells? 0 (a.add (i*4)) 4=some (q i).1∧AT (q i).1 (q i).2∧(q i).2.2.size≤Rows.uptoBulk (D i):=choose_lt (α:=List Value×(Mon×ByteArray)) (p:=fun i q=>W.cells? 0 (a.add (i*4)) 4=some q.1∧AT q.1 q.2∧q.2.2.size≤Rows.uptoBulk (D i)) fun i hi=>by
   obtain⟨cs',h1,h2⟩:=hcell i hi
   obtain⟨t,h3,h4⟩:=open_term h2
   exact⟨(cs',t),h1,h3,h4⟩
  have hr:=rowA_of_cellsN (W:=W) (a:=a) (n:=len) (c:=m) (sz:=4) (V:=fun i=>(q i).1) (fun j hj i v hv=>by
   obtain⟨_,hlen,hc⟩:=World.cells?_some (hq j (by omega)).1
   have hi:i<4:=by have:=(List.getElem?_eq_some_iff.1 hv).1;omega
   have:=hc i hi
   rw[add_add] at this
   rw[this];exact hv) (fun j hj=>(World.cells?_some (hq j (by omega)).1).2.1) (by omega) hl hm (fun j hj u hu=>by
   rw[(hq j (by omega)).2.1.2] at hu
   simp only[List.mem_cons,List.not_mem_nil,or_false] at hu
   rcases hu with rfl | rfl | rfl | rfl<;>rfl)
  have hbulk: ∀i,i<len→Rows.uptoBulk (D i)≤Rows.uptoBulkAll ((List.range len).map D):=fun i hi=>bulk_part (List.mem_map.2 ⟨i,List.mem_range.2 hi,rfl⟩)
  have hlen:=bulk_length ((List.range len).map D)
  simp only[List.length_map,List.length_range] at hlen
  refine⟨⟨some a,len,m⟩,(List.range len).map fun i=>(q i).2,rfl,⟨_,hr,all2_map fun i hi=>(hq i (by omega)).2.1⟩,?_,fun t ht=>?_⟩
  ·simp only[List.length_map,List.length_range,Rows.uptoBulk]
   omega
  ·obtain⟨j,hj,rfl⟩:=List.mem_map.1 ht
   have hj':=List.mem_range.1 hj
   have h1:=hbulk j hj'
   have h2:=(hq j (by omega)).2.2
   simp only[Rows.uptoBulk]
   omega
end Go.Proofs.YthpmkcidkcmlgaaGreat

/- cincturelaw13.GramMatrices answers true for every input whose bulk is at most 1048576 (the second form), and its arguments read behind the call as they did ahead of it. -/
set_option maxRecDepth 100000
set_option linter.unusedVariables false
set_option linter.unusedSimpArgs false
namespace Go.Proofs.YthpmkcidkcmlgaaGreat
open Go Go.SX Go.ChangeShapes Go.WideShapes Go.ChangeAt Go.RowKit Go.Deep
theorem contract (H:Type) (enc:TypeId×Value→H) (W:World) (base:Nat) (args:Array Value) (ds gs:List (DataW H)) (before:List MemPlace)
  (hval: ∀(j:Nat) t v,Go.Proofs.Tryz.f3.params[j]?=some t→args[j]?=some v→Value.okWide Go.Proofs.Tryz.prog W .any base t v)
  (hW:DataW.Whole enc Go.Proofs.Tryz.prog Go.Proofs.Tryz.f3.params.toList Rows.gramMatricesSpec.vars false W args.toList ds gs before) (hk:Rows.uptoSmall H (ds ++ gs)=true):
  Calls Go.Proofs.Tryz.prog 3 args W fun e W'=>∃v,e = .returned v∧Rows.gramMatricesSpec.post enc Go.Proofs.Tryz.prog Go.Proofs.Tryz.f3 false true false false W args v W':=by
 have hW':=hW
 obtain⟨p,q,hA0,hV,rfl,hfz,hnd⟩:=hW
 have hA:DataW.TrodAll enc Go.Proofs.Tryz.prog W 0 (fun _=>true) true Go.Proofs.Tryz.f3.params.toList args.toList ds p:=hA0
 rw[Go.Proofs.Tryz.params3] at hA hval
 obtain⟨v0,vs0,d0,ds0,p0,q0,hargs,rfl,rfl,h0,r0⟩:=trodAll_cons hA
 obtain⟨v1,vs1,d1,ds1,p1,q1,rfl,rfl,rfl,h1,r1⟩:=trodAll_cons r0
 obtain⟨rfl,rfl,rfl⟩:=trodAll_nil r1
 obtain rfl:args = #[v0,v1]:=by cases args;simp_all
 obtain⟨rfl,rfl⟩:=trodVars_none hV
 obtain⟨a0,n0,c0,rfl⟩:=okWide_slice Go.Proofs.Tryz.underlying22 (hval 0 22 v0 rfl rfl)
 obtain⟨z1,rfl⟩:=okWide_int Go.Proofs.Tryz.underlying3 (hval 1 3 v1 rfl rfl)
 clear hA0
 simp only[List.append_nil] at hW' hk
 have hlt: ∀x∈p0 ++ p1,x.block<W.heap.size:=fun x hx=>by simpa using hW'.lt x (by simpa using hx)
 have hbulk:Rows.uptoBulkAll [d0,d1]≤1048576:=of_decide_eq_true hk
 simp only[Rows.uptoBulkAll] at hbulk
 have h0k:=h0
 obtain⟨fuel0,hf0⟩:=h0
 have hf0':DataW.trod enc Go.Proofs.Tryz.prog W 0 (fun _=>true) true fuel0 22 [.slice a0 n0 c0]=some (d0,p0):=by simpa[Value.cells] using hf0
 obtain⟨s0,L0,hs0,hL0,hb0,hc0⟩:=open_terms hf0'
 have h1k:=h1
 have hc:=gramMatrices_ok (M:=fun _=>False) (n:=z1) hL0 (by omega) (fun t ht=>by have:=hc0 t ht;omega)
 have hcall:=hc.2 (fun b h=>h.elim)
 rw[hs0]
 refine hcall.mono fun e W' ⟨v,he,hkeep,hv,_⟩=>⟨v,he,?_⟩
 subst hv
 have hbel:=hkeep.below
 refine⟨[d0,d1],[],_,[],p0 ++ p1,[],(by rw[←hs0];simpa using hW'),trodAll_mk1 (shut_bool Go.Proofs.Tryz.underlying4 _),(by rw[←hs0];exact trodAll_mk2 (Below.trod laidOut (by kernel_rfl) (of_decide_eq_true (by kernel_rfl)) h0k hbel fun x hx=>hlt x (by simp[hx])) (Below.trod laidOut (by kernel_rfl) (of_decide_eq_true (by kernel_rfl)) h1k hbel fun x hx=>hlt x (by simp[hx]))),rfl,hbel.frame _,fun h=>by cases h⟩
theorem lifted (os:Os) (started:os.Started) (H:Type) (enc:TypeId×Value→H) (F:Stop.Interp):
  ReturnsInHanded {} Go.Proofs.Tryz.checked os 3 .any ((Rows.OpenSpec.upto Rows.gramMatricesSpec).pre6 enc Go.Proofs.Tryz.prog Go.Proofs.Tryz.f3 Rows.gramMatricesUptoRow.domain false) (((Rows.OpenSpec.upto Rows.gramMatricesSpec).at F).post enc Go.Proofs.Tryz.prog Go.Proofs.Tryz.f3 false true false false):=by
 refine returnsInHanded_of_cond (C:=Go.Proofs.Tryz.checked) (s:=Rows.OpenSpec.upto Rows.gramMatricesSpec) (k:=Rows.uptoSmall) rfl ownKnob_none started (by kernel_rfl) Go.Proofs.Tryz.func3
  (OpenSpec.witness (enc:=enc) (C:=Go.Proofs.Tryz.checked) (s:=Rows.OpenSpec.upto Rows.gramMatricesSpec) (k:=Rows.uptoSmall) rfl false ⟨#[],#[.slice none 0 0,.int .i64 0],[]⟩ 8 (by kernel_rfl) (by kernel_rfl) (by kernel_rfl)
   (x:=([.nil,.lit (.int .i64 0)],[],[])) (by kernel_rfl) rfl (by kernel_rfl)) ?_
 intro W base args ds gs before hval hW _ hk _
 exact contract H enc W base args ds gs before hval hW hk
theorem row_f0:facts0 Go.Proofs.Tryz.checked.prog 3 Go.Proofs.Tryz.f3 (Rows.OpenSpec.upto Rows.gramMatricesSpec).bare Rows.gramMatricesUptoRow=true:=by kernel_rfl
theorem row_f1:facts1 Go.Proofs.Tryz.checked.prog 3 Go.Proofs.Tryz.f3 (Rows.OpenSpec.upto Rows.gramMatricesSpec).bare Rows.gramMatricesUptoRow=true:=by kernel_rfl
theorem row_f2:facts2 Go.Proofs.Tryz.checked.prog 3 Go.Proofs.Tryz.f3 (Rows.OpenSpec.upto Rows.gramMatricesSpec).bare Rows.gramMatricesUptoRow=true:=by kernel_rfl
theorem row_f3:facts3 Go.Proofs.Tryz.checked.prog 3 Go.Proofs.Tryz.f3 (Rows.OpenSpec.upto Rows.gramMatricesSpec).bare Rows.gramMatricesUptoRow=true:=by kernel_rfl
theorem row_f4:facts4 Go.Proofs.Tryz.checked.prog 3 Go.Proofs.Tryz.f3 (Rows.OpenSpec.upto Rows.gramMatricesSpec).bare Rows.gramMatricesUptoRow=true:=by kernel_rfl
theorem gramMatrices_holds:Rows.GramMatricesUptoSaid:=
 OpenClaim.holds_of_cond 3 Go.Proofs.Tryz.f3 rfl rfl rfl rfl rfl rfl rfl ⟨rfl,rfl,rfl,rfl,rfl⟩ rfl rfl rfl rfl rfl (by kernel_rfl) Go.Proofs.Tryz.func3 (joined_of row_f0 row_f1 row_f2 row_f3 row_f4)
  (of_decide_eq_true (by kernel_rfl)) (by unfold Func.isWrapper;first | (rw[if_pos (by decide +kernel)];kernel_rfl) | (rw[if_neg (by decide +kernel)];exact⟨rfl,rfl⟩))
  (fun os started H enc _ F=>lifted os started H enc F)
#print axioms gramMatrices_holds
end Go.Proofs.YthpmkcidkcmlgaaGreat
