/- cinctureref1.PolyParse, poly.Parse, book.Terms, law8.Of. -/
import Derived.Test.YthpmkcidkcmlgaaGreatW13
import Derived.Test.YthpmkcidkcmlgaaGreatLib4
import Derived.Test.YthpmkcidkcmlgaaGreatR5
import Derived.Test.YthpmkcidkcmlgaaGreatW6
import Derived.Test.YthpmkcidkcmlgaaGreatLib2
import Derived.Test.YthpmkcidkcmlgaaGreatLib1
set_option linter.unusedVariables false
set_option linter.unusedSimpArgs false
set_option maxRecDepth 100000
set_option linter.unusedVariables false
set_option linter.unusedSimpArgs false
namespace Go.Proofs.YthpmkcidkcmlgaaGreat
open Go Go.SX
theorem own_nil {W:PW} {t:TypeId} {sz:Nat} :Go.SX.Own W t sz ⟨none,0,0⟩ []:=⟨⟨by simp,by simp,.inl ⟨rfl,rfl⟩⟩,fun g hg=>by simp[Sl.v,Value.ownBlock] at hg⟩
end Go.Proofs.YthpmkcidkcmlgaaGreat

/- mat: none, even, Right, One, Turn, Same; cincturelaw11.Shaped. -/
set_option maxRecDepth 100000
set_option linter.unusedVariables false
set_option linter.unusedSimpArgs false
namespace Go.Proofs.YthpmkcidkcmlgaaGreat
open Go Go.SX
theorem qs_zero {t:TypeId} (W:PW) (c:Nat):Qs t W (List.replicate c [.slice none 0 0,.bool false,.slice none 0 0]) c (fun _=>0):=
 ⟨by simp,fun i hi=>⟨⟨none,0,0⟩,false,⟨none,0,0⟩,by simp[hi],isRat_zero W⟩⟩
def noneI (n0:Nat) (W0:PW) (r c:Nat) (l:List PL) (W:PW):Prop:=
 match l with
 | [.val (.int .i64 i),.row l3]=>Ext W0 W∧∃(k:Nat) (ss:List Sl),i=(k:Int)∧k≤r∧ss.length=k∧l3=(ss.map fun x=>[x.v]) ++ List.replicate (r-k) [.slice none 0 0]∧
   (∀i (h:i<ss.length),∃xs,Go.SX.Own W 51 3 ss[i] xs∧Qs 317 W xs c (fun _=>0)∧∀g,ss[i].v.ownBlock=some g→n0≤g)∧
   ∀i j (hi:i<ss.length) (hj:j<ss.length),i≠j→∀g,ss[i].v.ownBlock=some g→ss[j].v.ownBlock≠some g
 | _=>False
def noneM (r:Nat) (l:List PL) (W:PW):Nat:=
 match l with
 | [.val (.int .i64 i),_]=>r-i.toNat
 | _=>0
theorem matNone_ok {W0:PW} {M:Nat→Prop} {n0 r c:Nat} (hn:NewFrom n0 W0) (hr:r≤1048576) (hc:c≤1048576):
  PCallsM Go.Proofs.Tryz.prog 99 [.int .i64 (r:Int),.int .i64 (c:Int)] W0 M fun v W'=>∃(s':Sl),v=Sl.v s'∧OMat 317 51 100 (n0≤·) W' s' r c (fun _ _=>0):=by
 apply callmat_none
 refine⟨⟨rfl,by omega,by omega⟩,noneI n0 W0 r c,noneM r,⟨Ext.refl _,0,[],rfl,Nat.zero_le _,rfl,by simp,fun i h=>by simp at h,fun i j h=>by simp at h⟩,?_⟩
 rintro l3 i4 W5 ⟨hE5,k,ss,rfl,hk,hl,rfl,h3,h4⟩
 rw[List.length_replicate,show Int.toNat (r:Int)=r from rfl,show Int.toNat (c:Int)=c from rfl,show Int.toNat (k:Int)=k from rfl]
 have hlen:((ss.map fun x=>[x.v]) ++ List.replicate (r-k) [Value.slice none 0 0]).length=r:=by simp;omega
 refine⟨fun hlt=>⟨⟨rfl,by omega,by omega⟩,⟨by omega,by rw[hlen];omega⟩,fun s6 W7 hE7 hO hf=>⟨by rw[hlen];omega,by unfold I64;omega,⟨hE5.trans hE7,k+1,ss ++ [s6],by push_cast;rfl,by omega,by simp[hl],?_,?_,?_⟩,?_⟩⟩,fun hge s9 W10 hE10 hO hf W12 hE12=>⟨s9,rfl,?_⟩⟩
 ·rw[List.set_append_right _ _ (by simp[hl])]
  simp only[List.length_map,hl,Nat.sub_self,List.map_append,List.map_cons,List.map_nil]
  rw[show r-k=(r-(k+1))+1 by omega,List.replicate_succ,List.set_cons_zero]
  simp
 ·intro i h
  by_cases e:i<ss.length
  ·obtain⟨xs,k1,k2,k3⟩:=h3 i e
   rw[List.getElem_append_left e]
   exact⟨xs,k1.ext hE7,k2.ext hE7,k3⟩
  ·have:i=ss.length:=by simp at h;omega
   subst this
   rw[List.getElem_concat_length rfl]
   refine⟨_,hO,qs_zero W7 c,fun g hg=>?_⟩
   exact Nat.le_trans hn (hf g hg).1
 ·have key: ∀i (hi:i<ss.length) g,s6.v.ownBlock=some g→ss[i].v.ownBlock≠some g:=by
   intro i hi g hg hg'
   obtain⟨xs,k1,k2,k3⟩:=h3 i hi
   by_cases hx:xs = []
   ·have hn:=k1.n
    subst hx
    have h6:=hO.n
    rcases k1.1.2.2 with⟨hv,_⟩ | ⟨g1,cap,cur,hv,_,hh,_⟩
    ·rw[hv] at hg'
     simp[Value.ownBlock] at hg'
    ·have hgg:ss[i].v.ownBlock=some g1:=by rw[hv];rfl
     rw[hg'] at hgg
     cases hgg
     exact k1.2 g hg' ((hf g hg).2 (Array.getElem?_eq_some_iff.1 hh).1)
   ·obtain⟨g1,cs,_,hg1,hS,hh,_⟩:=k1.at hx
    rw[hg'] at hg1
    cases hg1
    exact hS ((hf g hg).2 (Array.getElem?_eq_some_iff.1 hh).1)
  intro i j hi hj hne g hg hg'
  simp only[List.length_append,List.length_cons,List.length_nil] at hi hj
  by_cases ei:i<ss.length
  ·rw[List.getElem_append_left ei] at hg
   by_cases ej:j<ss.length
   ·rw[List.getElem_append_left ej] at hg'
    exact h4 i j ei ej hne g hg hg'
   ·have:j=ss.length:=by omega
    subst this
    rw[List.getElem_concat_length rfl] at hg'
    exact key i ei g hg' hg
  ·have:i=ss.length:=by omega
   subst this
   rw[List.getElem_concat_length rfl] at hg
   rw[List.getElem_append_left (by omega)] at hg'
   exact key j (by omega) g hg hg'
 ·show r-Int.toNat ((k:Int)+1)<r-Int.toNat (k:Int)
  omega
 ·have hkr:k=r:=by omega
  subst hkr
  rw[Nat.sub_self,List.replicate_zero,List.append_nil] at hO
  exact⟨ss,hl,(hO.ext hE12).row,fun i hi=>let⟨xs,k1,k2,k3⟩:=h3 i hi;⟨xs,(k1.ext hE10).ext hE12,(k2.ext hE10).ext hE12,k3⟩,h4⟩
theorem matNone_call {W0 W:PW} {M:Nat→Prop} {n0 r c:Nat} {K:Value→PW→Prop} (hn:NewFrom n0 W) (hr:r≤1048576) (hc:c≤1048576) (kont: ∀(s':Sl) (W':PW),Ext W W'→(OMat 317 51 100 (n0≤·) W' s' r c (fun _ _=>0))→K (Sl.v s') W'):
  callN Go.Proofs.Tryz.prog W0 M 99 [.int .i64 (r:Int),.int .i64 (c:Int)] W K:=
 callN_of (fun W' hE=>matNone_ok (M:=fun _=>False) (hn.ext hE) hr hc) (fun W' v W'' hE hE' hP=>by
  obtain⟨s',rfl,h⟩:=hP
  exact kont s' W'' (hE.trans hE') h)
def RightP (r:Nat) (c:Nat→Nat):Prop:=(∀i,i<r→c i=c 0)∧1≤r∧r≤12∧1≤c 0∧c 0≤12
theorem matEven_ok {W0:PW} {M:Nat→Prop} {s:Sl} {r:Nat} {c:Nat→Nat} {m:Nat→Nat→Rat} (h:IsMat 317 51 100 W0 s r c m) (hr:r≤1099511627776):
  PCallsM Go.Proofs.Tryz.prog 173 [s.v] W0 M fun v W'=>∃(b:Bool),v = .bool b∧(b=true↔RightP r c):=by
 apply callmat_even_rat_Rat
 have hn:=h.n
 refine⟨fun l W=>match l with | [.val (.int .i64 i)]=>Ext W0 W∧∃k:Nat,i=(k:Int)∧k≤r∧∀i,i<k→c i=c 0 | _=>False,fun l _=>match l with | [.val (.int .i64 i)]=>r-i.toNat | _=>0,⟨Ext.refl _,0,rfl,Nat.zero_le _,fun i h=>(by omega)⟩,?_⟩
 rintro i3 W4 ⟨hE4,k,rfl,hk,hck⟩
 have h4:=h.ext hE4
 refine⟨fun hlt=>?_,fun hge=>⟨fun h1=>⟨fun h12=>?_,fun h12=>fun W14 _=>⟨false,rfl,?_⟩⟩,fun h1=>fun W21 _=>⟨false,rfl,?_⟩⟩⟩
 ·obtain⟨x,e1,e2⟩:=h4.at (i:=k) (by omega)
  obtain⟨y,f1,f2⟩:=h4.at (i:=0) (by omega)
  have n1:=e2.n
  have n2:=f2.n
  refine⟨h4.inB (by omega) (by omega),x,e1,h4.inB (by omega) (by omega),y,f1,fun hne W7 _=>⟨false,rfl,?_⟩,fun heq=>⟨by unfold I64;omega,⟨hE4,k+1,by push_cast;rfl,by omega,fun i hi=>?_⟩,?_⟩⟩
  ·refine⟨fun h=>(by cases h),fun h=>?_⟩
   have:=h.1 k (by omega)
   omega
  ·by_cases e:i=k
   ·subst e;omega
   ·exact hck i (by omega)
  ·show r-Int.toNat ((k:Int)+1)<r-Int.toNat (k:Int)
   omega
 ·have hkr:k=r:=by omega
  obtain⟨y,f1,f2⟩:=h4.at (i:=0) (by omega)
  have n2:=f2.n
  have ib:=h4.inB (i:=0) (by omega) (by omega)
  refine⟨ib,y,f1,fun hy=>⟨ib,y,f1,fun W10 _=>⟨_,rfl,?_⟩⟩,fun hy W11 _=>⟨false,rfl,?_⟩⟩
  ·rw[decide_eq_true_iff]
   exact⟨fun h=>⟨fun i hi=>hck i (by omega),by omega,by omega,by omega,by omega⟩,fun h=>by have:=h.2.2.2.2;omega⟩
  ·refine⟨fun h=>(by cases h),fun h=>?_⟩
   have:=h.2.2.2.1
   omega
 ·refine⟨fun h=>(by cases h),fun h=>?_⟩
  have:=h.2.2.1
  omega
 ·refine⟨fun h=>(by cases h),fun h=>?_⟩
  have:=h.2.1
  omega
theorem matEven_call {W0 W:PW} {M:Nat→Prop} {s:Sl} {r:Nat} {c:Nat→Nat} {m:Nat→Nat→Rat} {K:Value→PW→Prop} (h:IsMat 317 51 100 W s r c m) (hr:r≤1099511627776) (kont: ∀(b:Bool) (W':PW),Ext W W'→((b=true↔RightP r c))→K (.bool b) W'):
  callN Go.Proofs.Tryz.prog W0 M 173 [s.v] W K:=
 callN_of (fun W' hE=>matEven_ok (M:=fun _=>False) (h.ext hE) hr) (fun W' v W'' hE hE' hP=>by
  obtain⟨b,rfl,h⟩:=hP
  exact kont b W'' (hE.trans hE') h)
theorem matRight_ok {W0:PW} {M:Nat→Prop} {s:Sl} {r:Nat} {c:Nat→Nat} {m:Nat→Nat→Rat} (h:IsMat 317 51 100 W0 s r c m) (hr:r≤1099511627776):
  PCallsM Go.Proofs.Tryz.prog 94 [s.v] W0 M fun v W'=>∃(b:Bool),v = .bool b∧(b=true↔RightP r c):=by
 apply callmat_Right
 exact matEven_call h hr fun b W2 hE2 hb=>⟨b,rfl,fun W4 hE4=>⟨b,rfl,hb⟩⟩
theorem matRight_call {W0 W:PW} {M:Nat→Prop} {s:Sl} {r:Nat} {c:Nat→Nat} {m:Nat→Nat→Rat} {K:Value→PW→Prop} (h:IsMat 317 51 100 W s r c m) (hr:r≤1099511627776) (kont: ∀(b:Bool) (W':PW),Ext W W'→((b=true↔RightP r c))→K (.bool b) W'):
  callN Go.Proofs.Tryz.prog W0 M 94 [s.v] W K:=
 callN_of (fun W' hE=>matRight_ok (M:=fun _=>False) (h.ext hE) hr) (fun W' v W'' hE hE' hP=>by
  obtain⟨b,rfl,h⟩:=hP
  exact kont b W'' (hE.trans hE') h)
theorem lawShaped_ok {W0:PW} {M:Nat→Prop} {s:Sl} {r p q:Nat} {c:Nat→Nat} {m:Nat→Nat→Rat} (h:IsMat 317 51 100 W0 s r c m) (hr:r≤1099511627776):
  PCallsM Go.Proofs.Tryz.prog 127 [s.v,.int .i64 (p:Int),.int .i64 (q:Int)] W0 M fun v W'=>∃(b:Bool),v = .bool b∧(b=true↔(∀i,i<r→c i=q)∧r=p):=by
 apply calllaw11_shaped
 have hn:=h.n
 refine⟨fun l W=>match l with | [.val (.int .i64 i)]=>Ext W0 W∧∃k:Nat,i=(k:Int)∧k≤r∧∀i,i<k→c i=q | _=>False,fun l _=>match l with | [.val (.int .i64 i)]=>r-i.toNat | _=>0,⟨Ext.refl _,0,rfl,Nat.zero_le _,fun i h=>(by omega)⟩,?_⟩
 rintro i3 W4 ⟨hE4,k,rfl,hk,hck⟩
 have h4:=h.ext hE4
 refine⟨fun hlt=>?_,fun hge W7 _=>⟨_,rfl,?_⟩⟩
 ·obtain⟨x,e1,e2⟩:=h4.at (i:=k) (by omega)
  have n1:=e2.n
  refine⟨h4.inB (by omega) (by omega),x,e1,fun hne W7 _=>⟨false,rfl,?_⟩,fun heq=>⟨by unfold I64;omega,⟨hE4,k+1,by push_cast;rfl,by omega,fun i hi=>?_⟩,?_⟩⟩
  ·refine⟨fun h=>(by cases h),fun h=>?_⟩
   have:=h.1 k (by omega)
   omega
  ·by_cases e:i=k
   ·subst e;omega
   ·exact hck i (by omega)
  ·show r-Int.toNat ((k:Int)+1)<r-Int.toNat (k:Int)
   omega
 ·rw[decide_eq_true_iff]
  exact⟨fun h=>⟨fun i hi=>hck i (by omega),by omega⟩,fun h=>by have:=h.2;omega⟩
theorem lawShaped_call {W0 W:PW} {M:Nat→Prop} {s:Sl} {r p q:Nat} {c:Nat→Nat} {m:Nat→Nat→Rat} {K:Value→PW→Prop} (h:IsMat 317 51 100 W s r c m) (hr:r≤1099511627776) (kont: ∀(b:Bool) (W':PW),Ext W W'→((b=true↔(∀i,i<r→c i=q)∧r=p))→K (.bool b) W'):
  callN Go.Proofs.Tryz.prog W0 M 127 [s.v,.int .i64 (p:Int),.int .i64 (q:Int)] W K:=
 callN_of (fun W' hE=>lawShaped_ok (M:=fun _=>False) (h.ext hE) hr) (fun W' v W'' hE hE' hP=>by
  obtain⟨b,rfl,h⟩:=hP
  exact kont b W'' (hE.trans hE') h)
theorem lawShaped2_ok {W0:PW} {M:Nat→Prop} {s:Sl} {r p:Nat} {c:Nat→Nat} {m:Nat→Nat→Rat} (h:IsMat 317 51 100 W0 s r c m) (hr:r≤1099511627776):
  PCallsM Go.Proofs.Tryz.prog 40 [s.v,.int .i64 (p:Int)] W0 M fun v W'=>∃(b:Bool),v = .bool b∧(b=true↔(∀i,i<r→c i=p)∧r=p):=by
 apply calllaw11_Shaped
 exact lawShaped_call h hr fun b W2 hE2 hb=>⟨b,rfl,fun W4 hE4=>⟨b,rfl,hb⟩⟩
theorem lawShaped2_call {W0 W:PW} {M:Nat→Prop} {s:Sl} {r p:Nat} {c:Nat→Nat} {m:Nat→Nat→Rat} {K:Value→PW→Prop} (h:IsMat 317 51 100 W s r c m) (hr:r≤1099511627776) (kont: ∀(b:Bool) (W':PW),Ext W W'→((b=true↔(∀i,i<r→c i=p)∧r=p))→K (.bool b) W'):
  callN Go.Proofs.Tryz.prog W0 M 40 [s.v,.int .i64 (p:Int)] W K:=
 callN_of (fun W' hE=>lawShaped2_ok (M:=fun _=>False) (h.ext hE) hr) (fun W' v W'' hE hE' hP=>by
  obtain⟨b,rfl,h⟩:=hP
  exact kont b W'' (hE.trans hE') h)
def oneF:Nat→Nat→Rat:=fun i j=>if i=j then 1 else 0
theorem matOne_ok {W0:PW} {M:Nat→Prop} {n0 n:Nat} (hn:NewFrom n0 W0) (h1:1≤n) (h12:n≤12):
  PCallsM Go.Proofs.Tryz.prog 121 [.int .i64 (n:Int)] W0 M fun v W'=>∃(s':Sl),v=Sl.v s'∧OMat 317 51 100 (n0≤·) W' s' n n oneF:=by
 apply callmat_One
 have en:mn (mx (n:Int) 1) 12=(n:Int):=by unfold mn mx;split<;>(try split)<;>omega
 unfold Rmat_One
 rw[en]
 have hnn:NewFrom W0.w.heap.size W0:=Nat.le_refl _
 refine matNone_call hnn (by omega) (by omega) fun s3 W2 hE2 h2=>⟨s3,rfl,?_⟩
 refine⟨fun l W=>match l with | [.val (.int .i64 i)]=>∃k:Nat,i=(k:Int)∧k≤n∧OMat 317 51 100 (W0.w.heap.size≤·) W s3 n n (fun a b=>if a=b∧a<k then 1 else 0) | _=>False,fun l _=>match l with | [.val (.int .i64 i)]=>n-i.toNat | _=>0,⟨0,rfl,Nat.zero_le _,h2.congr fun i j _ _=>by simp⟩,?_⟩
 rintro i6 W7 ⟨k,rfl,hk,h7⟩
 have hs3:=h7.mat.n
 refine⟨fun hlt=>?_,fun hge W15 hE15=>⟨s3,rfl,?_⟩⟩
 ·obtain⟨x,e1,e2⟩:=h7.mat.at (i:=k) (by omega)
  refine⟨h7.mat.inB (by omega) (by omega),x,e1,ratOf_call (z:=1) (by unfold I64;omega) fun s11 b12 s13 W10 hE10 h10=>⟨s11,b12,s13,rfl,hE10,(e2.ext hE10).inB (by omega) (by omega),?_⟩⟩
  have h10':=h7.ext hE10
  have e1':=e1.ext hE10
  refine h10'.store (j:=k) e1' (by omega) (by omega) h10 (by decide) (by decide) (fun g hg=>.inr hg) fun W14 _ h14=>⟨by unfold I64;omega,⟨k+1,by push_cast;rfl,by omega,h14.congr fun a b ha hb=>?_⟩,?_⟩
  ·unfold setM
   by_cases e:a=k∧b=k
   ·rw[if_pos e,if_pos (by omega)];rfl
   ·rw[if_neg e]
    dsimp only
    by_cases e2:a=b∧a<k
    ·rw[if_pos e2,if_pos (by omega)]
    ·rw[if_neg e2,if_neg (by omega)]
  ·show n-Int.toNat ((k:Int)+1)<n-Int.toNat (k:Int)
   omega
 ·refine((h7.ext hE15).mono fun g hg=>Nat.le_trans hn hg).congr fun i j hi hj=>?_
  unfold oneF
  by_cases e:i=j
  ·rw[if_pos e,if_pos ⟨e,by omega⟩]
  ·rw[if_neg e,if_neg (by omega)]
theorem matOne_call {W0 W:PW} {M:Nat→Prop} {n0 n:Nat} {K:Value→PW→Prop} (hn:NewFrom n0 W) (h1:1≤n) (h12:n≤12) (kont: ∀(s':Sl) (W':PW),Ext W W'→(OMat 317 51 100 (n0≤·) W' s' n n oneF)→K (Sl.v s') W'):
  callN Go.Proofs.Tryz.prog W0 M 121 [.int .i64 (n:Int)] W K:=
 callN_of (fun W' hE=>matOne_ok (M:=fun _=>False) (hn.ext hE) h1 h12) (fun W' v W'' hE hE' hP=>by
  obtain⟨s',rfl,h⟩:=hP
  exact kont s' W'' (hE.trans hE') h)
end Go.Proofs.YthpmkcidkcmlgaaGreat

/- mat: Turn, Mul, Same; ldl: symmetric, left. -/
set_option maxRecDepth 100000
set_option linter.unusedVariables false
set_option linter.unusedSimpArgs false
namespace Go.Proofs.YthpmkcidkcmlgaaGreat
open Go Go.SX
theorem matTurn_ok {W0:PW} {M:Nat→Prop} {n0 r:Nat} {s:Sl} {c:Nat→Nat} {m:Nat→Nat→Rat} (hn:NewFrom n0 W0) (h:IsMat 317 51 100 W0 s r c m) (hr:r≤1099511627776):
  PCallsM Go.Proofs.Tryz.prog 21 [s.v] W0 M fun v W'=>∃(s':Sl),∃(b:Bool),v = .tuple #[Sl.v s',.bool b]∧((b=true↔RightP r c)∧(RightP r c→OMat 317 51 100 (n0≤·) W' s' (c 0) r (fun i j=>m j i))):=by
 apply callmat_Turn
 have hsn:=h.n
 refine matRight_call h hr fun b W2 hE2 hb=>⟨b,rfl,fun hf W4 hE4=>⟨⟨none,0,0⟩,false,rfl,?_,?_⟩,fun ht=>?_⟩
 ·have:b=false:=by simpa using hf
  rw[this] at hb
  exact hb
 ·intro hR
  have:=hb.2 hR
  rw[this] at hf
  cases hf
 have hbt:b=true:=by simpa using ht
 have hR:=hb.1 hbt
 obtain⟨hc,hr1,hr12,hc1,hc12⟩:=hR
 have h2:=h.ext hE2
 obtain⟨y,f1,f2⟩:=h2.at (i:=0) (by omega)
 have ny:=f2.n
 refine⟨h2.inB (by omega) (by omega),y,f1,?_⟩
 rw[ny,hsn]
 obtain⟨n1,hn1⟩: ∃n1,W2.w.heap.size=n1:=⟨_,rfl⟩
 have hle:W2.w.heap.size≤n1:=by omega
 have hn1':NewFrom n1 W2:=by unfold NewFrom;omega
 have h01:W0.w.heap.size≤n1:=Nat.le_trans hE2.size hle
 refine matNone_call hn1' (by omega) (by omega) fun s8 W7 hE7 h8=>⟨s8,rfl,?_⟩
 refine⟨fun l W=>match l with | [.val (.int .i64 i)]=>∃k:Nat,i=(k:Int)∧k≤r∧ExtN n1 W2 W∧OMat 317 51 100 (n1≤·) W s8 (c 0) r (fun a b=>if b<k then m b a else 0) | _=>False,fun l _=>match l with | [.val (.int .i64 i)]=>r-i.toNat | _=>0,⟨0,rfl,Nat.zero_le _,hE7.toM _,h8.congr fun i j _ _=>by simp⟩,?_⟩
 rintro i11 W12 ⟨k,rfl,hk,hE12,h12⟩
 refine⟨fun hlt=>?_,fun hge W23 hE23=>⟨s8,true,rfl,⟨fun _=>hb.1 hbt,fun _=>rfl⟩,fun _=>?_⟩⟩
 ·have hkr:k<r:=by omega
  obtain⟨x,e1,e2⟩:=h2.at (i:=k) hkr
  have nx:=e2.n
  have hck:=hc k hkr
  refine⟨(h2.new hE12 hle).inB (by omega) (by omega),x,e1.new hE12 hle,?_⟩
  refine⟨fun l W=>match l with | [.val (.int .i64 i)]=>∃l:Nat,i=(l:Int)∧l≤c 0∧ExtN n1 W2 W∧OMat 317 51 100 (n1≤·) W s8 (c 0) r (fun a b=>if b<k∨(b=k∧a<l) then m b a else 0) | _=>False,fun l _=>match l with | [.val (.int .i64 i)]=>c 0-i.toNat | _=>0,⟨0,rfl,Nat.zero_le _,hE12,h12.congr fun i j _ _=>by simp⟩,?_⟩
  rintro i16 W17 ⟨l,rfl,hl,hE17,h17⟩
  refine⟨fun hlt2=>?_,fun hge2=>⟨by unfold I64;omega,⟨k+1,by push_cast;rfl,by omega,hE17,h17.congr fun a b ha hb=>?_⟩,?_⟩⟩
  ·have hlc:l<c 0:=by omega
   have e17:=e2.new hE17 hle
   obtain⟨s18,b19,s20,g1,g2⟩:=e17.at (i:=l) (by omega)
   obtain⟨z,z1,z2⟩:=h17.mat.at (i:=l) hlc
   refine⟨e17.inB (by omega) (by omega),s18,b19,s20,g1,h17.mat.inB (by omega) (by omega),z,z1,z2.inB (by omega) (by omega),?_⟩
   refine h17.store (j:=k) z1 hlc hkr g2 (by decide) (by decide) (fun g hg=>.inr (Nat.le_trans h01 hg)) fun W22 hp h22=>⟨by unfold I64;omega,⟨l+1,by push_cast;rfl,by omega,hE17.trans (hp.extN fun g hg=>hg),h22.congr fun a b ha hb=>?_⟩,?_⟩
   ·unfold setM
    by_cases e:a=l∧b=k
    ·rw[if_pos e,if_pos (by omega),e.1,e.2]
    ·rw[if_neg e]
     dsimp only
     by_cases e':b<k∨(b=k∧a<l)
     ·rw[if_pos e',if_pos (by omega)]
     ·rw[if_neg e',if_neg (by omega)]
   ·show c 0-Int.toNat ((l:Int)+1)<c 0-Int.toNat (l:Int)
    omega
  ·by_cases e':b<k∨(b=k∧a<l)
   ·rw[if_pos e',if_pos (by omega)]
   ·rw[if_neg e',if_neg (by omega)]
  ·show r-Int.toNat ((k:Int)+1)<r-Int.toNat (k:Int)
   omega
 ·refine((h12.ext hE23).mono fun g hg=>Nat.le_trans (hn.ext hE2) (Nat.le_trans hle hg)).congr fun a b ha hb=>?_
  rw[if_pos (by omega)]
theorem matTurn_call {W0 W:PW} {M:Nat→Prop} {n0 r:Nat} {s:Sl} {c:Nat→Nat} {m:Nat→Nat→Rat} {K:Value→PW→Prop} (hn:NewFrom n0 W) (h:IsMat 317 51 100 W s r c m) (hr:r≤1099511627776) (kont: ∀(s':Sl) (b:Bool) (W':PW),Ext W W'→(((b=true↔RightP r c)∧(RightP r c→OMat 317 51 100 (n0≤·) W' s' (c 0) r (fun i j=>m j i))))→K (.tuple #[Sl.v s',.bool b]) W'):
  callN Go.Proofs.Tryz.prog W0 M 21 [s.v] W K:=
 callN_of (fun W' hE=>matTurn_ok (M:=fun _=>False) (hn.ext hE) (h.ext hE) hr) (fun W' v W'' hE hE' hP=>by
  obtain⟨s',b,rfl,h⟩:=hP
  exact kont s' b W'' (hE.trans hE') h)
end Go.Proofs.YthpmkcidkcmlgaaGreat
