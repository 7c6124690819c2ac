/- mat.copied, mat.square, mat.Inverse. -/
import Derived.Test.YthpmkcidkcmlgaaGreatW15
import Derived.Test.YthpmkcidkcmlgaaGreatW14
import Derived.Test.YthpmkcidkcmlgaaGreatW12
import Derived.Test.YthpmkcidkcmlgaaGreatLib4
import Derived.Test.YthpmkcidkcmlgaaGreatR14
import Derived.Test.YthpmkcidkcmlgaaGreatLib2
import Derived.Test.YthpmkcidkcmlgaaGreatW10
import Derived.Test.YthpmkcidkcmlgaaGreatR9
import Derived.Test.YthpmkcidkcmlgaaGreatR13
set_option linter.unusedVariables false
set_option linter.unusedSimpArgs false
set_option maxRecDepth 100000
set_option linter.unusedVariables false
set_option linter.unusedSimpArgs false
namespace Go.Proofs.YthpmkcidkcmlgaaGreat
open Go Go.SX
def augM (r:Nat) (m m2:Nat→Nat→Rat):Nat→Nat→Rat:=fun a b=>if b<r then m a b else m2 a (b-r)
theorem Qs.own' {tu tt:TypeId} {W W':PW} {sz:Nat} {s:Sl} {xs ys:List (List Value)} {n:Nat} {f:Nat→Rat} (hO:Go.SX.Own W tt sz s xs) (hE:ExtM (fun g=>s.v.ownBlock=some g) W W') (ht:tu≠tt) (h:Qs tu W ys n f):Qs tu W' ys n f:=
 ⟨h.1,fun i hi=>let⟨s1,b,s2,h1,h2⟩:=h.2 i hi;⟨s1,b,s2,h1,IsRat.own hO hE ht h2⟩⟩
theorem Qs.append' {tu:TypeId} {W:PW} {xs ys:List (List Value)} {r:Nat} {f g:Nat→Rat} (h:Qs tu W xs r f) (k:Qs tu W ys r g):Qs tu W (xs ++ ys) (r+r) (fun b=>if b<r then f b else g (b-r)):=by
 refine⟨by rw[List.length_append,h.1,k.1],fun i hi=>?_⟩
 by_cases e:i<r
 ·obtain⟨s1,b,s2,h1,h2⟩:=h.2 i e
  refine⟨s1,b,s2,by rw[List.getElem?_append_left (by rw[h.1];exact e)];exact h1,?_⟩
  dsimp only
  rw[if_pos e]
  exact h2
 ·obtain⟨s1,b,s2,h1,h2⟩:=k.2 (i-r) (by omega)
  refine⟨s1,b,s2,by rw[List.getElem?_append_right (by rw[h.1];omega),h.1];exact h1,?_⟩
  dsimp only
  rw[if_neg e]
  exact h2
def coI (W0:PW) (r:Nat) (m m2:Nat→Nat→Rat) (L:List PL) (W:PW):Prop:=match L with
 | [.row l,.val (.int .i64 i)]=>ExtN W0.w.heap.size W0 W∧∃(k:Nat) (ss:List Sl),i=(k:Int)∧k≤r∧ss.length=k∧l=ss.map (fun x=>[x.v])∧
   (∀i (h:i<ss.length),∃xs,Go.SX.Own W 51 3 ss[i] xs∧Qs 317 W xs (r+r) (augM r m m2 i)∧∀g,ss[i].v.ownBlock=some g→W0.w.heap.size≤g)∧
   ∀i j (hi:i<ss.length) (hj:j<ss.length),i≠j→∀g,ss[i].v.ownBlock=some g→ss[j].v.ownBlock≠some g
 | _=>False
theorem matCopied_ok {W0:PW} {M:Nat→Prop} {n0 r:Nat} {s t:Sl} {m m2:Nat→Nat→Rat} (hn:NewFrom n0 W0) (h:IsMat 317 51 100 W0 s r (fun _=>r) m) (h2:IsMat 317 51 100 W0 t r (fun _=>r) m2) (hr:r≤12):
  PCallsM Go.Proofs.Tryz.prog 124 [s.v,t.v] W0 M fun v W'=>∃(s':Sl),∃(ss:List Sl),v=Sl.v s'∧ss.length=r∧OM W' s' ss (r+r) (augM r m m2)∧(∀g,s'.v.ownBlock=some g→n0≤g)∧(∀i (hi:i<ss.length),∀g,ss[i].v.ownBlock=some g→n0≤g):=by
 apply callmat_copied
 have hsn:=h.n
 have htn:=h2.n
 have hn0:n0≤W0.w.heap.size:=hn
 refine⟨coI W0 r m m2,fun L _=>match L with | [_,.val (.int .i64 i)]=>r-i.toNat | _=>0,⟨ExtM.refl _ _,0,[],rfl,Nat.zero_le _,rfl,rfl,fun i h=>by simp at h,fun i j h=>by simp at h⟩,?_⟩
 rintro l3 i4 W5 ⟨hE5,k,ss,rfl,hk,hl,rfl,h3,h4⟩
 have a5:=h.new hE5 (Nat.le_refl _)
 have b5:=h2.new hE5 (Nat.le_refl _)
 refine⟨fun hlt=>?_,fun hge s14 W15 hE15 hO hf W16 hE16=>⟨s14,ss,rfl,by omega,⟨hO.ext hE16,fun i hi=>?_,h4⟩,fun g hg=>Nat.le_trans hn0 (hf g hg).1,fun i hi g hg=>?_⟩⟩
 ·have hkr:k<r:=by omega
  obtain⟨x,e1,e2⟩:=a5.at (i:=k) hkr
  refine⟨a5.inB (by omega) (by omega),x,e1,cloneRat_call e2 (by omega) fun s9 xs W8 hE8 ⟨hfr,hO9,hq9⟩=>⟨s9,rfl,fun _=>?_,fun hge=>by omega⟩⟩
  obtain⟨y,f1,f2⟩:=(b5.ext hE8).at (i:=k) hkr
  obtain⟨ys,hys,hqs⟩:=f2
  refine⟨(b5.ext hE8).inB (by omega) (by omega),y,f1,ys,⟨_,hys⟩,?_⟩
  have hsz5:W0.w.heap.size≤W5.w.heap.size:=hE5.size
  have hxl:=hq9.1
  have hyl:=hqs.1
  intro W' hE'
  have hO':=hO9.ext hE'
  refine⟨xs,hO',fun g hg=>.inr (Nat.le_trans hsz5 (hfr g hg)),by omega,fun s12 W13 hX hO13 hob=>⟨by simp only[List.length_map,List.length_cons,List.length_nil];omega,by unfold I64;omega,⟨(hE5.trans ((hE8.trans hE').toM _)).trans (hX.mono fun g hg=>Nat.le_trans hsz5 (hfr g hg)),k+1,ss ++ [s12],by push_cast;rfl,by omega,by simp[hl],by simp,fun i hi=>?_,?_⟩,?_⟩⟩
  ·by_cases e:i<ss.length
   ·obtain⟨zs,k1,k2,k3⟩:=h3 i e
    rw[List.getElem_append_left e]
    have k1':=k1.ext (hE8.trans hE')
    refine⟨zs,k1'.other hX fun g hg hg'=>?_,Qs.own' hO' hX (by decide) (k2.ext (hE8.trans hE')),k3⟩
    have b1:=(k1.block hg).1
    have b2:=hfr g hg'
    omega
   ·have:i=ss.length:=by simp at hi;omega
    subst this
    rw[List.getElem_concat_length rfl]
    refine⟨_,hO13,?_,fun g hg=>?_⟩
    ·have:=Qs.append' (Qs.own' hO' hX (by decide:317≠51) (hq9.ext hE')) (Qs.own' hO' hX (by decide:317≠51) (hqs.ext hE'))
     rw[hl]
     exact this
    ·rcases hob g hg with e' | e'
     ·exact Nat.le_trans hsz5 (hfr g e')
     ·have:=(hE8.trans hE').size
      omega
  ·have key: ∀i (hi:i<ss.length) g,s12.v.ownBlock=some g→ss[i].v.ownBlock≠some g:=by
    intro i hi g hg hg'
    obtain⟨zs,k1,k2,k3⟩:=h3 i hi
    have b1:=(k1.block hg').1
    rcases hob g hg with e' | e'
    ·have:=hfr g e'
     omega
    ·have:=(hE8.trans hE').size
     omega
   intro i j hi hj hne g hg hg'
   simp only[List.length_append,List.length_cons,List.length_nil] at hi hj
   by_cases ei:i<ss.length
   ·rw[List.getElem_append_left ei] at hg
    by_cases ej:j<ss.length
    ·rw[List.getElem_append_left ej] at hg'
     exact h4 i j ei ej hne g hg hg'
    ·have:j=ss.length:=by omega
     subst this
     rw[List.getElem_concat_length rfl] at hg'
     exact key i ei g hg' hg
   ·have:i=ss.length:=by omega
    subst this
    rw[List.getElem_concat_length rfl] at hg
    rw[List.getElem_append_left (by omega)] at hg'
    exact key j (by omega) g hg hg'
  ·show r-Int.toNat ((k:Int)+1)<r-Int.toNat (k:Int)
   omega
 ·obtain⟨xs,k1,k2,_⟩:=h3 i hi
  exact⟨xs,k1.ext (hE15.trans hE16),k2.ext (hE15.trans hE16)⟩
 ·obtain⟨xs,k1,k2,k3⟩:=h3 i hi
  exact Nat.le_trans hn0 (k3 g hg)
theorem matCopied_call {W0 W:PW} {M:Nat→Prop} {n0 r:Nat} {s t:Sl} {m m2:Nat→Nat→Rat} {K:Value→PW→Prop} (hn:NewFrom n0 W) (h:IsMat 317 51 100 W s r (fun _=>r) m) (h2:IsMat 317 51 100 W t r (fun _=>r) m2) (hr:r≤12) (kont: ∀(s':Sl) (ss:List Sl) (W':PW),Ext W W'→(ss.length=r∧OM W' s' ss (r+r) (augM r m m2)∧(∀g,s'.v.ownBlock=some g→n0≤g)∧(∀i (hi:i<ss.length),∀g,ss[i].v.ownBlock=some g→n0≤g))→K (Sl.v s') W'):
  callN Go.Proofs.Tryz.prog W0 M 124 [s.v,t.v] W K:=
 callN_of (fun W' hE=>matCopied_ok (M:=fun _=>False) (hn.ext hE) (h.ext hE) (h2.ext hE) hr) (fun W' v W'' hE hE' hP=>by
  obtain⟨s',ss,rfl,h⟩:=hP
  exact kont s' ss W'' (hE.trans hE') h)
theorem matSquare_ok {W0:PW} {M:Nat→Prop} {r:Nat} {s:Sl} {m:Nat→Nat→Rat} (h:IsMat 317 51 100 W0 s r (fun _=>r) m) (h1:1≤r) (hr:r≤12):
  PCallsM Go.Proofs.Tryz.prog 123 [s.v] W0 M fun v W'=>v = .bool true∧True:=by
 apply callmat_square
 have hsn:=h.n
 refine matRight_call h (by omega) fun b W2 hE2 hb=>⟨b,rfl,fun ht=>?_,fun hf=>?_⟩
 ·obtain⟨x,e1,e2⟩:=(h.ext hE2).at (i:=0) (by omega)
  have hxn:=e2.n
  refine⟨(h.ext hE2).inB (by omega) (by omega),x,e1,fun W5 hE5=>⟨?_,trivial⟩⟩
  rw[decide_eq_true (by omega)]
 ·have:=hb.2 ⟨fun _ _=>rfl,h1,hr,h1,hr⟩
  rw[this] at hf
  cases hf
theorem matSquare_call {W0 W:PW} {M:Nat→Prop} {r:Nat} {s:Sl} {m:Nat→Nat→Rat} {K:Value→PW→Prop} (h:IsMat 317 51 100 W s r (fun _=>r) m) (h1:1≤r) (hr:r≤12) (kont: ∀(W':PW),Ext W W'→(True)→K (.bool true) W'):
  callN Go.Proofs.Tryz.prog W0 M 123 [s.v] W K:=
 callN_of (fun W' hE=>matSquare_ok (M:=fun _=>False) (h.ext hE) h1 hr) (fun W' v W'' hE hE' hP=>by
  obtain⟨rfl,h⟩:=hP
  exact kont W'' (hE.trans hE') h)
def gstep (m:Nat→Nat→Rat) (i:Nat):Nat→Nat→Rat:=fun a b=>if a≠i∧i≤b then m a b-m a i/m i i*m i b else m a b
def gj (m:Nat→Nat→Rat):Nat→Nat→Nat→Rat
 | 0=>m
 | i+1=>gstep (gj m i) i
def gpart (m:Nat→Nat→Rat) (i j:Nat):Nat→Nat→Rat:=fun a b=>if a<j∧a≠i∧i≤b then m a b-m a i/m i i*m i b else m a b
def ivI (W0:PW) (r:Nat) (s:Sl) (ss:List Sl) (m:Nat→Nat→Rat) (L:List PL) (W:PW):Prop:=match L with
 | [.val (.int .i64 z)]=>∃i:Nat,z=(i:Int)∧i≤r∧ExtN W0.w.heap.size W0 W∧OM W s ss (r+r) (gj m i)
 | _=>False
def ivJ (W0:PW) (r:Nat) (s:Sl) (ss:List Sl) (m:Nat→Nat→Rat) (i:Nat) (L:List PL) (W:PW):Prop:=match L with
 | [.val (.int .i64 z)]=>∃j:Nat,z=(j:Int)∧j≤r∧ExtN W0.w.heap.size W0 W∧OM W s ss (r+r) (gpart (gj m i) i j)
 | _=>False
def ivK (r n1:Nat) (W1:PW) (s:Sl) (f:Nat→Nat→Rat) (L:List PL) (W:PW):Prop:=match L with
 | [.val (.int .i64 z)]=>∃k:Nat,z=(k:Int)∧k≤r∧ExtN n1 W1 W∧OMat 317 51 100 (n1≤·) W s r r (fun a b=>if a<k then f a b else 0)
 | _=>False
def ivL (r n1:Nat) (W1:PW) (s:Sl) (f:Nat→Nat→Rat) (k:Nat) (L:List PL) (W:PW):Prop:=match L with
 | [.val (.int .i64 z)]=>∃l:Nat,z=(l:Int)∧l≤r∧ExtN n1 W1 W∧OMat 317 51 100 (n1≤·) W s r r (fun a b=>if a<k∨(a=k∧b<l) then f a b else 0)
 | _=>False
def cn1' (n:Nat) (L:List PL) (_:PW):Nat:=match L with
 | [.val (.int .i64 z)]=>n-z.toNat
 | _=>0
theorem gpart_sz {m:Nat→Nat→Rat} {i j a b K:Nat} (h1:Sz K (m a b)) (h2:Sz K (gstep m i a b)):Sz K (gpart m i j a b):=by
 unfold gpart
 by_cases e:a<j∧a≠i∧i≤b
 ·rw[if_pos e]
  unfold gstep at h2
  rw[if_pos e.2] at h2
  exact h2
 ·rw[if_neg e]
  exact h1
theorem matInverse_ok {W0:PW} {M:Nat→Prop} {r K0:Nat} {s:Sl} {m:Nat→Nat→Rat} (h:IsMat 317 51 100 W0 s r (fun _=>r) m) (hr1:1≤r) (hr:r≤5) (hd: ∀i,i<r→gj (augM r m oneF) i i i≠0) (hz: ∀i,i≤r→∀a b,a<r→b<r+r→Sz K0 (gj (augM r m oneF) i a b)) (hK:K0≤1000000) (hK1:1≤K0):
  PCallsM Go.Proofs.Tryz.prog 39 [s.v] W0 M fun v W'=>∃(s':Sl),v = .tuple ⟨[Sl.v s',.bool true]⟩∧IsMat 317 51 100 W' s' r (fun _=>r) (fun a b=>gj (augM r m oneF) r a (r+b)/gj (augM r m oneF) r a a):=by
 apply callmat_Inverse
 have hsn:=h.n
 refine matSquare_call h hr1 (by omega) fun W2 hE2 _=>⟨true,rfl,fun e=>(by cases e),fun _=>?_⟩
 rw[hsn]
 have hnn:NewFrom W0.w.heap.size W2:=hE2.size
 refine matOne_call hnn hr1 (by omega) fun s7 W6 hE6 h7=>⟨s7,rfl,?_⟩
 have hnn6:NewFrom W0.w.heap.size W6:=(hE2.trans hE6).size
 refine matCopied_call hnn6 (h.ext (hE2.trans hE6)) h7.mat (by omega) fun s10 ss W9 hE9 ⟨hsl,h10,hf10,hfs⟩=>⟨s10,rfl,?_⟩
 obtain⟨A,hA⟩: ∃A,augM r m oneF=A:=⟨_,rfl⟩
 rw[hA] at hd hz h10⊢
 have E9:=hE2.trans (hE6.trans hE9)
 refine⟨ivI W0 r s10 ss A,cn1' r,⟨0,rfl,Nat.zero_le _,E9.toM _,h10⟩,?_⟩
 rintro i13 W14 ⟨i,rfl,hi,hE14,h14⟩
 refine⟨fun hlt=>?_,fun hge=>?_⟩
 ·have hir:i<r:=by omega
  refine matPivot_call h14 (by omega) (by omega) (by omega) (hz i (by omega) i i hir (by omega)) hK (hd i hir) (fun g hg=>.inr (hf10 g hg)) fun W15 W16 hE15 hX h16=>⟨true,true,rfl,fun e=>(by cases e),fun _=>?_⟩
  have E16:=(hE14.trans (hE15.toM _)).trans (hX.mono fun g hg=>hf10 g hg)
  refine⟨ivJ W0 r s10 ss A i,cn1' r,⟨0,rfl,Nat.zero_le _,E16,h16.congr fun a b _ _=>by unfold gpart;rw[if_neg (by omega)]⟩,?_⟩
  rintro i22 W23 ⟨j,rfl,hj,hE23,h23⟩
  refine⟨fun hlt2=>⟨fun hne=>?_,fun heq=>⟨by unfold I64;omega,⟨j+1,by push_cast;rfl,by omega,hE23,h23.congr fun a b _ _=>?_⟩,?_⟩⟩,fun hge2=>⟨by unfold I64;omega,⟨i+1,by push_cast;rfl,by omega,hE23,h23.congr fun a b ha hb=>?_⟩,?_⟩⟩
  ·have hjr:j<r:=by omega
   have hji:j≠i:=by omega
   have hzp: ∀a b,a<ss.length→b<r+r→Sz K0 (gpart (gj A i) i j a b):=fun a b ha hb=>gpart_sz (hz i (by omega) a b (by omega) hb) (hz (i+1) (by omega) a b (by omega) hb)
   refine matClear_call h23 (by omega) (by omega) hji (by omega) (by omega) (by omega) hzp hK hK1 (fun g hg=>.inr (hfs j (by omega) g hg)) fun W24 W25 hE24 hX25 h25=>⟨rfl,by unfold I64;omega,⟨j+1,by push_cast;rfl,by omega,(hE23.trans (hE24.toM _)).trans (hX25.mono fun g hg=>hfs j (by omega) g hg),h25.congr fun a b _ _=>?_⟩,?_⟩
   ·unfold clearM gpart
    by_cases e:a=j∧i≤b
    ·obtain⟨rfl,e2⟩:=e
     rw[if_pos ⟨rfl,e2⟩,if_neg (by omega),if_neg (by omega),if_neg (by omega),if_neg (by omega),if_pos (by omega)]
    ·rw[if_neg e]
     by_cases e':a<j∧a≠i∧i≤b
     ·rw[if_pos e',if_pos (by omega)]
     ·rw[if_neg e',if_neg (by omega)]
   ·show r-Int.toNat ((j:Int)+1)<r-Int.toNat (j:Int)
    omega
  ·have:j=i:=by omega
   subst this
   unfold gpart
   by_cases e':a<j∧a≠j∧j≤b
   ·rw[if_pos e',if_pos (by omega)]
   ·rw[if_neg e',if_neg (by omega)]
  ·show r-Int.toNat ((j:Int)+1)<r-Int.toNat (j:Int)
   omega
  ·show gpart (gj A i) i j a b=gstep (gj A i) i a b
   unfold gpart gstep
   by_cases e':a<j∧a≠i∧i≤b
   ·rw[if_pos e',if_pos e'.2]
   ·rw[if_neg e',if_neg (by omega)]
  ·show r-Int.toNat ((i:Int)+1)<r-Int.toNat (i:Int)
   omega
 have:i=r:=by omega
 subst this
 obtain⟨n1,hn1⟩: ∃n1,W14.w.heap.size=n1:=⟨_,rfl⟩
 have hle:W14.w.heap.size≤n1:=by omega
 have h01:W0.w.heap.size≤n1:=Nat.le_trans hE14.size hle
 have hm14:=h14.mat
 rw[hsl] at hm14
 have hn10:=h14.n
 refine matNone_call (n0:=n1) (by unfold NewFrom;omega) (by omega) (by omega) fun s28 W27 hE27 h28=>⟨s28,rfl,?_⟩
 refine⟨ivK i n1 W14 s28 (fun a b=>gj A i a (i+b)/gj A i a a),cn1' i,⟨0,rfl,Nat.zero_le _,hE27.toM _,h28.congr fun a b _ _=>by simp⟩,?_⟩
 rintro i31 W32 ⟨k,rfl,hk,hE32,h32⟩
 refine⟨fun hlt=>?_,fun hge W52 hE52=>⟨s28,rfl,?_⟩⟩
 ·have hkr:k<i:=by omega
  have hm32:=hm14.new hE32 hle
  obtain⟨x,e1,e2⟩:=hm32.at (i:=k) hkr
  refine⟨hm32.inB (by omega) (by omega),x,e1,?_⟩
  refine⟨ivL i n1 W14 s28 (fun a b=>gj A i a (i+b)/gj A i a a) k,cn1' i,⟨0,rfl,Nat.zero_le _,hE32,h32.congr fun a b _ _=>by simp⟩,?_⟩
  rintro i36 W37 ⟨l,rfl,hl,hE37,h37⟩
  refine⟨fun hlt2=>?_,fun hge2=>⟨by unfold I64;omega,⟨k+1,by push_cast;rfl,by omega,hE37,h37.congr fun a b ha hb=>?_⟩,?_⟩⟩
  ·have hli:l<i:=by omega
   have hm37:=hm14.new hE37 hle
   obtain⟨x',e1',e2'⟩:=hm37.at (i:=k) hkr
   have e3:IsQs 317 51 W37 x (i+i) (gj A i k):=by
    have hx:x=x':=by
     obtain⟨y,y1,y2⟩:=hm14.at (i:=k) hkr
     have a1:=ElemAt.inj (y1.new hE32 hle) e1 rfl
     have a2:=ElemAt.inj (y1.new hE37 hle) e1' rfl
     simp only[List.cons.injEq,and_true,Value.slice.injEq] at a1 a2
     cases x
     cases x'
     cases y
     simp_all
    rw[hx]
    exact e2'
   obtain⟨s39,b40,s41,g1,g2⟩:=e3.at (i:=i+l) (by omega)
   obtain⟨s42,b43,s44,g3,g4⟩:=e3.at (i:=k) (by omega)
   obtain⟨z,z1,z2⟩:=h37.mat.at (i:=k) hkr
   have eil:Int.toNat ((i:Int)+(l:Int))=i+l:=by omega
   refine⟨h37.mat.inB (by omega) (by omega),z,z1,by unfold I64;omega,e3.inB (by omega) (by omega),s39,b40,s41,by rw[eil];exact g1,e3.inB (by omega) (by omega),s42,b43,s44,g3,?_⟩
   refine ratDiv_call g2 g4 (hz i (Nat.le_refl _) k (i+l) hkr (by omega)) (hz i (Nat.le_refl _) k k hkr (by omega)) (by omega) (by omega) hK1 fun s47 b48 s49 W46 hE46 h46=>⟨s47,b48,s49,_,rfl,hE46,z2.inB (by omega) (by omega),?_⟩
   refine(h37.ext hE46).store (j:=l) (z1.ext hE46) hkr hli h46 (by decide) (by decide) (fun g hg=>.inr (Nat.le_trans h01 hg)) fun W51 hp h51=>⟨by unfold I64;omega,⟨l+1,by push_cast;rfl,by omega,(hE37.trans (hE46.toM _)).trans (hp.extN fun g hg=>hg),h51.congr fun a b ha hb=>?_⟩,?_⟩
   ·unfold setM
    by_cases e:a=k∧b=l
    ·rw[if_pos e,if_pos (by omega),e.1,e.2]
    ·rw[if_neg e]
     dsimp only
     by_cases e':a<k∨(a=k∧b<l)
     ·rw[if_pos e',if_pos (by omega)]
     ·rw[if_neg e',if_neg (by omega)]
   ·show i-Int.toNat ((l:Int)+1)<i-Int.toNat (l:Int)
    omega
  ·by_cases e':a<k∨(a=k∧b<l)
   ·rw[if_pos e',if_pos (by omega)]
   ·rw[if_neg e',if_neg (by omega)]
  ·show i-Int.toNat ((k:Int)+1)<i-Int.toNat (k:Int)
   omega
 ·have:k=i:=by omega
  subst this
  refine((h32.ext hE52).congr fun a b ha hb=>?_).mat
  rw[if_pos (by omega)]
theorem matInverse_call {W0 W:PW} {M:Nat→Prop} {r K0:Nat} {s:Sl} {m:Nat→Nat→Rat} {K:Value→PW→Prop} (h:IsMat 317 51 100 W s r (fun _=>r) m) (hr1:1≤r) (hr:r≤5) (hd: ∀i,i<r→gj (augM r m oneF) i i i≠0) (hz: ∀i,i≤r→∀a b,a<r→b<r+r→Sz K0 (gj (augM r m oneF) i a b)) (hK:K0≤1000000) (hK1:1≤K0) (kont: ∀(s':Sl) (W':PW),Ext W W'→(IsMat 317 51 100 W' s' r (fun _=>r) (fun a b=>gj (augM r m oneF) r a (r+b)/gj (augM r m oneF) r a a))→K (.tuple ⟨[Sl.v s',.bool true]⟩) W'):
  callN Go.Proofs.Tryz.prog W0 M 39 [s.v] W K:=
 callN_of (fun W' hE=>matInverse_ok (M:=fun _=>False) (h.ext hE) hr1 hr hd hz hK hK1) (fun W' v W'' hE hE' hP=>by
  obtain⟨s',rfl,h⟩:=hP
  exact kont s' W'' (hE.trans hE') h)
end Go.Proofs.YthpmkcidkcmlgaaGreat

/- Exponents up to a bound; products that fit. -/
set_option linter.unusedVariables false
set_option linter.unusedSimpArgs false
namespace Go.Proofs.YthpmkcidkcmlgaaGreat
open Go Go.SX
theorem mulP_of {p q:List Tm} (h:MulOK p q):mulP p q=pnorm (ppairs p q):=by unfold mulP;rw[if_pos h]
end Go.Proofs.YthpmkcidkcmlgaaGreat

/- cincturelaw12.System: polynomials of texts. -/
set_option maxRecDepth 100000
set_option linter.unusedVariables false
set_option linter.unusedSimpArgs false
namespace Go.Proofs.YthpmkcidkcmlgaaGreat
open Go Go.SX
abbrev Ps (W:PW) (s:Sl) (ps:List (List Tm)):Prop:=IsPolys 317 188 W s ps
end Go.Proofs.YthpmkcidkcmlgaaGreat

/- cinctureref1: MatRight, square, rows, One, Ldl, Semi; ldl.Semi. -/
set_option maxRecDepth 100000
set_option linter.unusedVariables false
set_option linter.unusedSimpArgs false
namespace Go.Proofs.YthpmkcidkcmlgaaGreat
open Go Go.SX
end Go.Proofs.YthpmkcidkcmlgaaGreat

/- poly.Same. -/
set_option maxRecDepth 100000
set_option linter.unusedVariables false
set_option linter.unusedSimpArgs false
namespace Go.Proofs.YthpmkcidkcmlgaaGreat
open Go Go.SX
end Go.Proofs.YthpmkcidkcmlgaaGreat
