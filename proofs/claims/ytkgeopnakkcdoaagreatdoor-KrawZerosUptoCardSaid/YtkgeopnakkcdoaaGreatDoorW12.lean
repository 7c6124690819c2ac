import Derived.Test.YtkgeopnakkcdoaaGreatDoorW11
import Derived.Test.YtkgeopnakkcdoaaGreatDoorLib5
import Derived.Test.YtkgeopnakkcdoaaGreatDoorW9
import Derived.Test.YtkgeopnakkcdoaaGreatDoorLib4
import Derived.Test.YtkgeopnakkcdoaaGreatDoorR10
import Derived.Test.YtkgeopnakkcdoaaGreatDoorW10
import Derived.Shelf.Spec.TrailingZeros
import Derived.Shelf.SlGeneric
import Derived.Test.YtkgeopnakkcdoaaGreatDoorProg
import Derived.Test.YtkgeopnakkcdoaaGreatDoorTt
import Derived.Test.YtkgeopnakkcdoaaGreatDoorLib1
import Derived.Test.YtkgeopnakkcdoaaGreatDoorW7
import Derived.Test.YtkgeopnakkcdoaaGreatDoorLib3
import Derived.Test.YtkgeopnakkcdoaaGreatDoorRows
import Derived.WalkKit
import Derived.ProofKit
import Derived.OpenShut
import Derived.JoinedCond
import Derived.Carry
import Derived.Deep.Strs
import Derived.Deep.Slices
set_option linter.unusedVariables false
set_option linter.unusedSimpArgs false
set_option maxRecDepth 100000
namespace Go.Proofs.YtkgeopnakkcdoaaGreatDoor
open Go Go.SX
variable {K:Value->PW->Prop}{M:Nat->Prop}{W W0:PW}{f:Nat->Rat}{m m2:Nat->Nat->Rat}{n0 r:Nat}{s t:Sl}{tu:TypeId}{xs ys:List (List Value)}
def Nf7 (r:Nat) (m m2:Nat->Nat->Rat):Nat->Nat->Rat:=λ a b=>if b<r then m a b else m2 a (b-r)
theorem Qs.Nf5 {W':PW}{tt:TypeId}{sz:Nat}{n:Nat}(hO:Go.SX.Own W tt sz s xs)(c:Au9 (λ g=>s.v.ownBlock=some g) W W')(d:tu≠tt)(h:Qs tu W ys n f):Qs tu W' ys n f:=
 ⟨h.1,λ i hi=>let⟨s1,b,s2,h1,e⟩:=h.2 i hi;⟨s1,b,s2,h1,Ab3.own hO c d e⟩⟩
theorem Qs.Ne6 {g:Nat->Rat}(h:Qs tu W xs r f)(k:Qs tu W ys r g):Qs tu W (xs ++ ys) (r+r) (λ b=>if b<r then f b else g (b-r)):=by
 refine⟨by rw[List.length_append,h.1,k.1],λ i hi=>?_⟩
 by_cases e:i<r
 ·obtain⟨s1,b,s2,h1,c⟩:=h.2 i e
  refine⟨s1,b,s2,by rw[List.getElem?_append_left (by rw[h.1];exact e)];exact h1,?_⟩;dsimp only;rw[if_pos e];exact c
 ·obtain⟨s1,b,s2,h1,c⟩:=k.2 (i-r) (by omega)
  refine⟨s1,b,s2,by rw[List.getElem?_append_right (by rw[h.1];omega),h.1];exact h1,?_⟩;dsimp only;rw[if_neg e];exact c
def coI (W0:PW) (r:Nat) (m m2:Nat->Nat->Rat) (L:List PL) (W:PW):Prop:=match L with
 | [.row l,.val (.int .i64 i)]=>Eo1 W0.w.heap.size W0 W/\∃(k:Nat) (ss:List Sl),i=(k:Int)/\k<=r/\ss.length=k/\l=ss.map (λ x=>[x.v])/\
   (∀i (h:i<ss.length),∃xs,Go.SX.Own W 50 3 ss[i] xs/\Qs 257 W xs (r+r) (Nf7 r m m2 i)/\∀g,ss[i].v.ownBlock=some g->W0.w.heap.size<=g)/\
   ∀i j (hi:i<ss.length) (c:j<ss.length),i≠j->∀g,ss[i].v.ownBlock=some g->ss[j].v.ownBlock≠some g
 | _=>False
theorem Mz2 (V:Gf6 n0 W0)(h:Gf9 257 50 84 W0 s r (λ _=>r) m)(F:Gf9 257 50 84 W0 t r (λ _=>r) m2)(hr:r<=12):
  Aa0 Tryz.prog 90 [s.v,t.v] W0 M λ v W'=>∃(s':Sl),∃(ss:List Sl),v=Sl.v s'/\ss.length=r/\OM W' s' ss (r+r) (Nf7 r m m2)/\(∀g,s'.v.ownBlock=some g->n0<=g)/\(∀i (hi:i<ss.length),∀g,ss[i].v.ownBlock=some g->n0<=g):=by
 apply Mx6;have al:=h.n;have am:=F.n;have G:n0<=W0.w.heap.size:=V;refine⟨coI W0 r m m2,λ L _=>match L with | [_,.val (.int .i64 i)]=>r-i.toNat | _=>0,⟨Au9.refl _ _,0,[],rfl,Nat.zero_le _,rfl,rfl,λ i h=>by simp at h,λ i j h=>by simp at h⟩,?_⟩;rintro l3 i4 X ⟨w,k,ss,rfl,hk,I,rfl,z,J⟩;have a5:=h.new w (Nat.le_refl _);have N:=F.new w (Nat.le_refl _);refine⟨λ an=>?_,λ Y Z ao O hO hf ap C=>⟨Z,ss,rfl,by omega,⟨hO.ext C,λ i hi=>?_,J⟩,λ g c=>Nat.le_trans G (hf g c).1,λ i hi g c=>?_⟩⟩
 ·have P:k<r:=by omega
  obtain⟨x,e1,e2⟩:=a5.at (i:=k) P;refine⟨a5.inB (by omega) (by omega),x,e1,My3 e2 (by omega) λ s9 xs W8 n ⟨o,ae,Q⟩=>⟨s9,rfl,λ _=>?_,λ Y=>by omega⟩⟩;obtain⟨y,f1,f2⟩:=(N.ext n).at (i:=k) P;obtain⟨ys,af,R⟩:=f2;refine⟨(N.ext n).inB (by omega) (by omega),y,f1,ys,⟨_,af⟩,?_⟩;have D:W0.w.heap.size<=X.w.heap.size:=w.size;have ar:=Q.1;have au:=R.1;intro W' l;have A:=ae.ext l;refine⟨xs,A,λ g c=>.inr (Nat.le_trans D (o g c)),by omega,λ S av p ag T=>⟨by simp only[List.length_map,List.length_cons,List.length_nil];omega,by unfold I64;omega,⟨(w.trans ((n.trans l).toM _)).trans (p.mono λ g c=>Nat.le_trans D (o g c)),k+1,ss ++ [S],by push_cast;rfl,by omega,by simp[I],by simp,λ i hi=>?_,?_⟩,?_⟩⟩
  ·by_cases e:i<ss.length
   ·obtain⟨zs,k1,k2,B⟩:=z i e
    rw[List.getElem_append_left e];have ah:=k1.ext (n.trans l);refine⟨zs,ah.other p λ g c d=>?_,Qs.Nf5 A p (by decide) (k2.ext (n.trans l)),B⟩;have b1:=(k1.block c).1;have b2:=o g d;omega
   ·have:i=ss.length:=by simp at hi;omega
    subst this;rw[List.getElem_concat_length rfl];refine⟨_,ag,?_,λ g c=>?_⟩
    ·have:=Qs.Ne6 (Qs.Nf5 A p (by decide:257≠50) (Q.ext l)) (Qs.Nf5 A p (by decide:257≠50) (R.ext l))
     rw[I];exact this
    ·rcases T g c with q | q
     ·exact Nat.le_trans D (o g q)
     ·have:=(n.trans l).size
      omega
  ·have key: ∀i (hi:i<ss.length) g,S.v.ownBlock=some g->ss[i].v.ownBlock≠some g:=by
    intro i hi g c d;obtain⟨zs,k1,k2,B⟩:=z i hi;have b1:=(k1.block d).1;rcases T g c with q | q
    ·have:=o g q
     omega
    ·have:=(n.trans l).size
     omega
   intro i j hi hj aj g c d;simp only[List.length_append,List.length_cons,List.length_nil] at hi hj
   by_cases E:i<ss.length
   ·rw[List.getElem_append_left E] at c
    by_cases U:j<ss.length
    ·rw[List.getElem_append_left U] at d
     exact J i j E U aj g c d
    ·have:j=ss.length:=by omega
     subst this;rw[List.getElem_concat_length rfl] at d;exact key i E g d c
   ·have:i=ss.length:=by omega
    subst this;rw[List.getElem_concat_length rfl] at c;rw[List.getElem_append_left (by omega)] at d;exact key j (by omega) g c d
  ·show r-Int.toNat ((k:Int)+1)<r-Int.toNat (k:Int)
   omega
 ·obtain⟨xs,k1,k2,_⟩:=z i hi
  exact⟨xs,k1.ext (O.trans C),k2.ext (O.trans C)⟩
 ·obtain⟨xs,k1,k2,B⟩:=z i hi
  exact Nat.le_trans G (B g c)
theorem My0 (d:Gf6 n0 W)(h:Gf9 257 50 84 W s r (λ _=>r) m)(e:Gf9 257 50 84 W t r (λ _=>r) m2)(j:r<=12)(l: ∀(s':Sl) (ss:List Sl) (W':PW),Ext W W'->(ss.length=r/\OM W' s' ss (r+r) (Nf7 r m m2)/\(∀g,s'.v.ownBlock=some g->n0<=g)/\(∀i (hi:i<ss.length),∀g,ss[i].v.ownBlock=some g->n0<=g))->K (Sl.v s') W'):
  Aa1 Tryz.prog W0 M 90 [s.v,t.v] W K:=
 Mi4 (λ _ c=>Mz2 (d.ext c) (h.ext c) (e.ext c) j) fun | _,W',c,⟨s',ss,rfl,h⟩=>l s' ss W' c h
theorem My9 (h:Gf9 257 50 84 W0 s r (λ _=>r) m)(h1:1<=r)(c:r<=12):
  Aa0 Tryz.prog 89 [s.v] W0 M λ v W'=>v = .bool true/\True:=by
 apply Mx5;have n:=h.n;refine Gn0 h (by omega) λ b o d g=>⟨b,rfl,λ p=>?_,λ e=>?_⟩
 ·obtain⟨x,j,l⟩:=(h.ext d).at (i:=0) (by omega)
  have q:=l.n;refine⟨(h.ext d).inB (by omega) (by omega),x,j,λ w z=>⟨?_,trivial⟩⟩;rw[decide_eq_true (by omega)]
 ·have:=g.2 ⟨λ _ _=>rfl,h1,c,h1,c⟩
  rw[this] at e;cases e
theorem Mx2 (h:Gf9 257 50 84 W s r (λ _=>r) m)(h1:1<=r)(d:r<=12)(e: ∀(W':PW),Ext W W'->(True)->K (.bool true) W'):
  Aa1 Tryz.prog W0 M 89 [s.v] W K:=
 Mi4 (λ _ c=>My9 (h.ext c) h1 d) fun | _,W',c,⟨rfl,h⟩=>e W' c h
def Nf9 (m:Nat->Nat->Rat) (i:Nat):Nat->Nat->Rat:=λ a b=>if a≠i/\i<=b then m a b-m a i/m i i*m i b else m a b
def gj (m:Nat->Nat->Rat):Nat->Nat->Nat->Rat
 | 0=>m
 | i+1=>Nf9 (gj m i) i
def ivI (W0:PW) (r:Nat) (s:Sl) (ss:List Sl) (m:Nat->Nat->Rat) (L:List PL) (W:PW):Prop:=match L with
 | [.val (.int .i64 z)]=>∃i:Nat,z=(i:Int)/\i<=r/\Eo1 W0.w.heap.size W0 W/\OM W s ss (r+r) (gj m i)
 | _=>False
def ivK (r c:Nat) (d:PW) (s:Sl) (f:Nat->Nat->Rat) (L:List PL) (W:PW):Prop:=match L with
 | [.val (.int .i64 z)]=>∃k:Nat,z=(k:Int)/\k<=r/\Eo1 c d W/\Gl4 257 50 84 (c<=·) W s r r (λ a b=>if a<k then f a b else 0)
 | _=>False
def ivL (r c:Nat) (d:PW) (s:Sl) (f:Nat->Nat->Rat) (k:Nat) (L:List PL) (W:PW):Prop:=match L with
 | [.val (.int .i64 z)]=>∃l:Nat,z=(l:Int)/\l<=r/\Eo1 c d W/\Gl4 257 50 84 (c<=·) W s r r (λ a b=>if a<k\/(a=k/\b<l) then f a b else 0)
 | _=>False
def Nf4 (n:Nat) (L:List PL) (_:PW):Nat:=match L with
 | [.val (.int .i64 z)]=>n-z.toNat
 | _=>0
end Go.Proofs.YtkgeopnakkcdoaaGreatDoor
namespace Go.Proofs.YtkgeopnakkcdoaaGreatDoor
open Go Go.SX
variable {K:Value->PW->Prop}{K0 a k r:Nat}{M:Nat->Prop}{W W0:PW}{m:Nat->Nat->Rat}{s:Sl}{ss:List Sl}
def pvI (W0:PW) (k n:Nat) (m:Nat->Nat->Rat) (L:List PL) (W:PW):Prop:=match L with
 | [.val (.int .i64 z)]=>∃i:Nat,z=(i:Int)/\k<=i/\i<=n/\Ext W0 W/\∀b,k<=b->b<i->m b k=0
 | _=>False
def Nd1 (W:PW) (s:Sl) (ss:List Sl) (c k:Nat) (m:Nat->Nat->Rat) (v:Value):Prop:=
 ∃b is:Bool,v = .tuple ⟨[.bool b,.bool is]⟩/\(is=false->pv m k ss.length=none)/\(is=true->∃(a:Nat) (d:List Sl),pv m k ss.length=some a/\d.length=ss.length/\(∀a (h1:a<d.length),∃b,∃(e:b<ss.length),d[a]=ss[b])/\OM W s d c (Mv2 m a k))
theorem Nf8 (h: ∀b,k<=b->b<r->m b k=0):pv m k r=none:=by
 cases e:pv m k r with
 | none=>rfl
 | some a=>
  obtain⟨h1,c,d⟩:=Mw7 e;exact absurd (h a h1 c) d
theorem Mz5 {c K:Nat}(h:OM W0 s ss c m)(hk:k<ss.length)(C:k<c)(V:ss.length<=1048576)(D: ∀a,a<ss.length->Sz K (m a k))(X:K<=1000000):
  Aa0 Tryz.prog 91 [s.v,.int .i64 (k:Int)] W0 (λ g=>s.v.ownBlock=some g) λ v W'=>Nd1 W' s ss c k m v:=by
 apply My4;have Y:=h.n;refine⟨pvI W0 k ss.length m,λ L _=>match L with | [.val (.int .i64 z)]=>ss.length-z.toNat | _=>0,⟨k,rfl,Nat.le_refl _,by omega,Ext.refl _,λ b h1 E=>by omega⟩,?_⟩;rintro i3 Z ⟨i,rfl,F,hi,q,n⟩;refine⟨λ aa=>?_,λ ab W w=>⟨false,false,rfl,λ _=>?_,λ e=>(by cases e)⟩⟩
 ·have d:i<ss.length:=by omega
  have l:=h.ext q;obtain⟨G,I,J,N,q1⟩:=l.at (i:=i) (j:=k) d C;have o:=l.inB (i:=(i:Int)) (by omega) (by omega);have A:=l.inB (i:=(k:Int)) (by omega) (by omega);refine⟨o,ss[i],l.elem d,l.Ne8 d (by omega) (by omega),G,I,J,N,Bk6 q1 (D i d) (by omega) λ ac B _=>⟨_,rfl,λ O=>?_,λ heq=>?_⟩⟩
  ·have p:=l.ext B
   refine⟨A,ss[k],p.elem hk,o,ss[i],p.elem d,o,?_⟩;refine p.swap A d hk (by omega) (by decide) (by decide) (λ g P=>.inl P) λ Q ad hX R S T W w=>⟨_,_,rfl,λ e=>(by cases e),λ _=>⟨i,Q,Nc7 F d (λ e=>O ((Be6 _ 0).2 e)) n,R,S,T.ext w⟩⟩
  ·have U:m i k=0:=(Be6 _ 0).1 (by omega)
   refine⟨by unfold I64;omega,⟨i+1,by push_cast;rfl,by omega,by omega,q.trans B,λ b h1 E=>?_⟩,?_⟩
   ·by_cases e:b=i
    ·subst e;exact U
    ·exact n b h1 (by omega)
   ·show ss.length-Int.toNat ((i:Int)+1)<ss.length-Int.toNat (i:Int)
    omega
 ·have:i=ss.length:=by omega
  subst this;exact Nf8 n
theorem Mx7 {c:Nat}(h:OM W s ss c m)(hk:k<ss.length)(n:k<c)(o:ss.length<=1048576)(p: ∀a,a<ss.length->Sz K0 (m a k))(q:K0<=1000000)(w: ∀g,s.v.ownBlock=some g->may W0 M g)(z: ∀v W' d,Ext W W'->Au9 (λ g=>s.v.ownBlock=some g) W' d->Nd1 d s ss c k m v->K v d):
  Aa1 Tryz.prog W0 M 91 [s.v,.int .i64 (k:Int)] W K:=λ W' e=>by
 have j:=h.ext e;exact⟨_,_,Mz5 j hk n o p q,λ g l=>⟨(j.1.block l).2,w g l⟩,λ v d A B=>z v W' d e A B⟩
def Mw3 (m:Nat->Nat->Rat) (i j:Nat):Nat->Nat->Rat:=λ a b=>if a<j/\a≠i/\i<=b then m a b-m a i/m i i*m i b else m a b
theorem Nc1 {i:Nat}{j:Nat}{b:Nat}{K:Nat}(h1:Sz K (m a b))(c:Sz K (Mz8 m i a b)):Sz K (Mw3 m i j a b):=by
 unfold Mw3
 by_cases e:a<j/\a≠i/\i<=b
 ·rw[if_pos e]
  unfold Mz8 at c;rw[if_pos e.2] at c;exact c
 ·rw[if_neg e]
  exact h1
def igI (W0:PW) (r:Nat) (s:Sl) (A:Nat->Nat->Rat) (c:Nat) (L:List PL) (W:PW):Prop:=match L with
 | [.val (.int .i64 z)]=>∃(i:Nat) (M:Nat->Nat->Rat) (ss:List Sl),z=(i:Int)/\i<=r/\Eo1 W0.w.heap.size W0 W/\gjG r A i=some M/\ss.length=r/\(∀a (h:a<ss.length) g,ss[a].v.ownBlock=some g->c<=g)/\OM W s ss (r+r) M
 | _=>False
def igJ (W0:PW) (r:Nat) (s:Sl) (ss:List Sl) (m:Nat->Nat->Rat) (i:Nat) (L:List PL) (W:PW):Prop:=match L with
 | [.val (.int .i64 z)]=>∃j:Nat,z=(j:Int)/\j<=r/\Eo1 W0.w.heap.size W0 W/\OM W s ss (r+r) (Mw3 m i j)
 | _=>False
theorem Nb7 {c K:Nat}(d:a<r)(hk:k<r)(h: ∀x b,x<r->b<c->Sz K (m x b)): ∀x b,x<r->b<c->Sz K (Mv2 m a k x b):=λ x b e g=>h _ b (Mz0 d hk e) g
theorem Nd8 {A:Nat->Nat->Rat}: ∀{k j:Nat},gjG r A k=none->k<=j->gjG r A j=none
 | k,j,h,hle=>by
  induction j with
  | zero=>
   have:k=0:=by omega
   subst this;exact h
  | succ j ih=>
   by_cases e:k=j+1
   ·subst e;exact h
   ·rw[gjG,ih (by omega)]
theorem Mx9 (h:Gf9 257 50 84 W0 s r (λ _=>r) m)(ab:1<=r)(hr:r<=5)(E: ∀i M,i<=r->gjG r (Mw0 r m) i=some M->∀a b,a<r->b<r+r->Sz K0 (M a b))(hK:K0<=1000000)(ad:1<=K0):
  Aa0 Tryz.prog 31 [s.v] W0 M λ v W'=>∃(s':Sl),v = .tuple ⟨[Sl.v s',.bool (gjG r (Mw0 r m) r).isSome]⟩/\(∀M,gjG r (Mw0 r m) r=some M->Gf9 257 50 84 W' s' r (λ _=>r) (My2 r M))/\(gjG r (Mw0 r m) r=none->s'=⟨none,0,0⟩):=by
 apply Mx0;have aw:=h.n;refine Mx2 h ab (by omega) λ W2 F _=>⟨true,rfl,λ e=>(by cases e),λ _=>?_⟩;rw[aw];have ay:Gf6 W0.w.heap.size W2:=F.size;refine Mj8 ay ab (by omega) λ s7 W6 R h7=>⟨s7,rfl,?_⟩;have aC:Gf6 W0.w.heap.size W6:=(F.trans R).size;refine My0 aC (h.ext (F.trans R)) h7.mat (by omega) λ G ss W9 aE ⟨B,S,ae,T⟩=>⟨G,rfl,?_⟩;obtain⟨A,hA⟩: ∃A,Mw0 r m=A:=⟨_,rfl⟩;have S:OM W9 G ss (r+r) A:=by
  rw[<-hA];exact S
 rw[hA] at E⊢;have E9:=F.trans (R.trans aE);refine⟨igI W0 r G A W0.w.heap.size,Nf4 r,⟨0,A,ss,rfl,Nat.zero_le _,E9.toM _,rfl,B,T,S⟩,?_⟩;rintro i13 I ⟨i,M,ss,rfl,hi,ag,c,B,T,U⟩;refine⟨λ aG=>?_,λ aH=>?_⟩
 ·have aI:i<r:=by omega
  have ah:=E i M (by omega) c;refine Mx7 U (by omega) (by omega) (by omega) (λ a p=>ah a i (by omega) (by omega)) hK (λ g c=>.inr (ae g c)) λ v br bt aJ hX ⟨b,is,hv,p1,p2⟩=>⟨b,is,hv,λ e W hE=>?_,λ e=>?_⟩
  ·have e:is=false:=by simpa using e
   have n:=p1 e;rw[B] at n;have aO:gjG r A (i+1)=none:=by rw[gjG,c];dsimp only;rw[n]
   have ai:=Nd8 aO (show i+1<=r by omega);exact⟨⟨none,0,0⟩,by rw[ai];rfl,λ M' C=>(by rw[ai] at C;cases C),λ _=>rfl⟩
  have e:is=true:=by simpa using e
  obtain⟨a,D,n,aj,aQ,ak⟩:=p2 e;rw[B] at n aj;obtain⟨bv,aR,bw⟩:=Mw7 n;obtain⟨M2,V⟩: ∃M2,Mv2 M a i=M2:=⟨_,rfl⟩;have al:gjG r A (i+1)=some (Mz8 M2 i):=by rw[gjG,c];dsimp only;rw[n,<-V]
  have aS: ∀x b,x<r->b<r+r->Sz K0 (M2 x b):=by
   rw[<-V];exact Nb7 aR aI ah
  rw[V] at ak;have X: ∀a (h:a<D.length) g,D[a].v.ownBlock=some g->W0.w.heap.size<=g:=λ a p g c=>by
   obtain⟨b,o,e⟩:=aQ a p;rw[e] at c;exact T b o g c
  have aT:=(ag.trans (aJ.toM _)).trans (hX.mono λ g c=>ae g c);refine⟨igJ W0 r G D M2 i,Nf4 r,⟨0,rfl,Nat.zero_le _,aT,ak.congr λ a b _ _=>by unfold Mw3;rw[if_neg (by omega)]⟩,?_⟩;rintro i22 bx ⟨j,rfl,hj,Y,Z⟩;refine⟨λ aU=>⟨λ bA=>?_,λ heq=>⟨by unfold I64;omega,⟨j+1,by push_cast;rfl,by omega,Y,Z.congr λ a b _ _=>?_⟩,?_⟩⟩,λ aV=>⟨by unfold I64;omega,⟨i+1,Mz8 M2 i,D,by push_cast;rfl,by omega,Y,al,aj,X,Z.congr λ a b p o=>?_⟩,?_⟩⟩
  ·have bB:j<r:=by omega
   have aW:j≠i:=by omega
   have aX: ∀a b,a<D.length->b<r+r->Sz K0 (Mw3 M2 i j a b):=λ a b p o=>Nc1 (aS a b (by omega) o) (E (i+1) _ (by omega) al a b (by omega) o);refine My8 Z (by omega) (by omega) aW (by omega) (by omega) (by omega) aX hK ad (λ g c=>.inr (X j (by omega) g c)) λ bC bD aY aZ a0=>⟨rfl,by unfold I64;omega,⟨j+1,by push_cast;rfl,by omega,(Y.trans (aY.toM _)).trans (aZ.mono λ g c=>X j (by omega) g c),a0.congr λ a b _ _=>?_⟩,?_⟩
   ·unfold Mz6 Mw3
    by_cases e:a=j/\i<=b
    ·obtain⟨rfl,e2⟩:=e
     rw[if_pos ⟨rfl,e2⟩,if_neg (by omega),if_neg (by omega),if_neg (by omega),if_neg (by omega),if_pos (by omega)]
    ·rw[if_neg e]
     by_cases d:a<j/\a≠i/\i<=b
     ·rw[if_pos d,if_pos (by omega)]
     ·rw[if_neg d,if_neg (by omega)]
   ·show r-Int.toNat ((j:Int)+1)<r-Int.toNat (j:Int)
    omega
  ·have:j=i:=by omega
   subst this;unfold Mw3
   by_cases d:a<j/\a≠j/\j<=b
   ·rw[if_pos d,if_pos (by omega)]
   ·rw[if_neg d,if_neg (by omega)]
  ·show r-Int.toNat ((j:Int)+1)<r-Int.toNat (j:Int)
   omega
  ·unfold Mw3 Mz8
   by_cases d:a≠i/\i<=b
   ·rw[if_pos (by omega),if_pos d]
   ·rw[if_neg (by omega),if_neg d]
  ·show r-Int.toNat ((i:Int)+1)<r-Int.toNat (i:Int)
   omega
 have:i=r:=by omega
 subst this;obtain⟨q,bE⟩: ∃q,I.w.heap.size=q:=⟨_,rfl⟩;have hle:I.w.heap.size<=q:=by omega
 have a3:W0.w.heap.size<=q:=Nat.le_trans ag.size hle;have J:=U.mat;rw[B] at J;have bF:=U.n;have an:=E i M (Nat.le_refl _) c;refine Gp0 (n0:=q) (by unfold Gf6;omega) (by omega) (by omega) λ L bG a4 a5=>⟨L,rfl,?_⟩;refine⟨ivK i q I L (My2 i M),Nf4 i,⟨0,rfl,Nat.zero_le _,a4.toM _,a5.congr λ a b _ _=>by simp⟩,?_⟩;rintro i31 bH ⟨k,rfl,hk,aa,ao⟩;refine⟨λ aG=>?_,λ aH bI a6=>⟨L,by rw[c];rfl,λ M' C=>?_,λ e=>(by rw[c] at e;cases e)⟩⟩
 ·have w:k<i:=by omega
  have ap:=J.new aa hle;obtain⟨x,e1,e2⟩:=ap.at (i:=k) w;refine⟨ap.inB (by omega) (by omega),x,e1,?_⟩;refine⟨ivL i q I L (My2 i M) k,Nf4 i,⟨0,rfl,Nat.zero_le _,aa,ao.congr λ a b _ _=>by simp⟩,?_⟩;rintro i36 a7 ⟨l,rfl,hl,N,O⟩;refine⟨λ aU=>?_,λ aV=>⟨by unfold I64;omega,⟨k+1,by push_cast;rfl,by omega,N,O.congr λ a b p o=>?_⟩,?_⟩⟩
  ·have a8:l<i:=by omega
   have a9:=J.new N hle;obtain⟨x',ba,bb⟩:=a9.at (i:=k) w;have P:Gv6 257 50 a7 x (i+i) (M k):=by
    have hx:x=x':=by
     obtain⟨y,y1,y2⟩:=J.at (i:=k) w;have a1:=Aa7.inj (y1.new aa hle) e1 rfl;have a2:=Aa7.inj (y1.new N hle) ba rfl;simp only[List.cons.injEq,and_true,Value.slice.injEq] at a1 a2;cases x;cases x';cases y
     simp_all
    rw[hx];exact bb
   obtain⟨be,bf,bg,g1,g2⟩:=P.at (i:=i+l) (by omega);obtain⟨bh,bi,bj,g3,g4⟩:=P.at (i:=k) (by omega);obtain⟨z,z1,z2⟩:=O.mat.at (i:=k) w;have bk:Int.toNat ((i:Int)+(l:Int))=i+l:=by omega
   refine⟨O.mat.inB (by omega) (by omega),z,z1,by unfold I64;omega,P.inB (by omega) (by omega),be,bf,bg,by rw[bk];exact g1,P.inB (by omega) (by omega),bh,bi,bj,g3,?_⟩;refine Gb1 g2 g4 (an k (i+l) w (by omega)) (an k k w (by omega)) (by omega) (by omega) ad λ bl bm bn bL Q bo=>⟨bl,bm,bn,_,rfl,Q,z2.inB (by omega) (by omega),?_⟩;refine(O.ext Q).store (j:=l) (z1.ext Q) w a8 bo (by decide) (by decide) (λ g c=>.inr (Nat.le_trans a3 c)) λ bM n bp=>⟨by unfold I64;omega,⟨l+1,by push_cast;rfl,by omega,(N.trans (Q.toM _)).trans (n.Fi8 λ g c=>c),bp.congr λ a b p o=>?_⟩,?_⟩
   ·unfold Ha2
    by_cases e:a=k/\b=l
    ·rw[if_pos e,if_pos (by omega),e.1,e.2]
     rfl
    ·rw[if_neg e]
     dsimp only
     by_cases d:a<k\/(a=k/\b<l)
     ·rw[if_pos d,if_pos (by omega)]
     ·rw[if_neg d,if_neg (by omega)]
   ·show i-Int.toNat ((l:Int)+1)<i-Int.toNat (l:Int)
    omega
  ·by_cases d:a<k\/(a=k/\b<l)
   ·rw[if_pos d,if_pos (by omega)]
   ·rw[if_neg d,if_neg (by omega)]
  ·show i-Int.toNat ((k:Int)+1)<i-Int.toNat (k:Int)
   omega
 ·have:k=i:=by omega
  subst this;rw[c] at C;cases C;refine((ao.ext a6).congr λ a b p o=>?_).mat;rw[if_pos (by omega)]
theorem Mw4 (h:Gf9 257 50 84 W s r (λ _=>r) m)(d:1<=r)(e:r<=5)(g: ∀i M,i<=r->gjG r (Mw0 r m) i=some M->∀a b,a<r->b<r+r->Sz K0 (M a b))(j:K0<=1000000)(l:1<=K0)(n: ∀(s':Sl) (W':PW),Ext W W'->((∀M,gjG r (Mw0 r m) r=some M->Gf9 257 50 84 W' s' r (λ _=>r) (My2 r M))/\(gjG r (Mw0 r m) r=none->s'=⟨none,0,0⟩))->K (.tuple ⟨[Sl.v s',.bool (gjG r (Mw0 r m) r).isSome]⟩) W'):
  Aa1 Tryz.prog W0 M 31 [s.v] W K:=
 Mi4 (λ _ c=>Mx9 (h.ext c) d e g j l) fun | _,W',c,⟨s',rfl,h⟩=>n s' W' c h
end Go.Proofs.YtkgeopnakkcdoaaGreatDoor
namespace Go.Proofs.YtkgeopnakkcdoaaGreatDoor
open Go Go.SX
variable {M:Nat->Prop}{S0 i k:Nat}{W W0:PW}{bs:List Iv}{f:List (List Tm)}{s:Sl}
theorem Ff1.Hy0 {L:List (Mon×ByteArray)}{p:List Tm}{exp:Int}(h:Ff1 L exp p):Bd 90 p:=by
 have g:=h.len;refine(Bd.Co7 (k:=4) λ t c=>?_).mono (by omega);obtain⟨x,d,_,e,_⟩:=Fa5 h.1.1 c;exact Ct3 e (h.2.2 x d).1
def Mw8 (f:List (List Tm)) (bs:List Iv) (i q:Nat):Rat:=atQ (Hb9 bs) (Hc3 (fAt f i) (q:Int))
def bnd (S:Nat):Nat->Nat
 | 0=>S
 | i+1=>4*bnd S i+1
theorem Ne7 {S:Nat}(h:1<=S): ∀i,1<=bnd S i
 | 0=>h
 | i+1=>by rw[bnd];omega
theorem Nc0 {r S:Nat}{A:Nat->Nat->Rat}(h1:1<=S)(j: ∀a b,a<r->b<r+r->Sz S (A a b)): ∀{i:Nat} {M:Nat->Nat->Rat},i<=r->gjG r A i=some M->∀a b,a<r->b<r+r->Sz (bnd S i) (M a b)
 | 0,M,_,h=>by cases h;exact j
 | i+1,M,hi,h=>by
  rw[gjG] at h
  cases e:gjG r A i with
  | none=>rw[e] at h;cases h
  | some m=>
   rw[e] at h;dsimp only at h
   cases c:pv m i r with
   | none=>rw[c] at h;cases h
   | some a0=>
    rw[c] at h;cases h;obtain⟨_,l,_⟩:=Mw7 c;have hm:=Nb7 l (show i<r by omega) (Nc0 h1 j (by omega) e);intro a b d g;rw[bnd];unfold Mz8;split
    ·exact((hm a b d g).sub (((hm a i d (by omega)).div (hm i i (by omega) (by omega)) (Ne7 h1 i)).mul (hm i b (by omega) g))).mono (by omega)
    ·exact(hm a b d g).mono (by omega)
theorem Ng1 {S:Nat}(h:i<=3):bnd S i<=64*(S+1):=by
 rcases(by omega:i=0\/i=1\/i=2\/i=3) with rfl | rfl | rfl | rfl<;>simp only[bnd]<;>omega
theorem Nd7 {r:Nat}{m:Nat->Nat->Rat}{S:Nat}(h1:1<=S)(h: ∀a b,a<r->b<r->Sz S (m a b)): ∀a b,a<r->b<r+r->Sz S (Mw0 r m a b):=λ a b c d=>by
 unfold Mw0;split
 ·exact h a b c (by omega)
 ·exact(Mn7 a (b-r)).mono h1
theorem Ne9 {a:Nat}(h1:a<=30)(e:k<=300001):a*(k+3*(404*255+1)+1)+1<=400000000:=by
 have c:k+3*(404*255+1)+1<=609065:=by omega
 have d:a*(k+3*(404*255+1)+1)<=30*609065:=Nat.mul_le_mul h1 c;exact Nat.le_trans (Nat.add_le_add_right d 1) (by decide)
def kgO (W0:PW) (n:Nat) (J:Nat->Nat->Rat) (L:List PL) (W:PW):Prop:=match L with
 | [.row l,.val (.int .i64 i)]=>∃(j:Nat) (ss:List Sl),i=(j:Int)/\j<=n/\Ext W0 W/\ss.length=j/\l=ss.map (λ x=>[x.v])/\∀a (h:a<ss.length),Gv6 257 50 W ss[a] n (J a)
 | _=>False
def kgI (W0:PW) (n:Nat) (g:Nat->Rat) (L:List PL) (W:PW):Prop:=match L with
 | [.row l,.val (.int .i64 i)]=>∃j:Nat,i=(j:Int)/\j<=n/\Ext W0 W/\Qs 257 W l j g
 | _=>False
theorem Jb4 {t:TypeId}{xs:List (List Value)}{s':Sl}{b:Bool}{n:Nat}{f:Nat->Rat}(h:Qs t W xs n f)(c:Ab3 t W s b s' (f n)):Qs t W (xs ++ [[s.v,.bool b,s'.v]]) (n+1) f:=by
 refine⟨by simp[h.1],λ i hi=>?_⟩;have d:=h.1
 by_cases e:i=n
 ·subst e
  exact⟨s,b,s',by simp[d],c⟩
 ·obtain⟨s1,b1,s2,h1,g⟩:=h.2 i (by omega)
  exact⟨s1,b1,s2,by rw[List.getElem?_append_left (by omega)];exact h1,g⟩
theorem Mz1 {sb:Sl}{m:Nat}(G:Ps W0 s f)(g:Bc3 257 W0 sb bs)(n: ∀q∈f,Bd k q/\q.length<=30/\POk q)(hk:k<=300000)(z: ∀x∈bs,IvS m x)(hm:m<=100)(T:bs.length<=1000)(I:f.length<=1000)(U: ∀i q,i<f.length->q<f.length->Sz S0 (Mw8 f bs i q))(h1:1<=S0)(V:64*(S0+1)<=1000000):
  Aa0 Tryz.prog 22 [s.v,sb.v] W0 M λ v W'=>∃(s':Sl),v = .tuple ⟨[Sl.v s',.bool (decide (Mk5 f bs) && (gjG f.length (Mw0 f.length (Mw8 f bs)) f.length).isSome)]⟩/\(Mk5 f bs->∀M,gjG f.length (Mw0 f.length (Mw8 f bs)) f.length=some M->Gf9 257 50 84 W' s' f.length (λ _=>f.length) (My2 f.length M))/\(¬(Mk5 f bs/\(gjG f.length (Mw0 f.length (Mw8 f bs)) f.length).isSome=true)->s'=⟨none,0,0⟩):=by
 apply Mx8;refine Mn1 G g z (by omega) (by omega) (λ p h=>by have:=(n p h).2.1;omega) I λ W2 J _=>⟨_,rfl,λ b W _=>⟨⟨none,0,0⟩,?_,λ hF=>?_,λ _=>rfl⟩,λ b=>?_⟩
 ·have hF:¬Mk5 f bs:=by simpa using b
  rw[decide_eq_false hF];rfl
 ·simp[hF] at b
 have hF:Mk5 f bs:=by simpa using b
 have A:=hF.2.2;have aN:=hF.2.1;have aO:=A.1.1;have aP:=A.1.2;rw[decide_eq_true hF,Bool.true_and];refine Ml9 (g.ext J) A z (by omega) λ lp W6 X Y=>?_;obtain⟨Z,b8,s9,ac,ad,ae,af,ag,ah,rfl,m0,m1,m2⟩:=Y;have ai:=NmV.mk (q:=(Hb9 bs).get) m0 m1 m2;refine⟨Z,b8,s9,ac,ad,ae,af,ag,ah,rfl,?_⟩;have E6:=J.trans X;refine Mk9 (k:=k) (G.ext E6) I (λ p h=>⟨(n p h).1,by have:=(n p h).2.1;omega⟩) (by omega) λ ak al am o=>⟨ak,rfl,?_⟩;rw[if_pos (by omega)] at o;have nJ:=Mt3 o;refine⟨kgO al f.length (Mw8 f bs),cnB f.length,⟨0,[],rfl,Nat.zero_le _,Ext.refl _,rfl,rfl,λ a h=>by simp at h⟩,?_⟩;rintro l21 i22 an ⟨j,ss,rfl,hj,w,L,rfl,N⟩;refine⟨λ aT=>?_,λ aU ao ap aq hO _=>?_⟩
 ·have B:j<f.length:=by omega
  obtain⟨ar,au,g24⟩:=Ms2 (o.ext w) B;have n24:=g24.n;rw[Mm4] at n24;refine⟨Mr8 (o.ext w) (by omega) (by omega),ar,au,?_⟩;refine⟨kgI an f.length (Mw8 f bs j),cnB f.length,⟨0,rfl,Nat.zero_le _,Ext.refl _,rfl,λ i h=>by omega⟩,?_⟩;rintro l27 i28 aV ⟨q,rfl,hq,c,C⟩;have aX:=C.1;refine⟨λ aY=>?_,λ aZ av a0 D hO _=>?_⟩
  ·have aw:q<f.length:=by omega
   obtain⟨ax,ay,O⟩:=(g24.ext c).at (i:=q) (by rw[Mm4];exact aw);rw[Mr5] at O;obtain⟨P,az,Q⟩:=n _ (List.getElem_mem B);have aA:BxB k m f[j] bs:=⟨⟨P,z,Q,by omega,by omega,hm,T⟩,az,hk,by omega⟩;have E:=(ai.ext (am.trans (w.trans c))).three;have a1:=Hj1 f[j] (q:Int);refine⟨(g24.ext c).inB (by omega) (by rw[Mm4];omega),ax,ay,?_⟩;refine Gr5 (u:=Hb9 bs) (l:=404) O E.1 E.2.1 E.2.2 (Hg1 P Q _).sz (Hc8 aA) (by omega) (Ne9 (by omega) (by omega)) (by omega) λ aB aC aD a2 R aE=>⟨aB,aC,aD,rfl,by simp only[List.length_cons,List.length_nil];omega,by unfold I64;omega,⟨q+1,by push_cast;rfl,by omega,c.trans R,Jb4 (C.ext R) ?_⟩,?_⟩
   ·unfold Mw8
    rw[Mq1 B];exact aE
   ·show f.length-Int.toNat ((q:Int)+1)<f.length-Int.toNat (q:Int)
    omega
  ·have aF:q=f.length:=by omega
   subst aF;refine⟨by simp only[List.length_map,List.length_cons,List.length_nil];omega,by unfold I64;omega,⟨j+1,ss ++ [av],by push_cast;rfl,by omega,w.trans (c.trans D),by simp[L],by simp,λ a d=>?_⟩,?_⟩
   ·by_cases e:a<ss.length
    ·rw[List.getElem_append_left e]
     exact(N a e).ext (c.trans D)
    ·have:a=ss.length:=by simp at d;omega
     subst this;rw[List.getElem_concat_length rfl];have e2:ss.length=j:=L;rw[e2];exact⟨l27,hO.row,C.ext D⟩
   ·show f.length-Int.toNat ((j:Int)+1)<f.length-Int.toNat (j:Int)
    omega
 ·have a3:j=f.length:=by omega
  have F:Gf9 257 50 84 ap ao f.length (λ _=>f.length) (Mw8 f bs):=⟨ss,hO.row,by omega,λ a d=>(N a d).ext aq⟩;refine Mw4 (K0:=64*(S0+1)) F (by omega) (by omega) (λ i M hi hg a b d g=>(Nc0 h1 (Nd7 h1 U) hi hg a b d g).mono (Ng1 (by omega))) V (by omega) λ S a4 a5 ⟨p1,p2⟩=>⟨S,_,rfl,λ W hE=>⟨S,rfl,λ _ M F=>(p1 M F).ext hE,λ aL=>p2 ?_⟩⟩
  cases e:gjG f.length (Mw0 f.length (Mw8 f bs)) f.length with
  | none=>rfl
  | some M=>exact absurd ⟨hF,by rw[e];rfl⟩ aL
theorem Mx3 {K:Value->PW->Prop}{sb:Sl}{m:Nat}(d:Ps W s f)(e:Bc3 257 W sb bs)(g: ∀q∈f,Bd k q/\q.length<=30/\POk q)(hk:k<=300000)(j: ∀x∈bs,IvS m x)(hm:m<=100)(l:bs.length<=1000)(n:f.length<=1000)(o: ∀i q,i<f.length->q<f.length->Sz S0 (Mw8 f bs i q))(h1:1<=S0)(p:64*(S0+1)<=1000000)(v: ∀(s':Sl) (W':PW),Ext W W'->((Mk5 f bs->∀M,gjG f.length (Mw0 f.length (Mw8 f bs)) f.length=some M->Gf9 257 50 84 W' s' f.length (λ _=>f.length) (My2 f.length M))/\(¬(Mk5 f bs/\(gjG f.length (Mw0 f.length (Mw8 f bs)) f.length).isSome=true)->s'=⟨none,0,0⟩))->K (.tuple ⟨[Sl.v s',.bool (decide (Mk5 f bs) && (gjG f.length (Mw0 f.length (Mw8 f bs)) f.length).isSome)]⟩) W'):
  Aa1 Tryz.prog W0 M 22 [s.v,sb.v] W K:=
 Mi4 (λ _ c=>Mz1 (d.ext c) (e.ext c) g hk j hm l n o h1 p) fun | _,W',c,⟨s',rfl,h⟩=>v s' W' c h
theorem Nf1 (m:Mon)(k i:Nat)(h:m.ok):(An6 (Hj5 m k) i).toNat<=(An6 m i).toNat:=by
 unfold An6 Hj5
 (repeat' split)<;>simp_all<;>omega
theorem Nd6 (g: ∀q∈f,Bd 90 q/\Gk4 4 q/\q.length<=14)(d: ∀x∈bs,IvS 20 x)(hi:i<f.length)(q:Nat):Sz 15500 (Mw8 f bs i q):=by
 unfold Mw8;rw[Mq1 hi];obtain⟨n,he,o⟩:=g _ (List.getElem_mem hi);have h:POk f[i]:=λ t c=>(he t c).1;have p:=Hj1 f[i] (q:Int);have hu: ∀j,Sz 84 ((Hb9 bs).get j):=λ j=>by
  have e:=λ j=>Hq1 (Ep8 d j);unfold Pt.get
  (repeat' split)
  ·exact e 0
  ·exact e 1
  ·exact e 2
 refine(Gx6 (k:=91) (l:=84) (e:=4) (Hg1 n h _).sz hu λ t c j=>?_).mono ?_
 ·unfold Hc3 at c
  split at c
  ·obtain⟨u,hu,e⟩:=Gu2 c
   obtain⟨s,d,g,rfl⟩:=Hj9 hu;rw[e];have h1:=Nf1 s.1 (Int.toNat (q:Int)) j (h s d);refine Nat.le_trans h1 ?_;have v:=(he s d).2;unfold An6
   (repeat' split)<;>omega
  ·cases c
 ·have:=Nat.mul_le_mul_right (91+3*(84*4+1)+1) (show(Hc3 f[i] (q:Int)).length<=14 by omega)
  omega
end Go.Proofs.YtkgeopnakkcdoaaGreatDoor
namespace Go.Proofs.YtkgeopnakkcdoaaGreatDoor
open Go Go.SX
variable {bs:List Iv}{f:List (List Tm)}{th:Rat}{u:Pt}{x:Iv}{y:Nat->Nat->Rat}
theorem Na7 {k:Nat}(hu:Ha3 (Bm3 bs) u)(h1:bs.length<=k)(c:k<3):u.get k=0:=by
 have:=hu k c;rw[Fa0 h1] at this;have h1:=this.1;have d:=this.2;show u.get k=0;have e:(0:Rat)<=u.get k:=h1;have a2:u.get k<=(0:Rat):=d;grind
theorem Nf0 {p:List Tm}(l:bs.length<=3)(n:Av6 p)(o:POk p){v:Pt}(hu:Ha3 (Bm3 bs) u)(g:Ha3 (Bm3 bs) v): ∃h:Nat->Rat,(∀k:Nat,k<3->inI (Aq8 (Bm3 bs) (Hc3 p (k:Int))) (h k))/\atQ u p-atQ v p=Mu5 (λ k=>h k*(u.get k-v.get k)) bs.length:=by
 obtain⟨c,h1,d,k0,k1,k2,e⟩:=Hj6 hu g p o;have q: ∀i:Nat,i<3->Aq8 (Bm3 bs) (Hc3 p (i:Int))=ovS (Bm3 bs) (Hc1 p i):=λ i hi=>by rw[Gc3,Hp8 n hi]
 refine⟨λ k=>if k=0 then c else if k=1 then h1 else d,λ k hk=>?_,?_⟩
 ·rcases(by omega:k=0\/k=1\/k=2) with rfl | rfl | rfl
  ·rw[q 0 (by omega)];exact k0
  ·rw[q 1 (by omega)];exact k1
  ·rw[q 2 (by omega)];exact k2
 ·rw[Hr9,Hr9,e]
  have z: ∀k,bs.length<=k->k<3->u.get k=0/\v.get k=0:=λ k a b=>⟨Na7 hu a b,Na7 g a b⟩;have w:Mu5 (λ k=>(if k=0 then c else if k=1 then h1 else d)*(u.get k-v.get k)) 3=Mu5 (λ k=>(if k=0 then c else if k=1 then h1 else d)*(u.get k-v.get k)) bs.length:=Mv9 l λ j a b=>by
   obtain⟨A,a2⟩:=z j a b;rw[A,a2];grind
  rw[<-w];simp only[Mu5];show _=0+c*(u.x-v.x)+h1*(u.y-v.y)+d*(u.z-v.z);grind
theorem Ne4 {z:Iv}{v w:Rat}(h:inI x v)(k:inI z w):inI (He4 x z) (v-w):=by
 obtain⟨a,b⟩:=h;obtain⟨c,d⟩:=k;exact⟨by show x.1-z.2<=v-w;grind,by show v-w<=x.2-z.1;grind⟩
theorem Nc9 {v:Rat}(h:inI x v)(r:Rat):inI (De8 x r) (r*v):=by
 rw[<-Ez7,Rat.mul_comm];exact Gc0 h ⟨Rat.le_refl,Rat.le_refl⟩
theorem Nd3 {f:List (List Tm)}{y:Nat->Nat->Rat}{bs:List Iv}{H:Nat->Nat->Rat}{i k:Nat}: ∀{n:Nat} (_: ∀j,j<n->inI (Aq8 (Bm3 bs) (Hc3 (fAt f j) (k:Int))) (H j k)),inI (krS f y bs i k n) ((if i=k then 1 else 0)-Mu5 (λ j=>y i j*H j k) n)
 | 0,_=>by
  have e:(if i=k then(1:Rat) else 0)-Mu5 (λ j=>y i j*H j k) 0=if i=k then 1 else 0:=by unfold Mu5;grind
  rw[e];exact⟨Rat.le_refl,Rat.le_refl⟩
 | n+1,h=>by
  have h1:=Nd3 (f:=f) (y:=y) (bs:=bs) (H:=H) (i:=i) (k:=k) (n:=n) λ j d=>h j (by omega);have c:=Ne4 h1 (Nc9 (h n (by omega)) (y i n));have e:(if i=k then(1:Rat) else 0)-Mu5 (λ j=>y i j*H j k) (n+1)=(if i=k then(1:Rat) else 0)-Mu5 (λ j=>y i j*H j k) n-y i n*H n k:=by
   show _-(Mu5 (λ j=>y i j*H j k) n+y i n*H n k)=_;grind
  rw[e];exact c
def yf (f:List (List Tm)) (y:Nat->Nat->Rat) (n:Nat) (u:Pt) (i:Nat):Rat:=Mu5 (λ j=>y i j*atQ u (fAt f j)) n
theorem Nd5 (f:List (List Tm))(y:Nat->Nat->Rat)(bs:List Iv)(i:Nat): ∀n,krA f y bs i n=(Hb9 bs).get i-yf f y n (Hb9 bs) i
 | 0=>by unfold yf Mu5 krA;grind
 | n+1=>by
  rw[krA,Nd5 f y bs i n];show _=_-(yf f y n (Hb9 bs) i+y i n*atQ (Hb9 bs) (fAt f n));grind
theorem Mv6 (hF:Mk5 f bs)(d: ∀p∈f,Av6 p/\POk p){v:Pt}(hu:Ha3 (Bm3 bs) u)(l:Ha3 (Bm3 bs) v): ∃s:Nat->Nat->Rat,(∀i k,i<bs.length->k<bs.length->inI (krS f y bs i k f.length) (s i k))/\∀i,i<bs.length->(u.get i-v.get i)-(yf f y f.length u i-yf f y f.length v i)=Mu5 (λ k=>s i k*(u.get k-v.get k)) bs.length:=by
 have n:=hF.2.2.1.2;have key: ∀j,∃h:Nat->Rat,j<f.length->(∀k:Nat,k<3->inI (Aq8 (Bm3 bs) (Hc3 (fAt f j) (k:Int))) (h k))/\atQ u (fAt f j)-atQ v (fAt f j)=Mu5 (λ k=>h k*(u.get k-v.get k)) bs.length:=λ j=>by
  by_cases c:j<f.length
  ·rw[Mq1 c]
   obtain⟨g,o⟩:=d _ (List.getElem_mem c);obtain⟨h,k⟩:=Nf0 n g o hu l;exact⟨h,λ _=>k⟩
  ·exact⟨λ _=>0,λ h=>absurd h c⟩
 obtain⟨H,hH⟩:=Classical.axiomOfChoice key;refine⟨λ i k=>(if i=k then 1 else 0)-Mu5 (λ j=>y i j*H j k) f.length,λ i k hi hk=>Nd3 (H:=H) λ j c=>(hH j c).1 k (by omega),λ i hi=>?_⟩;have q:yf f y f.length u i-yf f y f.length v i=Mu5 (λ j=>Mu5 (λ k=>y i j*H j k*(u.get k-v.get k)) bs.length) f.length:=by
  have:Mu5 (λ j=>Mu5 (λ k=>y i j*H j k*(u.get k-v.get k)) bs.length) f.length=Mu5 (λ j=>y i j*atQ u (fAt f j)+(-1)*(y i j*atQ v (fAt f j))) f.length:=Mu6 λ j c=>by
   have w:Mu5 (λ k=>y i j*H j k*(u.get k-v.get k)) bs.length=Mu5 (λ k=>y i j*(H j k*(u.get k-v.get k))) bs.length:=Mu6 λ k _=>by grind
   rw[w,Mu8,<-(hH j c).2];grind
  rw[this,Mw5,Mu8];unfold yf;grind
 rw[q,Nc2];have z:Mu5 (λ k=>((if i=k then 1 else 0)-Mu5 (λ j=>y i j*H j k) f.length)*(u.get k-v.get k)) bs.length=Mu5 (λ k=>(if k=i then u.get k-v.get k else 0)+(-1)*Mu5 (λ j=>y i j*H j k*(u.get k-v.get k)) f.length) bs.length:=Mu6 λ k _=>by
  have A:Mu5 (λ j=>y i j*H j k*(u.get k-v.get k)) f.length=Mu5 (λ j=>(u.get k-v.get k)*(y i j*H j k)) f.length:=Mu6 λ j _=>by grind
  rw[A,Mu8]
  by_cases e:i=k
  ·rw[if_pos e,if_pos e.symm]
   grind
  ·rw[if_neg e,if_neg λ h=>e h.symm]
   grind
 rw[z,Mw5,Mu8,Mv4 (k:=i) hi λ j _ c=>if_neg c,if_pos rfl];grind
theorem Nc6 (hF:Mk5 f bs)(e:Mq8 f y bs)(g: ∀p∈f,Av6 p/\POk p){v:Pt}(hu:Ha3 (Bm3 bs) u)(h:Ha3 (Bm3 bs) v)(l: ∀j,j<f.length->atQ u (fAt f j)=0)(zv: ∀j,j<f.length->atQ v (fAt f j)=0): ∀i,i<bs.length->u.get i=v.get i:=λ i hi=>by
 obtain⟨s,h1,n⟩:=Mv6 (y:=y) hF g hu h;have o: ∀i,yf f y f.length u i=0:=λ i=>Mv7 λ j c=>by rw[l j c,Rat.mul_zero]
 have z2: ∀i,yf f y f.length v i=0:=λ i=>Mv7 λ j c=>by rw[zv j c,Rat.mul_zero]
 have:=Ne0 (d:=λ k=>u.get k-v.get k) hF e h1 (λ i hi=>by
  have:=n i hi;rw[o,z2] at this;grind) i hi
 have this:u.get i-v.get i=0:=this;grind
def Nd0 (f:List (List Tm)) (y:Nat->Nat->Rat) (bs:List Iv) (u:Pt):Pt:=⟨if 0<bs.length then u.x-yf f y f.length u 0 else 0,if 1<bs.length then u.y-yf f y f.length u 1 else 0,if 2<bs.length then u.z-yf f y f.length u 2 else 0⟩
theorem Nb5 {i:Nat}(f:List (List Tm))(y:Nat->Nat->Rat)(bs:List Iv)(u:Pt)(hi:i<3):(Nd0 f y bs u).get i=if i<bs.length then u.get i-yf f y f.length u i else 0:=by
 rcases(by omega:i=0\/i=1\/i=2) with rfl | rfl | rfl<;>rfl
theorem Nd2 (hF:Mk5 f bs)(e:Mq8 f y bs)(g: ∀p∈f,Av6 p/\POk p)(hu:Ha3 (Bm3 bs) u):Ha3 (Bm3 bs) (Nd0 f y bs u):=λ i h=>by
 rw[Nb5 f y bs u h]
 by_cases hi:i<bs.length
 ·rw[if_pos hi]
  have c: ∀x∈bs,x.1<=x.2:=λ x j=>Rat.le_of_lt (hF.2.2.2 x j);obtain⟨s,h1,l⟩:=Mv6 (y:=y) hF g hu (Hq3 c);have n:=Mv3 (f:=f) (y:=y) (s:=s) (d:=λ k=>u.get k-(Hb9 bs).get k) (rho:=1) (by decide +kernel) c (i:=i) (λ k hk=>h1 i k hi hk) λ k hk=>by
   have a:=hu k (by have:=hF.2.2.1.2;omega);obtain⟨m1,m2⟩:=Na6 (Bm3 bs k);rw[Hd5 bs (by have:=hF.2.2.1.2;omega),Rat.one_mul];unfold wid;exact Mw9 (by have:=a.2;grind) (by have:=a.1;grind)
  rw[<-l i hi,Rat.one_mul] at n;obtain⟨r1,o⟩:=Mx1 (f:=f) (y:=y) c i bs.length hF.2.2.1.2;obtain⟨k1,k2⟩:=e i hi;rw[Nd5] at r1 o;have b:=Mu9 (u.get i-(Hb9 bs).get i-(yf f y f.length u i-yf f y f.length (Hb9 bs) i));exact⟨by grind,by grind⟩
 ·rw[if_neg hi,Fa0 (by omega)]
  exact⟨Rat.le_refl,Rat.le_refl⟩
theorem Nc8 {rho:Rat}(hF:Mk5 f bs)(j:Mq8 f y bs)(c: ∀p∈f,Av6 p/\POk p)(hu:Ha3 (Bm3 bs) u)(l: ∀i,i<bs.length->reach f y bs i bs.length<=th*wid bs i)(g:0<=rho)(n: ∀i,i<bs.length->Mw1 (yf f y f.length u i)<=rho*wid bs i): ∀i,i<bs.length->Mw1 (yf f y f.length (Nd0 f y bs u) i)<=th*rho*wid bs i:=λ i hi=>by
 have o: ∀x∈bs,x.1<=x.2:=λ x q=>Rat.le_of_lt (hF.2.2.2 x q);have A:=hF.2.2.1.2;obtain⟨s,h1,v⟩:=Mv6 (y:=y) hF c (Nd2 hF j c hu) hu;have e:=v i hi;have d: ∀k,k<bs.length->(Nd0 f y bs u).get k-u.get k = -(yf f y f.length u k):=λ k hk=>by
  rw[Nb5 f y bs u (by omega),if_pos hk];grind
 have w:Mu5 (λ k=>s i k*((Nd0 f y bs u).get k-u.get k)) bs.length=Mu5 (λ k=>s i k * -(yf f y f.length u k)) bs.length:=Mu6 λ k hk=>by rw[d k hk]
 rw[w,d i hi] at e;have h:=Mv3 (f:=f) (y:=y) (s:=s) (d:=λ k=>-(yf f y f.length u k)) g o (i:=i) (λ k hk=>h1 i k hi hk) λ k hk=>by
  have:=n k hk;have b:=Mu9 (yf f y f.length u k);exact Mw9 (by grind) (by grind)
 rw[<-e] at h;have z: -(yf f y f.length u i)-(yf f y f.length (Nd0 f y bs u) i-yf f y f.length u i) = -(yf f y f.length (Nd0 f y bs u) i):=by grind
 rw[z] at h;have b:=Mu9 (-(yf f y f.length (Nd0 f y bs u) i));have B:=Rat.mul_le_mul_of_nonneg_left (l i hi) g;exact Mw9 (by grind) (by grind)
theorem steps {f:List (List Tm)}{y:Nat->Nat->Rat}{bs:List Iv}(hF:Mk5 f bs)(c:Mq8 f y bs)(d: ∀p∈f,Av6 p/\POk p){th rho:Rat}(g: ∀i,i<bs.length->reach f y bs i bs.length<=th*wid bs i)(h:0<=th)(j:0<=rho){u:Pt}(hu:Ha3 (Bm3 bs) u)(l: ∀i,i<bs.length->Mw1 (yf f y f.length u i)<=rho*wid bs i): ∀t:Nat,∃v:Pt,Ha3 (Bm3 bs) v/\∀i,i<bs.length->Mw1 (yf f y f.length v i)<=th^t*rho*wid bs i
 | 0=>⟨u,hu,λ i hi=>by rw[Rat.pow_zero,Rat.one_mul];exact l i hi⟩
 | t+1=>by
  obtain⟨v,h1,n⟩:=steps hF c d g h j hu l t;refine⟨Nd0 f y bs v,Nd2 hF c d h1,λ i hi=>?_⟩;have:=Nc8 hF c d h1 g (Rat.mul_nonneg (Az6 h t) j) n i hi;rw[Rat.pow_succ];have e:th^t*th*rho*wid bs i=th*(th^t*rho)*wid bs i:=by grind
  rw[e];exact this
theorem Nb3 {δ:Rat}{C:Rat}(l:0<=th)(h1:th<1)(B:0<=C)(g:0<δ): ∃t:Nat,th^t*C<δ:=by
 obtain⟨d,D⟩: ∃d,1-th=d:=⟨_,rfl⟩;have he:0<d:=by grind
 have key: ∀t:Nat,th^t*(1+(t:Rat)*d)<=1:=λ t=>by
  induction t with
  | zero=>
   rw[Rat.pow_zero];have e:((0:Nat):Rat)=0:=rfl;rw[e];grind
  | succ t ih=>
   have j:=Az6 l t;have n:(0:Rat)<=(t:Rat):=by exact_mod_cast Nat.zero_le t
   have a:th*(1+((t:Rat)+1)*d)<=1+(t:Rat)*d:=by
    have:th=1-d:=by grind
    rw[this];have:=Rat.mul_nonneg (Rat.mul_nonneg (show(0:Rat)<=(t:Rat)+1 by grind) (Rat.le_of_lt he)) (Rat.le_of_lt he);grind
   have b:=Rat.mul_le_mul_of_nonneg_left a j;rw[Rat.pow_succ]
   push_cast
   grind
 refine⟨(C/(δ*d)).ceil.toNat,?_⟩;obtain⟨t,n⟩: ∃t,(C/(δ*d)).ceil.toNat=t:=⟨_,rfl⟩;rw[n];have o:=Rat.mul_pos g he;have v:C/(δ*d)<=(t:Rat):=by
  have a:=Rat.le_ceil (x:=C/(δ*d));have b:(C/(δ*d)).ceil<=(t:Int):=by omega
  have c:(((C/(δ*d)).ceil:Int):Rat)<=((t:Int):Rat):=Rat.intCast_le_intCast.2 b;exact Rat.le_trans a c
 have w:C<=(t:Rat)*(δ*d):=by
  have:=Rat.mul_le_mul_of_nonneg_right v (Rat.le_of_lt o)
  rwa [Rat.div_mul_cancel (Rat.ne_of_gt o)] at this
 have z:=key t;have j:=Az6 l t
 by_cases p:th^t*C<δ
 ·exact p
 ·exfalso
  have q:δ<=th^t*C:=Rat.not_lt.1 p;have E:=Rat.mul_le_mul_of_nonneg_left w j;have F:=Rat.mul_le_mul_of_nonneg_left z (Rat.le_of_lt g);have A:0<th^t:=by
   rcases Rat.le_iff_lt_or_eq.1 j with h | h
   ·exact h
   ·rw[<-h,Rat.zero_mul] at q
    exact absurd g (Rat.not_lt.2 q)
  have G:=Rat.mul_pos A g;grind
end Go.Proofs.YtkgeopnakkcdoaaGreatDoor
namespace Go.Proofs.YtkgeopnakkcdoaaGreatDoor
open Go Go.Shelf Go.Proofs
def Dm9:Go.Shelf.Ren:=⟨fun | 28=>264 | n=>n,fun | 27=>257 | 3=>3 | 4=>4 | 25=>290 | 53=>351 | 0=>0 | 5=>5 | n=>n,fun | 0=>1 | n=>n⟩
theorem Ff9:Go.Proofs.Lays7.n28 Tryz.prog Dm9 where
 mixed:=by kernel_rfl
 f28:=Tryz.func264.trans (congrArg some (by kernel_rfl))
 t0:=Tryz.underlying0
 a0:=Tryz.isAgg0
 z0:=Tryz.sizeOf0
 v0:=Tryz.zeroValue0
 i0:=by kernel_rfl
 t3:=Tryz.underlying3
 a3:=Tryz.isAgg3
 z3:=Tryz.sizeOf3
 v3:=Tryz.zeroValue3
 i3:=by kernel_rfl
 t4:=Tryz.underlying4
 a4:=Tryz.isAgg4
 z4:=Tryz.sizeOf4
 v4:=Tryz.zeroValue4
 i4:=by kernel_rfl
 t5:=Tryz.underlying5
 a5:=Tryz.isAgg5
 z5:=Tryz.sizeOf5
 v5:=Tryz.zeroValue5
 i5:=by kernel_rfl
 t25:=Tryz.underlying290
 a25:=Tryz.isAgg290
 z25:=Tryz.sizeOf290
 v25:=Tryz.zeroValue290
 i25:=by kernel_rfl
 t27:=Tryz.underlying257
 a27:=Tryz.isAgg257
 z27:=Tryz.sizeOf257
 v27:=Tryz.zeroValue257
 i27:=by kernel_rfl
 t53:=Tryz.underlying351
 a53:=Tryz.isAgg351
 z53:=Tryz.sizeOf351
 v53:=Tryz.zeroValue351
 i53:=by kernel_rfl
 g0:=by kernel_rfl
end Go.Proofs.YtkgeopnakkcdoaaGreatDoor
namespace Go.Proofs.YtkgeopnakkcdoaaGreatDoor
open Go Go.SX
variable {M:Nat->Prop}{W W0:PW}{x:Nat}
def Ac6 (W:PW):Prop:=(∀j,j<32->W.w.cell? ⟨1,j,none⟩=some (.int .u8 ((Go.Lib.deBruijn32tab.getD j 0:Nat):Int)))/\1<W.w.heap.size/\¬W.S 1
theorem Ac6.ext {W':PW}(h:Ac6 W)(c:Ext W W'):Ac6 W':=by
 have hk:=c.Ai1 _ h.2.1 h.2.2;refine⟨λ j d=>?_,Nat.lt_of_lt_of_le h.2.1 c.size,hk.2⟩;have:=h.1 j d;unfold World.cell? at this⊢;dsimp only at this⊢;rw[hk.1];exact this
theorem Fh2 (d:Ac6 W0)(g:x<4294967296):
  Aa0 Tryz.prog 264 [.int .u32 (x:Int)] W0 M λ v W'=>v = .int .i64 ((Go.Lib.ctz 32 x:Nat):Int)/\True:=by
 refine⟨⟨_,Tryz.func264,by kernel_rfl,by kernel_rfl⟩,λ l=>?_⟩;have c:=Proofs.Any7.bits_TrailingZeros32 Ff9 x g W0.w λ _ j h=>d.1 j h
 change Calls Tryz.prog 264 _ _ _ at c
 refine Calls.mono c ?_;rintro e w' ⟨rfl,rfl⟩;exact⟨_,rfl,Am7.refl _ _,rfl,trivial⟩
theorem El3 {K:Value->PW->Prop}(d:Ac6 W)(e:x<4294967296)(g: ∀(W':PW),Ext W W'->(True)->K (.int .i64 ((Go.Lib.ctz 32 x:Nat):Int)) W'):
  Aa1 Tryz.prog W0 M 264 [.int .u32 (x:Int)] W K:=
 Mi4 (λ _ c=>Fh2 (d.ext c) e) fun | _,W',c,⟨rfl,h⟩=>g W' c h
end Go.Proofs.YtkgeopnakkcdoaaGreatDoor
namespace Go.Proofs.YtkgeopnakkcdoaaGreatDoor
open Go Go.SX
variable {K:Value->PW->Prop}{M:Nat->Prop}{W W0:PW}{a b:ByteArray}
def spP (a b:ByteArray):Option Iv:=match Ab7 a,Ab7 b with
 | some p,some q=>if p<=q then some (p,q) else none
 | _,_=>none
theorem Dp3 {x:Iv}(h:spP a b=some x):Ab7 a=some x.1/\Ab7 b=some x.2/\x.1<=x.2:=by
 unfold spP at h
 cases c:Ab7 a with
 | none=>rw[c] at h;cases h
 | some p=>
  cases d:Ab7 b with
  | none=>rw[c,d] at h;cases h
  | some q=>
   rw[c,d] at h;dsimp only at h;split at h
   ·cases h;exact⟨rfl,rfl,by assumption⟩
   ·cases h
theorem Bg2 {α:Type}{o:Option α}:er o=0↔o.isSome=true:=by
 unfold er;cases o<;>simp
theorem At4:Sz 4000 ((Ab7 a).getD 0):=by
 cases h:Ab7 a with
 | none=>exact Sz.zero (by omega)
 | some q=>exact(Aw6 h).1
theorem Cq2 (B:a.size<=1099511627776)(C:b.size<=1099511627776):
  Aa0 Tryz.prog 181 [.agg ⟨[.string a,.string b]⟩] W0 M λ v W'=>∃(l:List Value),∃(e:Int),v = .tuple ⟨[.agg ⟨l⟩,.int .i64 e]⟩/\SpV 257 W' l ((spP a b).getD (0,0))/\(e=0↔(spP a b).isSome=true):=by
 apply Bz8;refine As8 B λ s3 D E W2 ac F=>⟨s3,D,E,_,rfl,λ j G ad=>?_,λ heq=>?_⟩
 ·have d:Ab7 a=none:=by
   cases h:Ab7 a with
   | none=>rfl
   | some q=>exact absurd (Bg2.2 (by rw[h];rfl)) j
  have c:spP a b=none:=by unfold spP;rw[d]
  refine⟨_,_,rfl,by rw[c];exact SpV.zero G,?_⟩;rw[c,Bg2,d];simp
 ·have h1:=Bg2.1 (Decidable.not_not.1 heq)
  obtain⟨p,n⟩:=Option.isSome_iff_exists.1 h1;refine As8 C λ I J L W9 N O=>⟨I,J,L,_,rfl,λ j P af=>?_,λ Q=>?_⟩
  ·have d:Ab7 b=none:=by
    cases h:Ab7 b with
    | none=>rfl
    | some q=>exact absurd (Bg2.2 (by rw[h];rfl)) j
   have c:spP a b=none:=by unfold spP;rw[n,d]
   refine⟨_,_,rfl,by rw[c];exact SpV.zero P,?_⟩;rw[c,Bg2,d];simp
  ·have R:=Bg2.1 (Decidable.not_not.1 Q)
   obtain⟨q,z⟩:=Option.isSome_iff_exists.1 R;have S:=At4 (a:=a);have z2:=At4 (a:=b);refine Cq7 (F.ext N) O S z2 (by omega) λ l ag ah o=>?_;rw[n,z] at o⊢;simp only[Option.getD_some] at o⊢;have c:spP a b=if p<=q then some (p,q) else none:=by unfold spP;rw[n,z]
   obtain⟨T,U,V,X,Y,Z,rfl,k1,k2⟩:=o;refine⟨T,U,V,X,Y,Z,_,rfl,λ w aa ai=>?_,λ g aj A=>?_⟩
   ·have w:¬p<=q:=by simpa using w
    rw[c,if_neg w];exact⟨_,_,rfl,SpV.zero aa,by decide⟩
   ·have g:p<=q:=by simpa using g
    rw[if_pos g] at k1 k2;rw[c,if_pos g];exact⟨_,_,rfl,SpV.mk (x:=(p,q)) (k1.ext A) (k2.ext A),by simp⟩
theorem Az3 (d:a.size<=1099511627776)(g:b.size<=1099511627776)(j: ∀(l:List Value) (e:Int) (W':PW),Ext W W'->(SpV 257 W' l ((spP a b).getD (0,0))/\(e=0↔(spP a b).isSome=true))->K (.tuple ⟨[.agg ⟨l⟩,.int .i64 e]⟩) W'):
  Aa1 Tryz.prog W0 M 181 [.agg ⟨[.string a,.string b]⟩] W K:=
 Mi4 (λ _ c=>Cq2 d g) fun | _,W',c,⟨l,e,rfl,h⟩=>j l e W' c h
theorem Bp7 (D:a.size<=1099511627776)(E:b.size<=1099511627776):
  Aa0 Tryz.prog 130 [.agg ⟨[.string a,.string b]⟩] W0 M λ v W'=>∃(l:List Value),∃(e:Int),v = .tuple ⟨[.agg ⟨l⟩,.int .i64 e]⟩/\Ah6 257 W' l ((spP a b).getD (0,0))/\(e=0↔(spP a b).isSome=true):=by
 apply Be5;refine An7 D λ F s4 G T U d=>⟨F,s4,G,_,rfl,An7 E λ I J L V w g=>⟨I,J,L,_,rfl,λ j N X=>?_,λ O=>⟨λ j P Y=>?_,λ Q=>?_⟩⟩⟩
 ·have n:Ab7 a=none:=by simpa using j
  have c:spP a b=none:=by unfold spP;rw[n]
  rw[c];exact⟨_,_,rfl,Ah6.zero N,by decide⟩
 ·have n:Ab7 b=none:=by simpa using j
  have c:spP a b=none:=by unfold spP;cases Ab7 a<;>rw[n]
  rw[c];exact⟨_,_,rfl,Ah6.zero P,by decide⟩
 ·obtain⟨p,z⟩:=Option.isSome_iff_exists.1 (show(Ab7 a).isSome=true by simpa using O)
  obtain⟨q,A⟩:=Option.isSome_iff_exists.1 (show(Ab7 b).isSome=true by simpa using Q);have o:=At4 (a:=a);have z2:=At4 (a:=b);have c:spP a b=if p<=q then some (p,q) else none:=by unfold spP;rw[z,A]
  rw[z] at d o;rw[A] at g z2;simp only[Option.getD_some] at d g o z2;refine Ar1 (d.ext w) g o z2 (by omega) (by omega) λ Z B _=>⟨_,rfl,λ R S aa=>?_,λ hle ab C=>?_⟩
  ·have h:¬p<=q:=Rat.not_le.2 (Al3.1 R)
   rw[c,if_neg h];exact⟨_,_,rfl,Ah6.zero S,by decide⟩
  ·have h:p<=q:=Rat.not_lt.1 λ e=>hle (Al3.2 e)
   rw[c,if_pos h];exact⟨_,_,rfl,Ah6.mk (x:=(p,q)) (d.ext (w.trans (B.trans C))) (g.ext (B.trans C)),by simp⟩
theorem Bh8 (d:a.size<=1099511627776)(g:b.size<=1099511627776)(j: ∀(l:List Value) (e:Int) (W':PW),Ext W W'->(Ah6 257 W' l ((spP a b).getD (0,0))/\(e=0↔(spP a b).isSome=true))->K (.tuple ⟨[.agg ⟨l⟩,.int .i64 e]⟩) W'):
  Aa1 Tryz.prog W0 M 130 [.agg ⟨[.string a,.string b]⟩] W K:=
 Mi4 (λ _ c=>Bp7 d g) fun | _,W',c,⟨l,e,rfl,h⟩=>j l e W' c h
end Go.Proofs.YtkgeopnakkcdoaaGreatDoor
namespace Go.Proofs.YtkgeopnakkcdoaaGreatDoor
open Go Go.SX Go.ChangeShapes Go.WideShapes Go.ChangeAt Go.RowKit Go.Deep
variable {H:Type}{W:World}{a:Addr}
theorem Cp9:ownKnob Tryz.prog.godebug=none:=by kernel_rfl
theorem laidOut:laidOutB Tryz.prog=true:=by kernel_rfl
theorem Ct5:Tryz.prog.cellsOf 9=1:=by kernel_rfl
theorem Cf4 {b:Nat}{o:Nat}{v:Value}(h:W.cell? ⟨b,o,none⟩=some v): ∃cs t c,W.heap[b]?=some (.cells cs t c)/\cs[o]?=some v:=by
 unfold World.cell? at h
 cases e:W.heap[b]? with
 | none=>simp[e] at h
 | some d=>
  cases d with
  | cells cs t c=>exact⟨cs,t,c,rfl,by simpa[e] using h⟩
  | _=>simp[e] at h
theorem Ev9 (d:DataW H):1<=Rows.uptoBulk d:=by
 cases d with
 | lit l=>cases l<;>simp[Rows.uptoBulk]
 | nil=>simp[Rows.uptoBulk]
 | ptr d=>simp[Rows.uptoBulk]
 | slice elems spare=>simp[Rows.uptoBulk]
 | agg parts=>simp[Rows.uptoBulk]
 | iface t d=>simp[Rows.uptoBulk]
 | map entries=>simp[Rows.uptoBulk]
 | held h=>simp[Rows.uptoBulk]
theorem Eo6 {d:DataW H}{l:List (DataW H)}(h:d∈l):Rows.uptoBulk d<=Rows.uptoBulkAll l:=by
 induction l with
 | nil=>cases h
 | cons x r ih=>
  simp only[Rows.uptoBulkAll]
  cases List.mem_cons.1 h with
  | inl e=>subst e;omega
  | inr e=>have:=ih e;omega
theorem Dj1 (l:List (DataW H)):l.length<=Rows.uptoBulkAll l:=by
 induction l with
 | nil=>simp[Rows.uptoBulkAll]
 | cons x r ih=>have:=Ev9 x;simp only[Rows.uptoBulkAll,List.length_cons];omega
theorem Bz7 {V:Nat->List Value}{n c sz:Nat}(h: ∀j,j<n->∀i v,(V j)[i]?=some v->W.cell? (a.add (j*sz+i))=some v)(o: ∀j,j<n->(V j).length=sz)(q:0<sz)(E:n<=c)(w:c<=maxLen)(h1: ∀j,j<n->∀u∈V j,u.oneCell'=true):
  Bf9 ⟨W,λ _=>False⟩ sz ⟨some a,n,c⟩ ((List.range n).map V):=by
 have l: ∀x∈(List.range n).map V,x.length=sz/\∀u∈x,u.oneCell'=true:=by
  intro x d;obtain⟨j,g,rfl⟩:=List.mem_map.1 d;exact⟨o j (List.mem_range.1 g),h1 j (List.mem_range.1 g)⟩
 by_cases F:n=0
 ·subst F
  exact⟨0,rfl,Nat.zero_le _,w,l,.inl rfl⟩
 ·obtain⟨b,off,sp⟩:=a
  have N:=o 0 (by omega);obtain⟨v0,G⟩: ∃v,(V 0)[0]?=some v:=⟨_,List.getElem?_eq_getElem (by omega)⟩;have z:=h 0 (by omega) 0 v0 G;have I:sp=none:=by simpa[Addr.add] using World.cell?_spot z
  subst I;obtain⟨cs,t,J,A,_⟩:=Cf4 (by rw[<-add_plain];exact z);refine⟨t,by simp,E,w,l,.inr ⟨b,off,cs,J,rfl,id,A,λ j v g=>?_⟩⟩;have p:=(List.getElem?_eq_some_iff.1 g).1;rw[Ac0 (sz:=sz) (λ x d=>(l x d).1)] at p;simp only[List.length_map,List.length_range] at p;have hi:j/sz<n:=(Nat.div_lt_iff_lt_mul q).2 p;have hm:j%sz<sz:=Nat.mod_lt _ q;have e:j/sz*sz+j%sz=j:=by rw[Nat.mul_comm];exact Nat.div_add_mod j sz
  have d:((List.range n).map V)[j/sz]?=some (V (j/sz)):=by simp[hi]
  have O:=o _ hi;have B:=Ao8 (sz:=sz) (λ x d=>(l x d).1) d (j:=j%sz) (v:=(V (j/sz))[j%sz]'(by omega)) (List.getElem?_eq_getElem (by omega));rw[e,g] at B;have C:=h _ hi (j%sz) v (by rw[B];exact List.getElem?_eq_getElem (by omega));rw[e,add_plain] at C;obtain⟨P,Q,R,D,L⟩:=Cf4 C;rw[A] at D;cases D;exact L
theorem Ig6 {n c:Nat}{V:Nat->Value}(h: ∀j,j<n->W.cell? (a.add j)=some (V j))(A:n<=c)(g:c<=maxLen)(h1: ∀j,j<n->(V j).oneCell'=true):Bf9 ⟨W,λ _=>False⟩ 1 ⟨some a,n,c⟩ ((List.range n).map λ j=>[V j]):=by
 have o: ∀x∈(List.range n).map (λ j=>[V j]),x.length=1/\∀u∈x,u.oneCell'=true:=by
  intro x B;obtain⟨j,d,rfl⟩:=List.mem_map.1 B;exact⟨rfl,λ u hu=>by rw[List.mem_singleton.1 hu];exact h1 j (List.mem_range.1 d)⟩
 by_cases C:n=0
 ·subst C
  exact⟨0,rfl,Nat.zero_le _,g,o,.inl rfl⟩
 ·obtain⟨b,off,sp⟩:=a
  have D:sp=none:=by simpa[Addr.add] using World.cell?_spot (h 0 (by omega))
  subst D;have p: ∀j,j<n->W.cell? ⟨b,off+j,none⟩=some (V j):=λ j d=>by rw[<-add_plain];exact h j d
  obtain⟨cs,t,E,q,_⟩:=Cf4 (p 0 (by omega));refine⟨t,by simp,A,g,o,.inr ⟨b,off,cs,E,rfl,id,q,λ j v d=>?_⟩⟩;have e:((List.range n).map λ j=>[V j]).flatten=(List.range n).map V:=by
   rw[<-List.flatMap_def];generalize List.range n=l
   induction l with
   | nil=>rfl
   | cons y r ih=>simp[List.flatMap_cons,ih]
  rw[e] at d;have w:j<n:=by
   have:=(List.getElem?_eq_some_iff.1 d).1
   simpa using this
  obtain⟨G,I,J,z,F⟩:=Cf4 (p j w);rw[q] at z;cases z;simp[w] at d;rw[<-d];exact F
end Go.Proofs.YtkgeopnakkcdoaaGreatDoor
