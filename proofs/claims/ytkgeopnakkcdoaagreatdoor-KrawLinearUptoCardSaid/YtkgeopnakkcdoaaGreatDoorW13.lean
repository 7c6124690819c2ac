import Derived.Test.YtkgeopnakkcdoaaGreatDoorW12
import Derived.Test.YtkgeopnakkcdoaaGreatDoorLib5
import Derived.Test.YtkgeopnakkcdoaaGreatDoorW8
import Derived.Test.YtkgeopnakkcdoaaGreatDoorLib4
import Derived.Test.YtkgeopnakkcdoaaGreatDoorR10
import Derived.Test.YtkgeopnakkcdoaaGreatDoorW11
import Derived.Shelf.Spec.TrailingZeros
import Derived.Shelf.SlGeneric
import Derived.Test.YtkgeopnakkcdoaaGreatDoorProg
import Derived.Test.YtkgeopnakkcdoaaGreatDoorTt
import Derived.Test.YtkgeopnakkcdoaaGreatDoorLib1
set_option linter.unusedVariables false
set_option linter.unusedSimpArgs false
set_option maxRecDepth 100000
namespace Go.Proofs.YtkgeopnakkcdoaaGreatDoor
open Go Go.SX
variable {K:Value->PW->Prop}{M:Nat->Prop}{W W0:PW}{f:Nat->Rat}{m m2:Nat->Nat->Rat}{n0 r:Nat}{s t:Sl}{tu:TypeId}{xs ys:List (List Value)}
def Nf7 (r:Nat) (m m2:Nat->Nat->Rat):Nat->Nat->Rat:=λ a b=>if b<r then m a b else m2 a (b-r)
theorem Qs.Nf5 {W':PW}{tt:TypeId}{sz:Nat}{n:Nat}(hO:Go.SX.Own W tt sz s xs)(c:Au9 (λ g=>s.v.ownBlock=some g) W W')(d:tu≠tt)(h:Qs tu W ys n f):Qs tu W' ys n f:=
 ⟨h.1,λ i hi=>let⟨s1,b,s2,h1,e⟩:=h.2 i hi;⟨s1,b,s2,h1,Ab3.own hO c d e⟩⟩
theorem Qs.Ne6 {g:Nat->Rat}(h:Qs tu W xs r f)(k:Qs tu W ys r g):Qs tu W (xs ++ ys) (r+r) (λ b=>if b<r then f b else g (b-r)):=by
 refine⟨by rw[List.length_append,h.1,k.1],λ i hi=>?_⟩
 by_cases e:i<r
 ·obtain⟨s1,b,s2,h1,c⟩:=h.2 i e
  refine⟨s1,b,s2,by rw[List.getElem?_append_left (by rw[h.1];exact e)];exact h1,?_⟩;dsimp only;rw[if_pos e];exact c
 ·obtain⟨s1,b,s2,h1,c⟩:=k.2 (i-r) (by omega)
  refine⟨s1,b,s2,by rw[List.getElem?_append_right (by rw[h.1];omega),h.1];exact h1,?_⟩;dsimp only;rw[if_neg e];exact c
def coI (W0:PW) (r:Nat) (m m2:Nat->Nat->Rat) (L:List PL) (W:PW):Prop:=match L with
 | [.row l,.val (.int .i64 i)]=>Eo1 W0.w.heap.size W0 W/\∃(k:Nat) (ss:List Sl),i=(k:Int)/\k<=r/\ss.length=k/\l=ss.map (λ x=>[x.v])/\
   (∀i (h:i<ss.length),∃xs,Go.SX.Own W 50 3 ss[i] xs/\Qs 257 W xs (r+r) (Nf7 r m m2 i)/\∀g,ss[i].v.ownBlock=some g->W0.w.heap.size<=g)/\
   ∀i j (hi:i<ss.length) (b:j<ss.length),i≠j->∀g,ss[i].v.ownBlock=some g->ss[j].v.ownBlock≠some g
 | _=>False
theorem Mz2 (U:Gf6 n0 W0)(h:Gf9 257 50 84 W0 s r (λ _=>r) m)(F:Gf9 257 50 84 W0 t r (λ _=>r) m2)(hr:r<=12):
  Aa0 Tryz.prog 90 [s.v,t.v] W0 M λ v W'=>∃(s':Sl),∃(ss:List Sl),v=Sl.v s'/\ss.length=r/\OM W' s' ss (r+r) (Nf7 r m m2)/\(∀g,s'.v.ownBlock=some g->n0<=g)/\(∀i (hi:i<ss.length),∀g,ss[i].v.ownBlock=some g->n0<=g):=by
 apply Mx6;have ak:=h.n;have al:=F.n;have G:n0<=W0.w.heap.size:=U;refine⟨coI W0 r m m2,λ L _=>match L with | [_,.val (.int .i64 i)]=>r-i.toNat | _=>0,⟨Au9.refl _ _,0,[],rfl,Nat.zero_le _,rfl,rfl,λ i h=>by simp at h,λ i j h=>by simp at h⟩,?_⟩;rintro l3 i4 V ⟨w,k,ss,rfl,hk,H,rfl,z,I⟩;have a5:=h.new w (Nat.le_refl _);have J:=F.new w (Nat.le_refl _);refine⟨λ am=>?_,λ X Y an N hO Z ao C=>⟨Y,ss,rfl,by omega,⟨hO.ext C,λ i hi=>?_,I⟩,λ g b=>Nat.le_trans G (Z g b).1,λ i hi g b=>?_⟩⟩
 ·have O:k<r:=by omega
  obtain⟨x,e1,e2⟩:=a5.at (i:=k) O;refine⟨a5.inB (by omega) (by omega),x,e1,My3 e2 (by omega) λ s9 xs W8 l ⟨n,ad,P⟩=>⟨s9,rfl,λ _=>?_,λ X=>by omega⟩⟩;obtain⟨y,f1,f2⟩:=(J.ext l).at (i:=k) O;obtain⟨ys,ae,Q⟩:=f2;refine⟨(J.ext l).inB (by omega) (by omega),y,f1,ys,⟨_,ae⟩,?_⟩;have D:W0.w.heap.size<=V.w.heap.size:=w.size;have aq:=P.1;have ar:=Q.1;intro W' d;have A:=ad.ext d;refine⟨xs,A,λ g b=>.inr (Nat.le_trans D (n g b)),by omega,λ R au o af S=>⟨by simp only[List.length_map,List.length_cons,List.length_nil];omega,by unfold I64;omega,⟨(w.trans ((l.trans d).toM _)).trans (o.mono λ g b=>Nat.le_trans D (n g b)),k+1,ss ++ [R],by push_cast;rfl,by omega,by simp[H],by simp,λ i hi=>?_,?_⟩,?_⟩⟩
  ·by_cases e:i<ss.length
   ·obtain⟨zs,k1,p,B⟩:=z i e
    rw[List.getElem_append_left e];have ag:=k1.ext (l.trans d);refine⟨zs,ag.other o λ g b c=>?_,Qs.Nf5 A o (by decide) (p.ext (l.trans d)),B⟩;have b1:=(k1.block b).1;have b2:=n g c;omega
   ·have:i=ss.length:=by simp at hi;omega
    subst this;rw[List.getElem_concat_length rfl];refine⟨_,af,?_,λ g b=>?_⟩
    ·have:=Qs.Ne6 (Qs.Nf5 A o (by decide:257≠50) (P.ext d)) (Qs.Nf5 A o (by decide:257≠50) (Q.ext d))
     rw[H];exact this
    ·rcases S g b with q | q
     ·exact Nat.le_trans D (n g q)
     ·have:=(l.trans d).size
      omega
  ·have key: ∀i (hi:i<ss.length) g,R.v.ownBlock=some g->ss[i].v.ownBlock≠some g:=by
    intro i hi g b c;obtain⟨zs,k1,p,B⟩:=z i hi;have b1:=(k1.block c).1;rcases S g b with q | q
    ·have:=n g q
     omega
    ·have:=(l.trans d).size
     omega
   intro i j hi hj ai g b c;simp only[List.length_append,List.length_cons,List.length_nil] at hi hj
   by_cases E:i<ss.length
   ·rw[List.getElem_append_left E] at b
    by_cases T:j<ss.length
    ·rw[List.getElem_append_left T] at c
     exact I i j E T ai g b c
    ·have:j=ss.length:=by omega
     subst this;rw[List.getElem_concat_length rfl] at c;exact key i E g c b
   ·have:i=ss.length:=by omega
    subst this;rw[List.getElem_concat_length rfl] at b;rw[List.getElem_append_left (by omega)] at c;exact key j (by omega) g b c
  ·show r-Int.toNat ((k:Int)+1)<r-Int.toNat (k:Int)
   omega
 ·obtain⟨xs,k1,p,_⟩:=z i hi
  exact⟨xs,k1.ext (N.trans C),p.ext (N.trans C)⟩
 ·obtain⟨xs,k1,p,B⟩:=z i hi
  exact Nat.le_trans G (B g b)
theorem My0 (c:Gf6 n0 W)(h:Gf9 257 50 84 W s r (λ _=>r) m)(d:Gf9 257 50 84 W t r (λ _=>r) m2)(e:r<=12)(l: ∀(s':Sl) (ss:List Sl) (W':PW),Ext W W'->(ss.length=r/\OM W' s' ss (r+r) (Nf7 r m m2)/\(∀g,s'.v.ownBlock=some g->n0<=g)/\(∀i (hi:i<ss.length),∀g,ss[i].v.ownBlock=some g->n0<=g))->K (Sl.v s') W'):
  Aa1 Tryz.prog W0 M 90 [s.v,t.v] W K:=
 Mi4 (λ _ b=>Mz2 (c.ext b) (h.ext b) (d.ext b) e) fun | _,W',b,⟨s',ss,rfl,h⟩=>l s' ss W' b h
theorem My9 (h:Gf9 257 50 84 W0 s r (λ _=>r) m)(h1:1<=r)(c:r<=12):
  Aa0 Tryz.prog 89 [s.v] W0 M λ v W'=>v = .bool true/\True:=by
 apply Mx5;have o:=h.n;refine Gn0 h (by omega) λ b p d g=>⟨b,rfl,λ q=>?_,λ e=>?_⟩
 ·obtain⟨x,l,n⟩:=(h.ext d).at (i:=0) (by omega)
  have w:=n.n;refine⟨(h.ext d).inB (by omega) (by omega),x,l,λ z A=>⟨?_,trivial⟩⟩;rw[decide_eq_true (by omega)]
 ·have:=g.2 ⟨λ _ _=>rfl,h1,c,h1,c⟩
  rw[this] at e;cases e
theorem Mx2 (h:Gf9 257 50 84 W s r (λ _=>r) m)(h1:1<=r)(c:r<=12)(d: ∀(W':PW),Ext W W'->(True)->K (.bool true) W'):
  Aa1 Tryz.prog W0 M 89 [s.v] W K:=
 Mi4 (λ _ b=>My9 (h.ext b) h1 c) fun | _,W',b,⟨rfl,h⟩=>d W' b h
def Nf9 (m:Nat->Nat->Rat) (i:Nat):Nat->Nat->Rat:=λ a b=>if a≠i/\i<=b then m a b-m a i/m i i*m i b else m a b
def gj (m:Nat->Nat->Rat):Nat->Nat->Nat->Rat
 | 0=>m
 | i+1=>Nf9 (gj m i) i
def ivI (W0:PW) (r:Nat) (s:Sl) (ss:List Sl) (m:Nat->Nat->Rat) (L:List PL) (W:PW):Prop:=match L with
 | [.val (.int .i64 z)]=>∃i:Nat,z=(i:Int)/\i<=r/\Eo1 W0.w.heap.size W0 W/\OM W s ss (r+r) (gj m i)
 | _=>False
def ivK (r c:Nat) (d:PW) (s:Sl) (f:Nat->Nat->Rat) (L:List PL) (W:PW):Prop:=match L with
 | [.val (.int .i64 z)]=>∃k:Nat,z=(k:Int)/\k<=r/\Eo1 c d W/\Gl4 257 50 84 (c<=·) W s r r (λ a b=>if a<k then f a b else 0)
 | _=>False
def ivL (r c:Nat) (d:PW) (s:Sl) (f:Nat->Nat->Rat) (k:Nat) (L:List PL) (W:PW):Prop:=match L with
 | [.val (.int .i64 z)]=>∃l:Nat,z=(l:Int)/\l<=r/\Eo1 c d W/\Gl4 257 50 84 (c<=·) W s r r (λ a b=>if a<k\/(a=k/\b<l) then f a b else 0)
 | _=>False
def Nf4 (n:Nat) (L:List PL) (_:PW):Nat:=match L with
 | [.val (.int .i64 z)]=>n-z.toNat
 | _=>0
end Go.Proofs.YtkgeopnakkcdoaaGreatDoor
namespace Go.Proofs.YtkgeopnakkcdoaaGreatDoor
open Go Go.SX
variable {K:Value->PW->Prop}{K0 a k r:Nat}{M:Nat->Prop}{W W0:PW}{m:Nat->Nat->Rat}{s:Sl}{ss:List Sl}
def pvI (W0:PW) (k n:Nat) (m:Nat->Nat->Rat) (L:List PL) (W:PW):Prop:=match L with
 | [.val (.int .i64 z)]=>∃i:Nat,z=(i:Int)/\k<=i/\i<=n/\Ext W0 W/\∀b,k<=b->b<i->m b k=0
 | _=>False
def Nd1 (W:PW) (s:Sl) (ss:List Sl) (c k:Nat) (m:Nat->Nat->Rat) (v:Value):Prop:=
 ∃b is:Bool,v = .tuple ⟨[.bool b,.bool is]⟩/\(is=false->pv m k ss.length=none)/\(is=true->∃(a:Nat) (d:List Sl),pv m k ss.length=some a/\d.length=ss.length/\(∀a (h1:a<d.length),∃b,∃(e:b<ss.length),d[a]=ss[b])/\OM W s d c (Mv2 m a k))
theorem Nf8 (h: ∀b,k<=b->b<r->m b k=0):pv m k r=none:=by
 cases e:pv m k r with
 | none=>rfl
 | some a=>
  obtain⟨h1,c,d⟩:=Mw7 e;exact absurd (h a h1 c) d
theorem Mz5 {c K:Nat}(h:OM W0 s ss c m)(hk:k<ss.length)(C:k<c)(U:ss.length<=1048576)(D: ∀a,a<ss.length->Sz K (m a k))(V:K<=1000000):
  Aa0 Tryz.prog 91 [s.v,.int .i64 (k:Int)] W0 (λ g=>s.v.ownBlock=some g) λ v W'=>Nd1 W' s ss c k m v:=by
 apply My4;have X:=h.n;refine⟨pvI W0 k ss.length m,λ L _=>match L with | [.val (.int .i64 z)]=>ss.length-z.toNat | _=>0,⟨k,rfl,Nat.le_refl _,by omega,Ext.refl _,λ b h1 E=>by omega⟩,?_⟩;rintro i3 Y ⟨i,rfl,F,hi,q,n⟩;refine⟨λ Z=>?_,λ aa W w=>⟨false,false,rfl,λ _=>?_,λ e=>(by cases e)⟩⟩
 ·have d:i<ss.length:=by omega
  have l:=h.ext q;obtain⟨G,H,I,J,q1⟩:=l.at (i:=i) (j:=k) d C;have o:=l.inB (i:=(i:Int)) (by omega) (by omega);have A:=l.inB (i:=(k:Int)) (by omega) (by omega);refine⟨o,ss[i],l.elem d,l.Ne8 d (by omega) (by omega),G,H,I,J,Bk6 q1 (D i d) (by omega) λ ab B _=>⟨_,rfl,λ N=>?_,λ heq=>?_⟩⟩
  ·have p:=l.ext B
   refine⟨A,ss[k],p.elem hk,o,ss[i],p.elem d,o,?_⟩;refine p.swap A d hk (by omega) (by decide) (by decide) (λ g O=>.inl O) λ P ac hX Q R S W w=>⟨_,_,rfl,λ e=>(by cases e),λ _=>⟨i,P,Nc7 F d (λ e=>N ((Be6 _ 0).2 e)) n,Q,R,S.ext w⟩⟩
  ·have T:m i k=0:=(Be6 _ 0).1 (by omega)
   refine⟨by unfold I64;omega,⟨i+1,by push_cast;rfl,by omega,by omega,q.trans B,λ b h1 E=>?_⟩,?_⟩
   ·by_cases e:b=i
    ·subst e;exact T
    ·exact n b h1 (by omega)
   ·show ss.length-Int.toNat ((i:Int)+1)<ss.length-Int.toNat (i:Int)
    omega
 ·have:i=ss.length:=by omega
  subst this;exact Nf8 n
theorem Mx7 {c:Nat}(h:OM W s ss c m)(hk:k<ss.length)(n:k<c)(o:ss.length<=1048576)(p: ∀a,a<ss.length->Sz K0 (m a k))(q:K0<=1000000)(w: ∀g,s.v.ownBlock=some g->may W0 M g)(z: ∀v W' b,Ext W W'->Au9 (λ g=>s.v.ownBlock=some g) W' b->Nd1 b s ss c k m v->K v b):
  Aa1 Tryz.prog W0 M 91 [s.v,.int .i64 (k:Int)] W K:=λ W' d=>by
 have e:=h.ext d;exact⟨_,_,Mz5 e hk n o p q,λ g l=>⟨(e.1.block l).2,w g l⟩,λ v b A B=>z v W' b d A B⟩
def Mw3 (m:Nat->Nat->Rat) (i j:Nat):Nat->Nat->Rat:=λ a b=>if a<j/\a≠i/\i<=b then m a b-m a i/m i i*m i b else m a b
theorem Nc1 {i:Nat}{j:Nat}{b:Nat}{K:Nat}(h1:Sz K (m a b))(c:Sz K (Mz8 m i a b)):Sz K (Mw3 m i j a b):=by
 unfold Mw3
 by_cases e:a<j/\a≠i/\i<=b
 ·rw[if_pos e]
  unfold Mz8 at c;rw[if_pos e.2] at c;exact c
 ·rw[if_neg e]
  exact h1
def igI (W0:PW) (r:Nat) (s:Sl) (A:Nat->Nat->Rat) (b:Nat) (L:List PL) (W:PW):Prop:=match L with
 | [.val (.int .i64 z)]=>∃(i:Nat) (M:Nat->Nat->Rat) (ss:List Sl),z=(i:Int)/\i<=r/\Eo1 W0.w.heap.size W0 W/\gjG r A i=some M/\ss.length=r/\(∀a (h:a<ss.length) g,ss[a].v.ownBlock=some g->b<=g)/\OM W s ss (r+r) M
 | _=>False
def igJ (W0:PW) (r:Nat) (s:Sl) (ss:List Sl) (m:Nat->Nat->Rat) (i:Nat) (L:List PL) (W:PW):Prop:=match L with
 | [.val (.int .i64 z)]=>∃j:Nat,z=(j:Int)/\j<=r/\Eo1 W0.w.heap.size W0 W/\OM W s ss (r+r) (Mw3 m i j)
 | _=>False
theorem Nb7 {c K:Nat}(d:a<r)(hk:k<r)(h: ∀x b,x<r->b<c->Sz K (m x b)): ∀x b,x<r->b<c->Sz K (Mv2 m a k x b):=λ x b e g=>h _ b (Mz0 d hk e) g
theorem Nd8 {A:Nat->Nat->Rat}: ∀{k j:Nat},gjG r A k=none->k<=j->gjG r A j=none
 | k,j,h,hle=>by
  induction j with
  | zero=>
   have:k=0:=by omega
   subst this;exact h
  | succ j ih=>
   by_cases e:k=j+1
   ·subst e;exact h
   ·rw[gjG,ih (by omega)]
theorem Mx9 (h:Gf9 257 50 84 W0 s r (λ _=>r) m)(aa:1<=r)(hr:r<=5)(E: ∀i M,i<=r->gjG r (Mw0 r m) i=some M->∀a b,a<r->b<r+r->Sz K0 (M a b))(hK:K0<=1000000)(ac:1<=K0):
  Aa0 Tryz.prog 31 [s.v] W0 M λ v W'=>∃(s':Sl),v = .tuple ⟨[Sl.v s',.bool (gjG r (Mw0 r m) r).isSome]⟩/\(∀M,gjG r (Mw0 r m) r=some M->Gf9 257 50 84 W' s' r (λ _=>r) (My2 r M))/\(gjG r (Mw0 r m) r=none->s'=⟨none,0,0⟩):=by
 apply Mx0;have av:=h.n;refine Mx2 h aa (by omega) λ W2 F _=>⟨true,rfl,λ e=>(by cases e),λ _=>?_⟩;rw[av];have ax:Gf6 W0.w.heap.size W2:=F.size;refine Mj8 ax aa (by omega) λ s7 W6 Q h7=>⟨s7,rfl,?_⟩;have aB:Gf6 W0.w.heap.size W6:=(F.trans Q).size;refine My0 aB (h.ext (F.trans Q)) h7.mat (by omega) λ G ss W9 aD ⟨B,R,ad,S⟩=>⟨G,rfl,?_⟩;obtain⟨A,hA⟩: ∃A,Mw0 r m=A:=⟨_,rfl⟩;have R:OM W9 G ss (r+r) A:=by
  rw[<-hA];exact R
 rw[hA] at E⊢;have E9:=F.trans (Q.trans aD);refine⟨igI W0 r G A W0.w.heap.size,Nf4 r,⟨0,A,ss,rfl,Nat.zero_le _,E9.toM _,rfl,B,S,R⟩,?_⟩;rintro i13 H ⟨i,M,ss,rfl,hi,af,c,B,S,T⟩;refine⟨λ aF=>?_,λ aG=>?_⟩
 ·have aH:i<r:=by omega
  have ag:=E i M (by omega) c;refine Mx7 T (by omega) (by omega) (by omega) (λ a p=>ag a i (by omega) (by omega)) hK (λ g c=>.inr (ad g c)) λ v bq br aI hX ⟨b,is,hv,p1,p2⟩=>⟨b,is,hv,λ e W hE=>?_,λ e=>?_⟩
  ·have e:is=false:=by simpa using e
   have n:=p1 e;rw[B] at n;have aN:gjG r A (i+1)=none:=by rw[gjG,c];dsimp only;rw[n]
   have ah:=Nd8 aN (show i+1<=r by omega);exact⟨⟨none,0,0⟩,by rw[ah];rfl,λ M' C=>(by rw[ah] at C;cases C),λ _=>rfl⟩
  have e:is=true:=by simpa using e
  obtain⟨a,D,n,ai,aP,aj⟩:=p2 e;rw[B] at n ai;obtain⟨bu,aQ,bv⟩:=Mw7 n;obtain⟨M2,U⟩: ∃M2,Mv2 M a i=M2:=⟨_,rfl⟩;have ak:gjG r A (i+1)=some (Mz8 M2 i):=by rw[gjG,c];dsimp only;rw[n,<-U]
  have aR: ∀x b,x<r->b<r+r->Sz K0 (M2 x b):=by
   rw[<-U];exact Nb7 aQ aH ag
  rw[U] at aj;have V: ∀a (h:a<D.length) g,D[a].v.ownBlock=some g->W0.w.heap.size<=g:=λ a p g c=>by
   obtain⟨b,o,e⟩:=aP a p;rw[e] at c;exact S b o g c
  have aS:=(af.trans (aI.toM _)).trans (hX.mono λ g c=>ad g c);refine⟨igJ W0 r G D M2 i,Nf4 r,⟨0,rfl,Nat.zero_le _,aS,aj.congr λ a b _ _=>by unfold Mw3;rw[if_neg (by omega)]⟩,?_⟩;rintro i22 bw ⟨j,rfl,hj,X,Y⟩;refine⟨λ aT=>⟨λ bz=>?_,λ heq=>⟨by unfold I64;omega,⟨j+1,by push_cast;rfl,by omega,X,Y.congr λ a b _ _=>?_⟩,?_⟩⟩,λ aU=>⟨by unfold I64;omega,⟨i+1,Mz8 M2 i,D,by push_cast;rfl,by omega,X,ak,ai,V,Y.congr λ a b p o=>?_⟩,?_⟩⟩
  ·have bA:j<r:=by omega
   have aV:j≠i:=by omega
   have aW: ∀a b,a<D.length->b<r+r->Sz K0 (Mw3 M2 i j a b):=λ a b p o=>Nc1 (aR a b (by omega) o) (E (i+1) _ (by omega) ak a b (by omega) o);refine My8 Y (by omega) (by omega) aV (by omega) (by omega) (by omega) aW hK ac (λ g c=>.inr (V j (by omega) g c)) λ bB bC aX aY aZ=>⟨rfl,by unfold I64;omega,⟨j+1,by push_cast;rfl,by omega,(X.trans (aX.toM _)).trans (aY.mono λ g c=>V j (by omega) g c),aZ.congr λ a b _ _=>?_⟩,?_⟩
   ·unfold Mz6 Mw3
    by_cases e:a=j/\i<=b
    ·obtain⟨rfl,e2⟩:=e
     rw[if_pos ⟨rfl,e2⟩,if_neg (by omega),if_neg (by omega),if_neg (by omega),if_neg (by omega),if_pos (by omega)]
    ·rw[if_neg e]
     by_cases d:a<j/\a≠i/\i<=b
     ·rw[if_pos d,if_pos (by omega)]
     ·rw[if_neg d,if_neg (by omega)]
   ·show r-Int.toNat ((j:Int)+1)<r-Int.toNat (j:Int)
    omega
  ·have:j=i:=by omega
   subst this;unfold Mw3
   by_cases d:a<j/\a≠j/\j<=b
   ·rw[if_pos d,if_pos (by omega)]
   ·rw[if_neg d,if_neg (by omega)]
  ·show r-Int.toNat ((j:Int)+1)<r-Int.toNat (j:Int)
   omega
  ·unfold Mw3 Mz8
   by_cases d:a≠i/\i<=b
   ·rw[if_pos (by omega),if_pos d]
   ·rw[if_neg (by omega),if_neg d]
  ·show r-Int.toNat ((i:Int)+1)<r-Int.toNat (i:Int)
   omega
 have:i=r:=by omega
 subst this;obtain⟨q,bD⟩: ∃q,H.w.heap.size=q:=⟨_,rfl⟩;have hle:H.w.heap.size<=q:=by omega
 have a0:W0.w.heap.size<=q:=Nat.le_trans af.size hle;have I:=T.mat;rw[B] at I;have bE:=T.n;have am:=E i M (Nat.le_refl _) c;refine Gp0 (n0:=q) (by unfold Gf6;omega) (by omega) (by omega) λ J bF a3 a4=>⟨J,rfl,?_⟩;refine⟨ivK i q H J (My2 i M),Nf4 i,⟨0,rfl,Nat.zero_le _,a3.toM _,a4.congr λ a b _ _=>by simp⟩,?_⟩;rintro i31 bG ⟨k,rfl,hk,Z,an⟩;refine⟨λ aF=>?_,λ aG bH a5=>⟨J,by rw[c];rfl,λ M' C=>?_,λ e=>(by rw[c] at e;cases e)⟩⟩
 ·have w:k<i:=by omega
  have ao:=I.new Z hle;obtain⟨x,e1,e2⟩:=ao.at (i:=k) w;refine⟨ao.inB (by omega) (by omega),x,e1,?_⟩;refine⟨ivL i q H J (My2 i M) k,Nf4 i,⟨0,rfl,Nat.zero_le _,Z,an.congr λ a b _ _=>by simp⟩,?_⟩;rintro i36 a6 ⟨l,rfl,hl,L,N⟩;refine⟨λ aT=>?_,λ aU=>⟨by unfold I64;omega,⟨k+1,by push_cast;rfl,by omega,L,N.congr λ a b p o=>?_⟩,?_⟩⟩
  ·have a7:l<i:=by omega
   have a8:=I.new L hle;obtain⟨x',a9,ba⟩:=a8.at (i:=k) w;have O:Gv6 257 50 a6 x (i+i) (M k):=by
    have hx:x=x':=by
     obtain⟨y,y1,y2⟩:=I.at (i:=k) w;have a1:=Aa7.inj (y1.new Z hle) e1 rfl;have a2:=Aa7.inj (y1.new L hle) a9 rfl;simp only[List.cons.injEq,and_true,Value.slice.injEq] at a1 a2;cases x;cases x';cases y
     simp_all
    rw[hx];exact ba
   obtain⟨bd,be,bf,g1,g2⟩:=O.at (i:=i+l) (by omega);obtain⟨bg,bh,bi,g3,g4⟩:=O.at (i:=k) (by omega);obtain⟨z,z1,z2⟩:=N.mat.at (i:=k) w;have bj:Int.toNat ((i:Int)+(l:Int))=i+l:=by omega
   refine⟨N.mat.inB (by omega) (by omega),z,z1,by unfold I64;omega,O.inB (by omega) (by omega),bd,be,bf,by rw[bj];exact g1,O.inB (by omega) (by omega),bg,bh,bi,g3,?_⟩;refine Gb1 g2 g4 (am k (i+l) w (by omega)) (am k k w (by omega)) (by omega) (by omega) ac λ bk bl bm bK P bn=>⟨bk,bl,bm,_,rfl,P,z2.inB (by omega) (by omega),?_⟩;refine(N.ext P).store (j:=l) (z1.ext P) w a7 bn (by decide) (by decide) (λ g c=>.inr (Nat.le_trans a0 c)) λ bL n bo=>⟨by unfold I64;omega,⟨l+1,by push_cast;rfl,by omega,(L.trans (P.toM _)).trans (n.Fi8 λ g c=>c),bo.congr λ a b p o=>?_⟩,?_⟩
   ·unfold Ha2
    by_cases e:a=k/\b=l
    ·rw[if_pos e,if_pos (by omega),e.1,e.2]
     rfl
    ·rw[if_neg e]
     dsimp only
     by_cases d:a<k\/(a=k/\b<l)
     ·rw[if_pos d,if_pos (by omega)]
     ·rw[if_neg d,if_neg (by omega)]
   ·show i-Int.toNat ((l:Int)+1)<i-Int.toNat (l:Int)
    omega
  ·by_cases d:a<k\/(a=k/\b<l)
   ·rw[if_pos d,if_pos (by omega)]
   ·rw[if_neg d,if_neg (by omega)]
  ·show i-Int.toNat ((k:Int)+1)<i-Int.toNat (k:Int)
   omega
 ·have:k=i:=by omega
  subst this;rw[c] at C;cases C;refine((an.ext a5).congr λ a b p o=>?_).mat;rw[if_pos (by omega)]
theorem Mw4 (h:Gf9 257 50 84 W s r (λ _=>r) m)(d:1<=r)(e:r<=5)(g: ∀i M,i<=r->gjG r (Mw0 r m) i=some M->∀a b,a<r->b<r+r->Sz K0 (M a b))(l:K0<=1000000)(n:1<=K0)(o: ∀(s':Sl) (W':PW),Ext W W'->((∀M,gjG r (Mw0 r m) r=some M->Gf9 257 50 84 W' s' r (λ _=>r) (My2 r M))/\(gjG r (Mw0 r m) r=none->s'=⟨none,0,0⟩))->K (.tuple ⟨[Sl.v s',.bool (gjG r (Mw0 r m) r).isSome]⟩) W'):
  Aa1 Tryz.prog W0 M 31 [s.v] W K:=
 Mi4 (λ _ c=>Mx9 (h.ext c) d e g l n) fun | _,W',c,⟨s',rfl,h⟩=>o s' W' c h
end Go.Proofs.YtkgeopnakkcdoaaGreatDoor
namespace Go.Proofs.YtkgeopnakkcdoaaGreatDoor
open Go Go.SX
variable {M:Nat->Prop}{S0 k:Nat}{W W0:PW}{bs:List Iv}{f:List (List Tm)}{s:Sl}
def Mw8 (f:List (List Tm)) (bs:List Iv) (i q:Nat):Rat:=atQ (Hb9 bs) (Hc3 (fAt f i) (q:Int))
def bnd (S:Nat):Nat->Nat
 | 0=>S
 | i+1=>4*bnd S i+1
theorem Ne7 {S:Nat}(h:1<=S): ∀i,1<=bnd S i
 | 0=>h
 | i+1=>by rw[bnd];omega
theorem Nc0 {r S:Nat}{A:Nat->Nat->Rat}(h1:1<=S)(l: ∀a b,a<r->b<r+r->Sz S (A a b)): ∀{i:Nat} {M:Nat->Nat->Rat},i<=r->gjG r A i=some M->∀a b,a<r->b<r+r->Sz (bnd S i) (M a b)
 | 0,M,_,h=>by cases h;exact l
 | i+1,M,hi,h=>by
  rw[gjG] at h
  cases e:gjG r A i with
  | none=>rw[e] at h;cases h
  | some m=>
   rw[e] at h;dsimp only at h
   cases c:pv m i r with
   | none=>rw[c] at h;cases h
   | some a0=>
    rw[c] at h;cases h;obtain⟨_,n,_⟩:=Mw7 c;have hm:=Nb7 n (show i<r by omega) (Nc0 h1 l (by omega) e);intro a b d g;rw[bnd];unfold Mz8;split
    ·exact((hm a b d g).sub (((hm a i d (by omega)).div (hm i i (by omega) (by omega)) (Ne7 h1 i)).mul (hm i b (by omega) g))).mono (by omega)
    ·exact(hm a b d g).mono (by omega)
theorem Ng1 {i:Nat}{S:Nat}(h:i<=3):bnd S i<=64*(S+1):=by
 rcases(by omega:i=0\/i=1\/i=2\/i=3) with rfl | rfl | rfl | rfl<;>simp only[bnd]<;>omega
theorem Nd7 {r:Nat}{m:Nat->Nat->Rat}{S:Nat}(h1:1<=S)(h: ∀a b,a<r->b<r->Sz S (m a b)): ∀a b,a<r->b<r+r->Sz S (Mw0 r m a b):=λ a b c d=>by
 unfold Mw0;split
 ·exact h a b c (by omega)
 ·exact(Mn7 a (b-r)).mono h1
theorem Ne9 {a:Nat}(h1:a<=30)(d:k<=300001):a*(k+3*(404*255+1)+1)+1<=400000000:=by
 have b:k+3*(404*255+1)+1<=609065:=by omega
 have c:a*(k+3*(404*255+1)+1)<=30*609065:=Nat.mul_le_mul h1 b;exact Nat.le_trans (Nat.add_le_add_right c 1) (by decide)
def kgO (W0:PW) (n:Nat) (J:Nat->Nat->Rat) (L:List PL) (W:PW):Prop:=match L with
 | [.row l,.val (.int .i64 i)]=>∃(j:Nat) (ss:List Sl),i=(j:Int)/\j<=n/\Ext W0 W/\ss.length=j/\l=ss.map (λ x=>[x.v])/\∀a (h:a<ss.length),Gv6 257 50 W ss[a] n (J a)
 | _=>False
def kgI (W0:PW) (n:Nat) (g:Nat->Rat) (L:List PL) (W:PW):Prop:=match L with
 | [.row l,.val (.int .i64 i)]=>∃j:Nat,i=(j:Int)/\j<=n/\Ext W0 W/\Qs 257 W l j g
 | _=>False
theorem Jb4 {t:TypeId}{xs:List (List Value)}{s':Sl}{b:Bool}{n:Nat}{f:Nat->Rat}(h:Qs t W xs n f)(c:Ab3 t W s b s' (f n)):Qs t W (xs ++ [[s.v,.bool b,s'.v]]) (n+1) f:=by
 refine⟨by simp[h.1],λ i hi=>?_⟩;have d:=h.1
 by_cases e:i=n
 ·subst e
  exact⟨s,b,s',by simp[d],c⟩
 ·obtain⟨s1,b1,s2,h1,g⟩:=h.2 i (by omega)
  exact⟨s1,b1,s2,by rw[List.getElem?_append_left (by omega)];exact h1,g⟩
theorem Mz1 {sb:Sl}{m:Nat}(G:Ps W0 s f)(g:Bc3 257 W0 sb bs)(n: ∀q∈f,Bd k q/\q.length<=30/\POk q)(hk:k<=300000)(z: ∀x∈bs,IvS m x)(hm:m<=100)(S:bs.length<=1000)(H:f.length<=1000)(T: ∀i q,i<f.length->q<f.length->Sz S0 (Mw8 f bs i q))(h1:1<=S0)(U:64*(S0+1)<=1000000):
  Aa0 Tryz.prog 22 [s.v,sb.v] W0 M λ v W'=>∃(s':Sl),v = .tuple ⟨[Sl.v s',.bool (decide (Mk5 f bs) && (gjG f.length (Mw0 f.length (Mw8 f bs)) f.length).isSome)]⟩/\(Mk5 f bs->∀M,gjG f.length (Mw0 f.length (Mw8 f bs)) f.length=some M->Gf9 257 50 84 W' s' f.length (λ _=>f.length) (My2 f.length M))/\(¬(Mk5 f bs/\(gjG f.length (Mw0 f.length (Mw8 f bs)) f.length).isSome=true)->s'=⟨none,0,0⟩):=by
 apply Mx8;refine Mn1 G g z (by omega) (by omega) (λ p h=>by have:=(n p h).2.1;omega) H λ W2 I _=>⟨_,rfl,λ b W _=>⟨⟨none,0,0⟩,?_,λ hF=>?_,λ _=>rfl⟩,λ b=>?_⟩
 ·have hF:¬Mk5 f bs:=by simpa using b
  rw[decide_eq_false hF];rfl
 ·simp[hF] at b
 have hF:Mk5 f bs:=by simpa using b
 have A:=hF.2.2;have aM:=hF.2.1;have aN:=A.1.1;have aO:=A.1.2;rw[decide_eq_true hF,Bool.true_and];refine Ml9 (g.ext I) A z (by omega) λ lp W6 V X=>?_;obtain⟨Y,Z,s9,ab,ac,ad,ae,af,ag,rfl,m0,m1,m2⟩:=X;have ah:=NmV.mk (q:=(Hb9 bs).get) m0 m1 m2;refine⟨Y,Z,s9,ab,ac,ad,ae,af,ag,rfl,?_⟩;have E6:=I.trans V;refine Mk9 (k:=k) (G.ext E6) H (λ p h=>⟨(n p h).1,by have:=(n p h).2.1;omega⟩) (by omega) λ aj ak al o=>⟨aj,rfl,?_⟩;rw[if_pos (by omega)] at o;have nJ:=Mt3 o;refine⟨kgO ak f.length (Mw8 f bs),cnB f.length,⟨0,[],rfl,Nat.zero_le _,Ext.refl _,rfl,rfl,λ a h=>by simp at h⟩,?_⟩;rintro l21 i22 am ⟨j,ss,rfl,hj,w,J,rfl,L⟩;refine⟨λ aS=>?_,λ aT an ao ap hO _=>?_⟩
 ·have B:j<f.length:=by omega
  obtain⟨aq,ar,g24⟩:=Ms2 (o.ext w) B;have n24:=g24.n;rw[Mm4] at n24;refine⟨Mr8 (o.ext w) (by omega) (by omega),aq,ar,?_⟩;refine⟨kgI am f.length (Mw8 f bs j),cnB f.length,⟨0,rfl,Nat.zero_le _,Ext.refl _,rfl,λ i h=>by omega⟩,?_⟩;rintro l27 i28 aU ⟨q,rfl,hq,c,C⟩;have aW:=C.1;refine⟨λ aX=>?_,λ aY au aZ D hO _=>?_⟩
  ·have av:q<f.length:=by omega
   obtain⟨aw,ax,N⟩:=(g24.ext c).at (i:=q) (by rw[Mm4];exact av);rw[Mr5] at N;obtain⟨O,ay,P⟩:=n _ (List.getElem_mem B);have az:BxB k m f[j] bs:=⟨⟨O,z,P,by omega,by omega,hm,S⟩,ay,hk,by omega⟩;have E:=(ah.ext (al.trans (w.trans c))).three;have a0:=Hj1 f[j] (q:Int);refine⟨(g24.ext c).inB (by omega) (by rw[Mm4];omega),aw,ax,?_⟩;refine Gr5 (u:=Hb9 bs) (l:=404) N E.1 E.2.1 E.2.2 (Hg1 O P _).sz (Hc8 az) (by omega) (Ne9 (by omega) (by omega)) (by omega) λ aA aB aC a1 Q aD=>⟨aA,aB,aC,rfl,by simp only[List.length_cons,List.length_nil];omega,by unfold I64;omega,⟨q+1,by push_cast;rfl,by omega,c.trans Q,Jb4 (C.ext Q) ?_⟩,?_⟩
   ·unfold Mw8
    rw[Mq1 B];exact aD
   ·show f.length-Int.toNat ((q:Int)+1)<f.length-Int.toNat (q:Int)
    omega
  ·have aE:q=f.length:=by omega
   subst aE;refine⟨by simp only[List.length_map,List.length_cons,List.length_nil];omega,by unfold I64;omega,⟨j+1,ss ++ [au],by push_cast;rfl,by omega,w.trans (c.trans D),by simp[J],by simp,λ a d=>?_⟩,?_⟩
   ·by_cases e:a<ss.length
    ·rw[List.getElem_append_left e]
     exact(L a e).ext (c.trans D)
    ·have:a=ss.length:=by simp at d;omega
     subst this;rw[List.getElem_concat_length rfl];have e2:ss.length=j:=J;rw[e2];exact⟨l27,hO.row,C.ext D⟩
   ·show f.length-Int.toNat ((j:Int)+1)<f.length-Int.toNat (j:Int)
    omega
 ·have a2:j=f.length:=by omega
  have F:Gf9 257 50 84 ao an f.length (λ _=>f.length) (Mw8 f bs):=⟨ss,hO.row,by omega,λ a d=>(L a d).ext ap⟩;refine Mw4 (K0:=64*(S0+1)) F (by omega) (by omega) (λ i M hi hg a b d g=>(Nc0 h1 (Nd7 h1 T) hi hg a b d g).mono (Ng1 (by omega))) U (by omega) λ R a3 a4 ⟨p1,p2⟩=>⟨R,_,rfl,λ W hE=>⟨R,rfl,λ _ M F=>(p1 M F).ext hE,λ aK=>p2 ?_⟩⟩
  cases e:gjG f.length (Mw0 f.length (Mw8 f bs)) f.length with
  | none=>rfl
  | some M=>exact absurd ⟨hF,by rw[e];rfl⟩ aK
theorem Mx3 {K:Value->PW->Prop}{sb:Sl}{m:Nat}(c:Ps W s f)(d:Bc3 257 W sb bs)(e: ∀q∈f,Bd k q/\q.length<=30/\POk q)(hk:k<=300000)(g: ∀x∈bs,IvS m x)(hm:m<=100)(l:bs.length<=1000)(n:f.length<=1000)(o: ∀i q,i<f.length->q<f.length->Sz S0 (Mw8 f bs i q))(h1:1<=S0)(p:64*(S0+1)<=1000000)(v: ∀(s':Sl) (W':PW),Ext W W'->((Mk5 f bs->∀M,gjG f.length (Mw0 f.length (Mw8 f bs)) f.length=some M->Gf9 257 50 84 W' s' f.length (λ _=>f.length) (My2 f.length M))/\(¬(Mk5 f bs/\(gjG f.length (Mw0 f.length (Mw8 f bs)) f.length).isSome=true)->s'=⟨none,0,0⟩))->K (.tuple ⟨[Sl.v s',.bool (decide (Mk5 f bs) && (gjG f.length (Mw0 f.length (Mw8 f bs)) f.length).isSome)]⟩) W'):
  Aa1 Tryz.prog W0 M 22 [s.v,sb.v] W K:=
 Mi4 (λ _ b=>Mz1 (c.ext b) (d.ext b) e hk g hm l n o h1 p) fun | _,W',b,⟨s',rfl,h⟩=>v s' W' b h
end Go.Proofs.YtkgeopnakkcdoaaGreatDoor
namespace Go.Proofs.YtkgeopnakkcdoaaGreatDoor
open Go Go.SX
variable {bs:List Iv}{f:List (List Tm)}{u:Pt}{x:Iv}{y:Nat->Nat->Rat}
theorem Na7 {k:Nat}(hu:Ha3 (Bm3 bs) u)(h1:bs.length<=k)(b:k<3):u.get k=0:=by
 have:=hu k b;rw[Fa0 h1] at this;have h1:=this.1;have c:=this.2;show u.get k=0;have d:(0:Rat)<=u.get k:=h1;have a2:u.get k<=(0:Rat):=c;grind
theorem Nf0 {p:List Tm}(l:bs.length<=3)(n:Av6 p)(o:POk p){v:Pt}(hu:Ha3 (Bm3 bs) u)(g:Ha3 (Bm3 bs) v): ∃h:Nat->Rat,(∀k:Nat,k<3->inI (Aq8 (Bm3 bs) (Hc3 p (k:Int))) (h k))/\atQ u p-atQ v p=Mu5 (λ k=>h k*(u.get k-v.get k)) bs.length:=by
 obtain⟨c,h1,d,w,k1,A,e⟩:=Hj6 hu g p o;have q: ∀i:Nat,i<3->Aq8 (Bm3 bs) (Hc3 p (i:Int))=ovS (Bm3 bs) (Hc1 p i):=λ i hi=>by rw[Gc3,Hp8 n hi]
 refine⟨λ k=>if k=0 then c else if k=1 then h1 else d,λ k hk=>?_,?_⟩
 ·rcases(by omega:k=0\/k=1\/k=2) with rfl | rfl | rfl
  ·rw[q 0 (by omega)];exact w
  ·rw[q 1 (by omega)];exact k1
  ·rw[q 2 (by omega)];exact A
 ·rw[Hr9,Hr9,e]
  have z: ∀k,bs.length<=k->k<3->u.get k=0/\v.get k=0:=λ k a b=>⟨Na7 hu a b,Na7 g a b⟩;have B:Mu5 (λ k=>(if k=0 then c else if k=1 then h1 else d)*(u.get k-v.get k)) 3=Mu5 (λ k=>(if k=0 then c else if k=1 then h1 else d)*(u.get k-v.get k)) bs.length:=Mv9 l λ j a b=>by
   obtain⟨C,a2⟩:=z j a b;rw[C,a2];grind
  rw[<-B];simp only[Mu5];show _=0+c*(u.x-v.x)+h1*(u.y-v.y)+d*(u.z-v.z);grind
theorem Ne4 {z:Iv}{v w:Rat}(h:inI x v)(k:inI z w):inI (He4 x z) (v-w):=by
 obtain⟨a,b⟩:=h;obtain⟨c,d⟩:=k;exact⟨by show x.1-z.2<=v-w;grind,by show v-w<=x.2-z.1;grind⟩
theorem Nc9 {v:Rat}(h:inI x v)(r:Rat):inI (De8 x r) (r*v):=by
 rw[<-Ez7,Rat.mul_comm];exact Gc0 h ⟨Rat.le_refl,Rat.le_refl⟩
theorem Nd3 {f:List (List Tm)}{y:Nat->Nat->Rat}{bs:List Iv}{H:Nat->Nat->Rat}{i k:Nat}: ∀{n:Nat} (_: ∀j,j<n->inI (Aq8 (Bm3 bs) (Hc3 (fAt f j) (k:Int))) (H j k)),inI (krS f y bs i k n) ((if i=k then 1 else 0)-Mu5 (λ j=>y i j*H j k) n)
 | 0,_=>by
  have e:(if i=k then(1:Rat) else 0)-Mu5 (λ j=>y i j*H j k) 0=if i=k then 1 else 0:=by unfold Mu5;grind
  rw[e];exact⟨Rat.le_refl,Rat.le_refl⟩
 | n+1,h=>by
  have h1:=Nd3 (f:=f) (y:=y) (bs:=bs) (H:=H) (i:=i) (k:=k) (n:=n) λ j c=>h j (by omega);have b:=Ne4 h1 (Nc9 (h n (by omega)) (y i n));have e:(if i=k then(1:Rat) else 0)-Mu5 (λ j=>y i j*H j k) (n+1)=(if i=k then(1:Rat) else 0)-Mu5 (λ j=>y i j*H j k) n-y i n*H n k:=by
   show _-(Mu5 (λ j=>y i j*H j k) n+y i n*H n k)=_;grind
  rw[e];exact b
def yf (f:List (List Tm)) (y:Nat->Nat->Rat) (n:Nat) (u:Pt) (i:Nat):Rat:=Mu5 (λ j=>y i j*atQ u (fAt f j)) n
theorem Nd5 (f:List (List Tm))(y:Nat->Nat->Rat)(bs:List Iv)(i:Nat): ∀n,krA f y bs i n=(Hb9 bs).get i-yf f y n (Hb9 bs) i
 | 0=>by unfold yf Mu5 krA;grind
 | n+1=>by
  rw[krA,Nd5 f y bs i n];show _=_-(yf f y n (Hb9 bs) i+y i n*atQ (Hb9 bs) (fAt f n));grind
theorem Mv6 (hF:Mk5 f bs)(c: ∀p∈f,Av6 p/\POk p){v:Pt}(hu:Ha3 (Bm3 bs) u)(d:Ha3 (Bm3 bs) v): ∃s:Nat->Nat->Rat,(∀i k,i<bs.length->k<bs.length->inI (krS f y bs i k f.length) (s i k))/\∀i,i<bs.length->(u.get i-v.get i)-(yf f y f.length u i-yf f y f.length v i)=Mu5 (λ k=>s i k*(u.get k-v.get k)) bs.length:=by
 have l:=hF.2.2.1.2;have key: ∀j,∃h:Nat->Rat,j<f.length->(∀k:Nat,k<3->inI (Aq8 (Bm3 bs) (Hc3 (fAt f j) (k:Int))) (h k))/\atQ u (fAt f j)-atQ v (fAt f j)=Mu5 (λ k=>h k*(u.get k-v.get k)) bs.length:=λ j=>by
  by_cases b:j<f.length
  ·rw[Mq1 b]
   obtain⟨g,o⟩:=c _ (List.getElem_mem b);obtain⟨h,k⟩:=Nf0 l g o hu d;exact⟨h,λ _=>k⟩
  ·exact⟨λ _=>0,λ h=>absurd h b⟩
 obtain⟨H,hH⟩:=Classical.axiomOfChoice key;refine⟨λ i k=>(if i=k then 1 else 0)-Mu5 (λ j=>y i j*H j k) f.length,λ i k hi hk=>Nd3 (H:=H) λ j b=>(hH j b).1 k (by omega),λ i hi=>?_⟩;have n:yf f y f.length u i-yf f y f.length v i=Mu5 (λ j=>Mu5 (λ k=>y i j*H j k*(u.get k-v.get k)) bs.length) f.length:=by
  have:Mu5 (λ j=>Mu5 (λ k=>y i j*H j k*(u.get k-v.get k)) bs.length) f.length=Mu5 (λ j=>y i j*atQ u (fAt f j)+(-1)*(y i j*atQ v (fAt f j))) f.length:=Mu6 λ j b=>by
   have q:Mu5 (λ k=>y i j*H j k*(u.get k-v.get k)) bs.length=Mu5 (λ k=>y i j*(H j k*(u.get k-v.get k))) bs.length:=Mu6 λ k _=>by grind
   rw[q,Mu8,<-(hH j b).2];grind
  rw[this,Mw5,Mu8];unfold yf;grind
 rw[n,Nc2];have w:Mu5 (λ k=>((if i=k then 1 else 0)-Mu5 (λ j=>y i j*H j k) f.length)*(u.get k-v.get k)) bs.length=Mu5 (λ k=>(if k=i then u.get k-v.get k else 0)+(-1)*Mu5 (λ j=>y i j*H j k*(u.get k-v.get k)) f.length) bs.length:=Mu6 λ k _=>by
  have z:Mu5 (λ j=>y i j*H j k*(u.get k-v.get k)) f.length=Mu5 (λ j=>(u.get k-v.get k)*(y i j*H j k)) f.length:=Mu6 λ j _=>by grind
  rw[z,Mu8]
  by_cases e:i=k
  ·rw[if_pos e,if_pos e.symm]
   grind
  ·rw[if_neg e,if_neg λ h=>e h.symm]
   grind
 rw[w,Mw5,Mu8,Mv4 (k:=i) hi λ j _ b=>if_neg b,if_pos rfl];grind
def Nd0 (f:List (List Tm)) (y:Nat->Nat->Rat) (bs:List Iv) (u:Pt):Pt:=⟨if 0<bs.length then u.x-yf f y f.length u 0 else 0,if 1<bs.length then u.y-yf f y f.length u 1 else 0,if 2<bs.length then u.z-yf f y f.length u 2 else 0⟩
theorem Nb5 {i:Nat}(f:List (List Tm))(y:Nat->Nat->Rat)(bs:List Iv)(u:Pt)(hi:i<3):(Nd0 f y bs u).get i=if i<bs.length then u.get i-yf f y f.length u i else 0:=by
 rcases(by omega:i=0\/i=1\/i=2) with rfl | rfl | rfl<;>rfl
theorem Nd2 (hF:Mk5 f bs)(e:Mq8 f y bs)(g: ∀p∈f,Av6 p/\POk p)(hu:Ha3 (Bm3 bs) u):Ha3 (Bm3 bs) (Nd0 f y bs u):=λ i h=>by
 rw[Nb5 f y bs u h]
 by_cases hi:i<bs.length
 ·rw[if_pos hi]
  have c: ∀x∈bs,x.1<=x.2:=λ x l=>Rat.le_of_lt (hF.2.2.2 x l);obtain⟨s,h1,n⟩:=Mv6 (y:=y) hF g hu (Hq3 c);have o:=Mv3 (f:=f) (y:=y) (s:=s) (d:=λ k=>u.get k-(Hb9 bs).get k) (rho:=1) (by decide +kernel) c (i:=i) (λ k hk=>h1 i k hi hk) λ k hk=>by
   have a:=hu k (by have:=hF.2.2.1.2;omega);obtain⟨m1,m2⟩:=Na6 (Bm3 bs k);rw[Hd5 bs (by have:=hF.2.2.1.2;omega),Rat.one_mul];unfold wid;exact Mw9 (by have:=a.2;grind) (by have:=a.1;grind)
  rw[<-n i hi,Rat.one_mul] at o;obtain⟨r1,q⟩:=Mx1 (f:=f) (y:=y) c i bs.length hF.2.2.1.2;obtain⟨k1,v⟩:=e i hi;rw[Nd5] at r1 q;have b:=Mu9 (u.get i-(Hb9 bs).get i-(yf f y f.length u i-yf f y f.length (Hb9 bs) i));exact⟨by grind,by grind⟩
 ·rw[if_neg hi,Fa0 (by omega)]
  exact⟨Rat.le_refl,Rat.le_refl⟩
theorem Nc8 {c:Rat}{rho:Rat}(hF:Mk5 f bs)(n:Mq8 f y bs)(g: ∀p∈f,Av6 p/\POk p)(hu:Ha3 (Bm3 bs) u)(o: ∀i,i<bs.length->reach f y bs i bs.length<=c*wid bs i)(h:0<=rho)(q: ∀i,i<bs.length->Mw1 (yf f y f.length u i)<=rho*wid bs i): ∀i,i<bs.length->Mw1 (yf f y f.length (Nd0 f y bs u) i)<=c*rho*wid bs i:=λ i hi=>by
 have v: ∀x∈bs,x.1<=x.2:=λ x w=>Rat.le_of_lt (hF.2.2.2 x w);have C:=hF.2.2.1.2;obtain⟨s,h1,z⟩:=Mv6 (y:=y) hF g (Nd2 hF n g hu) hu;have e:=z i hi;have d: ∀k,k<bs.length->(Nd0 f y bs u).get k-u.get k = -(yf f y f.length u k):=λ k hk=>by
  rw[Nb5 f y bs u (by omega),if_pos hk];grind
 have A:Mu5 (λ k=>s i k*((Nd0 f y bs u).get k-u.get k)) bs.length=Mu5 (λ k=>s i k * -(yf f y f.length u k)) bs.length:=Mu6 λ k hk=>by rw[d k hk]
 rw[A,d i hi] at e;have l:=Mv3 (f:=f) (y:=y) (s:=s) (d:=λ k=>-(yf f y f.length u k)) h v (i:=i) (λ k hk=>h1 i k hi hk) λ k hk=>by
  have:=q k hk;have b:=Mu9 (yf f y f.length u k);exact Mw9 (by grind) (by grind)
 rw[<-e] at l;have B: -(yf f y f.length u i)-(yf f y f.length (Nd0 f y bs u) i-yf f y f.length u i) = -(yf f y f.length (Nd0 f y bs u) i):=by grind
 rw[B] at l;have b:=Mu9 (-(yf f y f.length (Nd0 f y bs u) i));have D:=Rat.mul_le_mul_of_nonneg_left (o i hi) h;exact Mw9 (by grind) (by grind)
theorem steps {f:List (List Tm)}{y:Nat->Nat->Rat}{bs:List Iv}(hF:Mk5 f bs)(c:Mq8 f y bs)(d: ∀p∈f,Av6 p/\POk p){b rho:Rat}(g: ∀i,i<bs.length->reach f y bs i bs.length<=b*wid bs i)(h:0<=b)(l:0<=rho){u:Pt}(hu:Ha3 (Bm3 bs) u)(n: ∀i,i<bs.length->Mw1 (yf f y f.length u i)<=rho*wid bs i): ∀t:Nat,∃v:Pt,Ha3 (Bm3 bs) v/\∀i,i<bs.length->Mw1 (yf f y f.length v i)<=b^t*rho*wid bs i
 | 0=>⟨u,hu,λ i hi=>by rw[Rat.pow_zero,Rat.one_mul];exact n i hi⟩
 | t+1=>by
  obtain⟨v,h1,o⟩:=steps hF c d g h l hu n t;refine⟨Nd0 f y bs v,Nd2 hF c d h1,λ i hi=>?_⟩;have:=Nc8 hF c d h1 g (Rat.mul_nonneg (Az6 h t) l) o i hi;rw[Rat.pow_succ];have e:b^t*b*rho*wid bs i=b*(b^t*rho)*wid bs i:=by grind
  rw[e];exact this
end Go.Proofs.YtkgeopnakkcdoaaGreatDoor
namespace Go.Proofs.YtkgeopnakkcdoaaGreatDoor
open Go Go.SX
variable {bs:List Iv}{i j k:Nat}{m y:Nat->Nat->Rat}
def Ng7 (c:Rat) (w:Nat->Rat):Nat->List Tm
 | 0=>Ag2 [((⟨0,0,0⟩:Mon),c)]
 | j+1=>Ag2 (Ng7 c w j ++ Ag2 (pmap (Dc6 (j:Int)) (w j)))
theorem Ng9 (c:Rat)(w:Nat->Rat): ∀n,Av6 (Ng7 c w n)
 | 0=>Ce8 _
 | n+1=>Ce8 _
theorem Nh4 (c:Rat)(w:Nat->Rat): ∀n,n<=3->(Ng7 c w n).length<=n+1
 | 0,_=>El2 [((⟨0,0,0⟩:Mon),c)]
 | n+1,h=>by
  have h1:=El2 (Ng7 c w n ++ Ag2 (pmap (Dc6 (n:Int)) (w n)));have b:=El2 (pmap (Dc6 (n:Int)) (w n));have d:=Nh4 c w n (by omega);have e:(Dc6 (n:Int)).length=1:=by unfold Dc6;rw[if_pos ⟨by omega,by omega⟩];rfl
  rw[Ew2,e] at b;rw[List.length_append] at h1;rw[Ng7];omega
theorem Ng8 (c:Rat)(w:Nat->Rat): ∀n,n<=3->∀t∈Ng7 c w n,t.1=⟨0,0,0⟩\/∃i,i<n/\t.1=Da3 i
 | 0,_,t,d=>by
  obtain⟨u,hu,e⟩:=Gu2 d;rw[List.mem_singleton.1 hu] at e;exact .inl e
 | n+1,h,t,d=>by
  obtain⟨u,hu,e⟩:=Gu2 d;rcases List.mem_append.1 hu with hu | hu
  ·rcases Ng8 c w n (by omega) u hu with b | ⟨i,hi,b⟩
   ·exact .inl (e.trans b)
   ·exact .inr ⟨i,by omega,e.trans b⟩
  ·obtain⟨v,g,b⟩:=Gu2 hu
   have l:Dc6 (n:Int) = [(Da3 n,1)]:=by unfold Dc6;rw[if_pos ⟨by omega,by omega⟩,Int.toNat_natCast]
   rw[l] at g;have:v=(Da3 n,1*w n):=by simpa[pmap] using g
   exact .inr ⟨n,by omega,by rw[e,b,this]⟩
theorem Ni8 (c:Rat)(w:Nat->Rat){n:Nat}(b:n<=3):Gk4 1 (Ng7 c w n):=λ t d=>by
 rcases Ng8 c w n b t d with e | ⟨i,hi,e⟩
 ·rw[e];decide
 ·rw[e]
  rcases(by omega:i=0\/i=1\/i=2) with rfl | rfl | rfl<;>decide
theorem Nk9 (c:Rat)(w:Nat->Rat){n:Nat}(b:n<=3):POk (Ng7 c w n):=λ t d=>(Ni8 c w b t d).1
theorem Ni5 {c:Rat}{w:Nat->Rat}(b:Sz 4 c)(hw: ∀i,Sz 4 (w i)): ∀n,Bd (8+20*n) (Ng7 c w n)
 | 0=>((Cq4 b).mono (by omega)).norm
 | n+1=>((Ni5 b hw n).append (Bd.pmap (Gs7 (n:Int)) (hw n)).norm).norm.mono (by omega)
theorem Ni9 (c:Rat)(w:Nat->Rat): ∀n,n<=3->∀i,i<3->Aj5 (Ng7 c w n) (Da3 i)=if i<n then w i else 0
 | 0,_,i,hi=>by
  rw[Ng7,Bh2,if_neg (by omega)];show(if(⟨0,0,0⟩:Mon)=Da3 i then c else 0)+0=0;rw[if_neg ?_]
  ·grind
  ·rcases(by omega:i=0\/i=1\/i=2) with rfl | rfl | rfl<;>decide
 | n+1,h,i,hi=>by
  rw[Ng7,Bh2,Au2,Bh2,Ni9 c w n (by omega) i hi];have d:Dc6 (n:Int) = [(Da3 n,1)]:=by unfold Dc6;rw[if_pos ⟨by omega,by omega⟩,Int.toNat_natCast]
  rw[d];show(if i<n then w i else 0)+((if Da3 n=Da3 i then 1*w n else 0)+0)=_
  by_cases e:i=n
  ·subst e
   rw[if_neg (by omega),if_pos rfl,if_pos (by omega)];grind
  ·rw[if_neg (c:=Da3 n=Da3 i) λ g=>e (Ib7 (by omega) hi g).symm]
   by_cases b:i<n
   ·rw[if_pos b,if_pos (by omega)];grind
   ·rw[if_neg b,if_neg (by omega)];grind
theorem Nh1 {l:Nat->Iv}(c:Rat)(w:Nat->Rat){n:Nat}(d:n<=3)(g:j<n):Aq8 l (Hc3 (Ng7 c w n) (j:Int))=Eb6 (w j):=by
 rw[Gc3,Hp8 (Ng9 c w n) (by omega),Hz5 l (Hn6 (Ng9 c w n) j) (ms:=[⟨0,0,0⟩]) (by simp) λ t h=>by
  obtain⟨s,o,b,rfl⟩:=Hj9 h;have v:j<3:=by omega
  rcases Ng8 c w n d s o with e | ⟨i,hi,e⟩
  ·rw[e] at b
   rcases(by omega:j=0\/j=1\/j=2) with rfl | rfl | rfl<;>exact absurd b (by decide)
  ·rw[e] at b⊢
   have z:i<3:=by omega
   rcases(by omega:i=0\/i=1\/i=2) with rfl | rfl | rfl<;>rcases(by omega:j=0\/j=1\/j=2) with rfl | rfl | rfl<;>first | exact List.mem_singleton.2 rfl | exact absurd b (by decide)]
 simp only[Ib5];rw[Ia5 (Nk9 c w d) j];have p:Ic6 ⟨0,0,0⟩ j=Da3 j:=by
  rcases(by omega:j=0\/j=1\/j=2) with rfl | rfl | rfl<;>rfl
 have q:An6 (⟨0,0,0⟩:Mon) j+1=1:=by unfold An6;(repeat' split)<;>rfl
 rw[p,q,Ni9 c w n d j (by omega),if_pos g,show((1:Int):Rat)=1 from rfl,Rat.mul_one,Hy1];rfl
theorem Nj6 (u:Pt)(c:Rat)(w:Nat->Rat): ∀n,n<=3->atQ u (Ng7 c w n)=c+Mu5 (λ k=>w k*u.get k) n
 | 0,_=>by
  rw[Ng7,Gn5];show(0:Rat)+ctm (⟨0,0,0⟩,c) u 3=c+0;rw[Hs5];show 0+c*u.x^0*u.y^0*u.z^0=c+0;rw[Rat.pow_zero,Rat.pow_zero,Rat.pow_zero];grind
 | n+1,h=>by
  rw[Ng7,Gn5,Gw0,Gn5,Gy3,Gz3 u (by omega),Nj6 u c w n (by omega)];show _=c+(Mu5 (λ k=>w k*u.get k) n+w n*u.get n);grind
theorem Nk2 (d: ∀x∈bs,x.1<=x.2)(c:Rat)(w:Nat->Rat){n:Nat}(e:n<=3)(g:j<n):atQ (Hb9 bs) (Hc3 (Ng7 c w n) (j:Int))=w j:=by
 have h:=Hq8 (Hq3 d) (Hc3 (Ng7 c w n) (j:Int));rw[Nh1 c w e g] at h;have a:w j<=_:=h.1;have b:_<=w j:=h.2;grind
theorem Nj5 (b:Cn7 bs)(c:Rat)(w:Nat->Rat):An3 (Ng7 c w bs.length) bs:=⟨b,Hx0 (by omega) λ t d=>by
 rcases Ng8 c w bs.length b.1.2 t d with e | ⟨i,hi,e⟩
 ·rw[e]
  show(0:Int)<=_;omega
 ·rw[e]
  have g:=b.1.2;have:Cx8 (Da3 i)=(i:Int)+1:=by
   rcases(by omega:i=0\/i=1\/i=2) with rfl | rfl | rfl<;>rfl
  rw[this];omega⟩
def Nh9 (m:Nat->Nat->Rat) (c:Nat->Rat) (n j:Nat):List (List Tm):=(List.range j).map λ i=>Ng7 (-(c i)) (m i) n
theorem Ng5 (m:Nat->Nat->Rat)(c:Nat->Rat)(n j:Nat):(Nh9 m c n j).length=j:=by unfold Nh9;rw[List.length_map,List.length_range]
theorem Nj8 (m:Nat->Nat->Rat)(c:Nat->Rat)(n j:Nat):Nh9 m c n (j+1)=Nh9 m c n j ++ [Ng7 (-(c j)) (m j) n]:=by unfold Nh9;rw[List.range_succ,List.map_append];rfl
theorem Ni4 {c:Nat->Rat}{n:Nat}(h:i<j):fAt (Nh9 m c n j) i=Ng7 (-(c i)) (m i) n:=by
 rw[Mq1 (by rw[Ng5];exact h)];simp only[Nh9,List.getElem_map,List.getElem_range]
theorem Nj0 {c:Nat->Rat}{n:Nat}{p:List Tm}(h:p∈Nh9 m c n j): ∃i,i<j/\p=Ng7 (-(c i)) (m i) n:=by
 obtain⟨i,hi,e⟩:=List.mem_map.1 h;exact⟨i,List.mem_range.1 hi,e.symm⟩
def Nk6 (n:Nat) (m y:Nat->Nat->Rat):Prop:=∀u v:Nat->Rat,(∀a,a<n->Mu5 (λ b=>m a b*u b) n=v a)↔∀a,a<n->u a=Mu5 (λ j=>y a j*v j) n
theorem Nk4 {n:Nat}(h:Nk6 n m y)(hi:i<n)(hk:k<n):Mu5 (λ j=>y i j*m j k) n=if i=k then 1 else 0:=by
 have:=(h (λ b=>if b=k then 1 else 0) (λ a=>m a k)).1 (λ a d=>by
  rw[Mv4 hk λ j _ c=>by rw[if_neg c,Rat.mul_zero]];rw[if_pos rfl,Rat.mul_one]) i hi
 exact this.symm
theorem Nj7 {c:Nat->Rat}(b:bs.length<=3)(hk:k<bs.length): ∀q,q<=bs.length->krS (Nh9 m c bs.length bs.length) y bs i k q=Eb6 ((if i=k then 1 else 0)-Mu5 (λ j=>y i j*m j k) q)
 | 0,_=>by
  rw[krS];unfold Eb6 Mu5;exact Prod.ext (by dsimp only;grind) (by dsimp only;grind)
 | q+1,g=>by
  rw[krS,Nj7 b hk q (by omega),Ni4 (by omega),Nh1 _ _ b hk];have e:De8 (Eb6 (m q k)) (y i q)=Eb6 (m q k*y i q):=Mj9 _;rw[e];have d:Mu5 (λ j=>y i j*m j k) (q+1)=Mu5 (λ j=>y i j*m j k) q+y i q*m q k:=rfl;rw[d];unfold He4 Eb6;exact Prod.ext (by dsimp only;grind) (by dsimp only;grind)
theorem Nk8 {c:Nat->Rat}(b:bs.length<=3)(h:Nk6 bs.length m y)(hi:i<bs.length):krA (Nh9 m c bs.length bs.length) y bs i bs.length=Mu5 (λ j=>y i j*c j) bs.length:=by
 rw[Nd5];unfold yf;have d:Mu5 (λ j=>y i j*atQ (Hb9 bs) (fAt (Nh9 m c bs.length bs.length) j)) bs.length=Mu5 (λ j=>(-1)*(y i j*c j)+y i j*Mu5 (λ k=>m j k*(Hb9 bs).get k) bs.length) bs.length:=Mu6 λ j e=>by
  rw[Ni4 e,Nj6 _ _ _ _ b];grind
 have g:=(h (Hb9 bs).get (λ j=>Mu5 (λ k=>m j k*(Hb9 bs).get k) bs.length)).1 (λ a _=>rfl) i hi;rw[d,Mw5,Mu8,<-g];grind
theorem Ni3 {c:Nat->Rat}(b:bs.length<=3)(h:Nk6 bs.length m y)(hi:i<bs.length): ∀q,q<=bs.length->krR (Nh9 m c bs.length bs.length) y bs i q=Eb6 (Mu5 (λ j=>y i j*c j) bs.length)
 | 0,_=>by rw[krR,Ng5,Nk8 b h hi]
 | q+1,d=>by
  rw[krR,Ni3 b h hi q (by omega),Ng5,Nj7 b (by omega) _ (Nat.le_refl _),Nk4 h hi (by omega)];have e:(if i=q then(1:Rat) else 0)-(if i=q then 1 else 0)=0:=by grind
  rw[e,Mq6,Hy1]
theorem Nk7 {c:Nat->Rat}(d:bs.length<=3)(h:Nk6 bs.length m y):Mq8 (Nh9 m c bs.length bs.length) y bs↔∀i,i<bs.length->(Bm3 bs i).1<Mu5 (λ j=>y i j*c j) bs.length/\Mu5 (λ j=>y i j*c j) bs.length<(Bm3 bs i).2:=by
 constructor
 ·intro b i hi
  have:=b i hi;rw[Ni3 d h hi _ (Nat.le_refl _)] at this;exact this
 ·intro b i hi
  rw[Ni3 d h hi _ (Nat.le_refl _)];exact b i hi
theorem find_congr {p:Nat->Bool}{q:Nat->Bool}: ∀l:List Nat,(∀x∈l,p x=q x)->l.find? p=l.find? q
 | [],_=>rfl
 | a::l,h=>by
  rw[List.find?_cons,List.find?_cons,h a (by simp),find_congr l λ x b=>h x (by simp[b])]
theorem Nh3 {r:Nat}{A B:Nat->Nat->Rat}(h: ∀a b,a<r->b<r+r->A a b=B a b): ∀k,k<=r->(gjG r A k=none/\gjG r B k=none)\/∃M N,gjG r A k=some M/\gjG r B k=some N/\∀a b,a<r->b<r+r->M a b=N a b
 | 0,_=>.inr ⟨A,B,rfl,rfl,h⟩
 | k+1,hk=>by
  rcases Nh3 h k (by omega) with⟨h1,g⟩ | ⟨M,N,h1,g,o⟩
  ·exact .inl ⟨by rw[gjG,h1],by rw[gjG,g]⟩
  ·have e:pv M k r=pv N k r:=by
    cases p:pv M k r with
    | none=>
     cases c:pv N k r with
     | none=>rfl
     | some b=>
      obtain⟨g1,g2,g3⟩:=Mw7 c;exact absurd ((o b k g2 (by omega)).symm.trans (Ne2 p b g1 g2)) g3
    | some a=>
     have q:pv M k r=(List.range r).find? λ a=>decide (k<=a/\M a k≠0):=rfl;have v:pv N k r=(List.range r).find? λ a=>decide (k<=a/\N a k≠0):=rfl;rw[<-p,q,v];exact find_congr _ λ x d=>by rw[o x k (List.mem_range.1 d) (by omega)]
   cases c:pv N k r with
   | none=>exact .inl ⟨by rw[gjG,h1];dsimp only;rw[e,c],by rw[gjG,g];dsimp only;rw[c]⟩
   | some a=>
    obtain⟨g1,g2,g3⟩:=Mw7 c;refine .inr ⟨Mz8 (Mv2 M a k) k,Mz8 (Mv2 N a k) k,by rw[gjG,h1];dsimp only;rw[e,c],by rw[gjG,g];dsimp only;rw[c],λ x b d l=>?_⟩;have n: ∀x b,x<r->b<r+r->Mv2 M a k x b=Mv2 N a k x b:=λ x b d l=>o _ _ (Mz0 g2 (by omega) d) l;unfold Mz8;rw[n x b d l,n x k d (by omega),n k k (by omega) (by omega),n k b (by omega) l]
end Go.Proofs.YtkgeopnakkcdoaaGreatDoor
namespace Go.Proofs.YtkgeopnakkcdoaaGreatDoor
open Go Go.Shelf Go.Proofs
def Dm9:Go.Shelf.Ren:=⟨fun | 28=>264 | n=>n,fun | 27=>257 | 3=>3 | 4=>4 | 25=>290 | 53=>351 | 0=>0 | 5=>5 | n=>n,fun | 0=>1 | n=>n⟩
theorem Ff9:Go.Proofs.Lays7.n28 Tryz.prog Dm9 where
 mixed:=by kernel_rfl
 f28:=Tryz.func264.trans (congrArg some (by kernel_rfl))
 t0:=Tryz.underlying0
 a0:=Tryz.isAgg0
 z0:=Tryz.sizeOf0
 v0:=Tryz.zeroValue0
 i0:=by kernel_rfl
 t3:=Tryz.underlying3
 a3:=Tryz.isAgg3
 z3:=Tryz.sizeOf3
 v3:=Tryz.zeroValue3
 i3:=by kernel_rfl
 t4:=Tryz.underlying4
 a4:=Tryz.isAgg4
 z4:=Tryz.sizeOf4
 v4:=Tryz.zeroValue4
 i4:=by kernel_rfl
 t5:=Tryz.underlying5
 a5:=Tryz.isAgg5
 z5:=Tryz.sizeOf5
 v5:=Tryz.zeroValue5
 i5:=by kernel_rfl
 t25:=Tryz.underlying290
 a25:=Tryz.isAgg290
 z25:=Tryz.sizeOf290
 v25:=Tryz.zeroValue290
 i25:=by kernel_rfl
 t27:=Tryz.underlying257
 a27:=Tryz.isAgg257
 z27:=Tryz.sizeOf257
 v27:=Tryz.zeroValue257
 i27:=by kernel_rfl
 t53:=Tryz.underlying351
 a53:=Tryz.isAgg351
 z53:=Tryz.sizeOf351
 v53:=Tryz.zeroValue351
 i53:=by kernel_rfl
 g0:=by kernel_rfl
end Go.Proofs.YtkgeopnakkcdoaaGreatDoor
namespace Go.Proofs.YtkgeopnakkcdoaaGreatDoor
open Go Go.SX
variable {M:Nat->Prop}{W W0:PW}{x:Nat}
def Ac6 (W:PW):Prop:=(∀j,j<32->W.w.cell? ⟨1,j,none⟩=some (.int .u8 ((Go.Lib.deBruijn32tab.getD j 0:Nat):Int)))/\1<W.w.heap.size/\¬W.S 1
theorem Ac6.ext {W':PW}(h:Ac6 W)(b:Ext W W'):Ac6 W':=by
 have hk:=b.Ai1 _ h.2.1 h.2.2;refine⟨λ j c=>?_,Nat.lt_of_lt_of_le h.2.1 b.size,hk.2⟩;have:=h.1 j c;unfold World.cell? at this⊢;dsimp only at this⊢;rw[hk.1];exact this
theorem Fh2 (c:Ac6 W0)(d:x<4294967296):
  Aa0 Tryz.prog 264 [.int .u32 (x:Int)] W0 M λ v W'=>v = .int .i64 ((Go.Lib.ctz 32 x:Nat):Int)/\True:=by
 refine⟨⟨_,Tryz.func264,by kernel_rfl,by kernel_rfl⟩,λ h=>?_⟩;have b:=Proofs.Any7.bits_TrailingZeros32 Ff9 x d W0.w λ _ j g=>c.1 j g
 change Calls Tryz.prog 264 _ _ _ at b
 refine Calls.mono b ?_;rintro e w' ⟨rfl,rfl⟩;exact⟨_,rfl,Am7.refl _ _,rfl,trivial⟩
theorem El3 {K:Value->PW->Prop}(c:Ac6 W)(d:x<4294967296)(e: ∀(W':PW),Ext W W'->(True)->K (.int .i64 ((Go.Lib.ctz 32 x:Nat):Int)) W'):
  Aa1 Tryz.prog W0 M 264 [.int .u32 (x:Int)] W K:=
 Mi4 (λ _ b=>Fh2 (c.ext b) d) fun | _,W',b,⟨rfl,h⟩=>e W' b h
end Go.Proofs.YtkgeopnakkcdoaaGreatDoor
