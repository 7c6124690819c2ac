import Derived.Test.YtkgeopnakkcdoaaGreatW8
import Derived.Test.YtkgeopnakkcdoaaGreatW6
import Derived.Test.YtkgeopnakkcdoaaGreatLib4
import Derived.Test.YtkgeopnakkcdoaaGreatW7
import Derived.Test.YtkgeopnakkcdoaaGreatR7
import Derived.Test.YtkgeopnakkcdoaaGreatR8
set_option linter.unusedVariables false
set_option linter.unusedSimpArgs false
set_option maxRecDepth 100000
namespace Go.Proofs.YtkgeopnakkcdoaaGreat
open Go Go.SX
variable {K:Value->PW->Prop}{M:Nat->Prop}{W W0:PW}{a r:Rat}{b b1 b2 b3:Bool}{k:Nat}{l2:List Value}{q:List Rat}{s s1 s2 s3 t t1 t2 t3:Sl}{ty:TypeId}{x y:Iv}
theorem Dg1 (h:Ab6 214 W0 b s t r):
  Aa0 Tryz.prog 92 [.agg ⟨[.bool b,s.v,t.v]⟩] W0 M λ v W'=>∃(l:List Value),v = .agg ⟨l⟩/\Ah6 214 W' l (Eb6 r):=by
 apply Cd3;exact λ d c=>⟨_,rfl,Ah6.mk (x:=Eb6 r) (h.ext c) (h.ext c)⟩
theorem Bd0 (h:Ab6 214 W b s t r)(d: ∀(l:List Value) (W':PW),Ext W W'->(Ah6 214 W' l (Eb6 r))->K (.agg ⟨l⟩) W'):
  Aa1 Tryz.prog W0 M 92 [.agg ⟨[.bool b,s.v,t.v]⟩] W K:=
 Mi4 (λ _ c=>Dg1 (h.ext c)) fun | _,W',c,⟨l,rfl,h⟩=>d l W' c h
theorem Ck2 {l1:List Value}(h1:Ah6 214 W0 l1 x)(c:Ah6 214 W0 l2 y)(d:IvS k x)(f:IvS k y)(hk:k<=500000000):
  Aa0 Tryz.prog 58 [.agg ⟨l1⟩,.agg ⟨l2⟩] W0 M λ v W'=>∃(l:List Value),v = .agg ⟨l⟩/\Ah6 214 W' l (Cb5 x y):=by
 obtain⟨s0,b0,t0,s1,b1,t1,rfl,h1,i⟩:=h1;obtain⟨s2,b2,t2,s3,b3,t3,rfl,c,n⟩:=c;apply Bm5;exact Bj7 h1 c d.1 f.1 hk hk λ s3 o u C g g1=>⟨s3,o,u,rfl,Bj7 (i.ext g) (n.ext g) d.2 f.2 hk hk λ w z A D B g2=>⟨w,z,A,rfl,λ E h=>⟨_,rfl,Ah6.mk (x:=Cb5 x y) (g1.ext (B.trans h)) (g2.ext h)⟩⟩⟩
theorem Bp3 {l1:List Value}(h1:Ah6 214 W l1 x)(d:Ah6 214 W l2 y)(f:IvS k x)(g:IvS k y)(hk:k<=500000000)(i: ∀(l:List Value) (W':PW),Ext W W'->(Ah6 214 W' l (Cb5 x y))->K (.agg ⟨l⟩) W'):
  Aa1 Tryz.prog W0 M 58 [.agg ⟨l1⟩,.agg ⟨l2⟩] W K:=
 Mi4 (λ _ c=>Ck2 (h1.ext c) (d.ext c) f g hk) fun | _,W',c,⟨l,rfl,h⟩=>i l W' c h
def Cc4 (q:List Rat) (i:Nat):Rat:=q.getD i 0
def lsI (W0:PW) (q:List Rat) (L:List PL) (W:PW):Prop:=match L with
 | [.val (.int .i64 i),.cells l]=>∃j:Nat,i=(j:Int)/\1<=j/\j<=q.length/\Ext W0 W/\Ah6 214 W l (Af9 (q.take j))
 | _=>False
theorem Ci1 {f:Rat->Rat->Rat}(c: ∀a b,f a b=a\/f a b=b): ∀(r:List Rat) (a:Rat),r.foldl f a=a\/r.foldl f a∈r
 | [],a=>.inl rfl
 | x::r,a=>by
  rw[List.foldl_cons];rcases Ci1 c r (f a x) with h | h
  ·rw[h]
   rcases c a x with e | e
   ·exact .inl e
   ·exact .inr (by rw[e];simp)
  ·exact .inr (List.mem_cons_of_mem _ h)
theorem Ed9 (h:q≠[]):(Af9 q).1∈q/\(Af9 q).2∈q:=by
 cases q with
 | nil=>exact absurd rfl h
 | cons a r=>
  constructor
  ·rcases Ci1 Dj0 r a with e | e
   ·show r.foldl Az9 a∈_;rw[e];simp
   ·exact List.mem_cons_of_mem _ e
  ·rcases Ci1 Dj7 r a with e | e
   ·show r.foldl Au7 a∈_;rw[e];simp
   ·exact List.mem_cons_of_mem _ e
theorem Du9 {x:Rat}(h:q≠[]):Af9 (q ++ [x])=(Az9 (Af9 q).1 x,Au7 (Af9 q).2 x):=by
 cases q with
 | nil=>exact absurd rfl h
 | cons a r=>simp[Af9,List.foldl_append]
theorem Dc8 (h:Bf7 214 40 W0 s q.length (Cc4 q))(F: ∀x∈q,Sz k x)(P:q≠[])(hk:k<=500000000)(hl:q.length<=1048576):
  Aa0 Tryz.prog 154 [s.v] W0 M λ v W'=>∃(l:List Value),v = .agg ⟨l⟩/\Ah6 214 W' l (Af9 q):=by
 apply Cd4;have hn:=h.n;have Q:0<q.length:=List.length_pos_iff.2 P;obtain⟨s1,b1,s2,g,g1⟩:=h.at (i:=0) Q;refine⟨h.inB (by omega) (by omega),b1,s1,s2,g,h.inB (by omega) (by omega),b1,s1,s2,g,lsI W0 q,λ L _=>match L with | [.val (.int .i64 i),_]=>q.length-i.toNat | _=>0,⟨1,rfl,Nat.le_refl _,Q,Ext.refl _,?_⟩,?_⟩
 ·have e:q.take 1 = [Cc4 q 0]:=by
   cases q with
   | nil=>exact absurd rfl P
   | cons a r=>rfl
  rw[e];exact Ah6.mk (x:=(Cc4 q 0,Cc4 q 0)) g1 g1
 ·rintro b9 aE aF aG aH aI i15 aJ ⟨j,rfl,aK,hj,f,V⟩
  obtain⟨_,_,_,_,_,_,e,z,n⟩:=V;simp only[List.cons.injEq,Value.bool.injEq,and_true] at e;obtain⟨g,G,H,X,I,J⟩:=e;have G:=Sl.Ck0 G;have H:=Sl.Ck0 H;have I:=Sl.Ck0 I;have J:=Sl.Ck0 J;subst g G H X I J;have R:q.take j≠[]:=λ e=>by
   have:=congrArg List.length e;rw[List.length_take,List.length_nil] at this;omega
  have hm:=Ed9 R;have Y:=F _ (List.mem_of_mem_take hm.1);have z2:=F _ (List.mem_of_mem_take hm.2);refine⟨λ aM=>?_,λ aN aO S=>⟨_,rfl,?_⟩⟩
  ·have C:j<q.length:=by omega
   have N:=F _ (List.getElem_mem C);have Z:Cc4 q j=q[j]:=by unfold Cc4;rw[List.getD_eq_getElem?_getD,List.getElem?_eq_getElem C];rfl
   have fin:Af9 (q.take (j+1))=(Az9 (Af9 (q.take j)).1 q[j],Au7 (Af9 (q.take j)).2 q[j]):=by rw[List.take_succ_eq_append_getElem C,Du9 R]
   have at_: ∀{W},Ext W0 W->SX.inB s (j:Int)/\∃(b:Bool) (u v:Sl),Aa7 W s 3 j 0 [.bool b,u.v,v.v]/\Ab6 214 W b u v q[j]:=fun {W} O=>by
    obtain⟨s1,b1,s2,g,g1⟩:=(h.ext O).at C;exact⟨h.inB (by omega) (by omega),b1,s1,s2,g,Z ▸ g1⟩
   have D:q.length-Int.toNat ((j:Int)+1)<q.length-Int.toNat (j:Int):=by omega
   have E: ∀{W} {b u v b' T v'},Ext W0 W->Ab6 214 W b u v (Az9 (Af9 (q.take j)).1 q[j])->Ab6 214 W b' T v' (Au7 (Af9 (q.take j)).2 q[j])->lsI W0 q [.val (.int .i64 ((j:Int)+1)),.cells [.bool b,Sl.v u,Sl.v v,.bool b',Sl.v T,Sl.v v']] W:=λ O p1 p2=>⟨j+1,by push_cast;rfl,by omega,by omega,O,by rw[fin];exact Ah6.mk p1 p2⟩;obtain⟨i1,ac,ad,ae,a17,af⟩:=at_ f;refine⟨i1,ac,ad,ae,a17,Ar1 af z N Y hk hk λ aP c _=>⟨_,rfl,λ A=>?_,λ A=>?_⟩⟩
   ·have A:=At6.1 A
    have B:Az9 (Af9 (q.take j)).1 q[j]=q[j]:=if_pos A;obtain⟨_,ag,ah,ai,a23,U⟩:=at_ (f.trans c);obtain⟨_,aj,ak,al,a26,am⟩:=at_ (f.trans c);refine⟨i1,ag,ah,ai,a23,i1,aj,ak,al,a26,Ar1 am (n.ext c) N z2 hk hk λ aQ o _=>⟨_,rfl,λ d=>?_,λ d=>⟨by unfold I64;omega,E ((f.trans c).trans o) (B.symm ▸ U.ext o) ?_,D⟩⟩⟩
    ·have d:=Al3.1 d
     obtain⟨_,an,ao,ap,a32,aq⟩:=at_ ((f.trans c).trans o);refine⟨i1,an,ao,ap,a32,by unfold I64;omega,E ((f.trans c).trans o) (B.symm ▸ U.ext o) ?_,D⟩;rw[show Au7 (Af9 (q.take j)).2 q[j]=q[j] from if_pos d];exact aq
    ·rw[show Au7 (Af9 (q.take j)).2 q[j]=(Af9 (q.take j)).2 from if_neg λ e=>d (Al3.2 e)]
     exact n.ext (c.trans o)
   ·have B:Az9 (Af9 (q.take j)).1 q[j]=(Af9 (q.take j)).1:=if_neg λ e=>A (At6.2 e)
    obtain⟨_,ar,au,av,a35,aw⟩:=at_ (f.trans c);refine⟨i1,ar,au,av,a35,Ar1 aw (n.ext c) N z2 hk hk λ aR w _=>⟨_,rfl,λ d=>?_,λ d=>⟨by unfold I64;omega,E ((f.trans c).trans w) (B.symm ▸ z.ext (c.trans w)) ?_,D⟩⟩⟩
    ·have d:=Al3.1 d
     obtain⟨_,ax,ay,az,a41,aA⟩:=at_ ((f.trans c).trans w);refine⟨i1,ax,ay,az,a41,by unfold I64;omega,E ((f.trans c).trans w) (B.symm ▸ z.ext (c.trans w)) ?_,D⟩;rw[show Au7 (Af9 (q.take j)).2 q[j]=q[j] from if_pos d];exact aA
    ·rw[show Au7 (Af9 (q.take j)).2 q[j]=(Af9 (q.take j)).2 from if_neg λ e=>d (Al3.2 e)]
     exact n.ext (c.trans w)
  ·have:j=q.length:=by omega
   subst this;rw[List.take_length] at z n;exact Ah6.mk (z.ext S) (n.ext S)
theorem At0 (h:Bf7 214 40 W s q.length (Cc4 q))(d: ∀x∈q,Sz k x)(f:q≠[])(hk:k<=500000000)(g:q.length<=1048576)(i: ∀(l:List Value) (W':PW),Ext W W'->(Ah6 214 W' l (Af9 q))->K (.agg ⟨l⟩) W'):
  Aa1 Tryz.prog W0 M 154 [s.v] W K:=
 Mi4 (λ _ c=>Dc8 (h.ext c) d f hk g) fun | _,W',c,⟨l,rfl,h⟩=>i l W' c h
theorem Ey0 {d:Rat}{f:Bool}{s4:Sl}{t4:Sl}{b c:Rat}(h1:Ab6 214 W b1 s1 t1 a)(g:Ab6 214 W b2 s2 t2 b)(h:Ab6 214 W b3 s3 t3 c)(n:Ab6 214 W f s4 t4 d)(o:Row W ty 3 s [[.bool b1,s1.v,t1.v],[.bool b2,s2.v,t2.v],[.bool b3,s3.v,t3.v],[.bool f,s4.v,t4.v]]):Bf7 214 ty W s [a,b,c,d].length (Cc4 [a,b,c,d]):=
 ⟨_,o,rfl,λ i hi=>by
  have hi:i<4:=hi;rcases(by omega:i=0\/i=1\/i=2\/i=3) with rfl | rfl | rfl | rfl
  ·exact⟨s1,b1,t1,rfl,h1⟩
  ·exact⟨s2,b2,t2,rfl,g⟩
  ·exact⟨s3,b3,t3,rfl,h⟩
  ·exact⟨s4,f,t4,rfl,n⟩⟩
theorem Fh3 {b:Rat}(h1:Ab6 214 W b1 s1 t1 a)(c:Ab6 214 W b2 s2 t2 b)(d:Row W ty 3 s [[.bool b1,s1.v,t1.v],[.bool b2,s2.v,t2.v]]):Bf7 214 ty W s [a,b].length (Cc4 [a,b]):=
 ⟨_,d,rfl,λ i hi=>by
  have hi:i<2:=hi;rcases(by omega:i=0\/i=1) with rfl | rfl
  ·exact⟨s1,b1,t1,rfl,h1⟩
  ·exact⟨s2,b2,t2,rfl,c⟩⟩
theorem Ej0 {b c:Rat}(h1:Ab6 214 W b1 s1 t1 a)(d:Ab6 214 W b2 s2 t2 b)(f:Ab6 214 W b3 s3 t3 c)(g:Row W ty 3 s [[.bool b1,s1.v,t1.v],[.bool b2,s2.v,t2.v],[.bool b3,s3.v,t3.v]]):Bf7 214 ty W s [a,b,c].length (Cc4 [a,b,c]):=
 ⟨_,g,rfl,λ i hi=>by
  have hi:i<3:=hi;rcases(by omega:i=0\/i=1\/i=2) with rfl | rfl | rfl
  ·exact⟨s1,b1,t1,rfl,h1⟩
  ·exact⟨s2,b2,t2,rfl,d⟩
  ·exact⟨s3,b3,t3,rfl,f⟩⟩
theorem Ch7 {l1:List Value}(h1:Ah6 214 W0 l1 x)(f:Ah6 214 W0 l2 y)(c:IvS k x)(d:IvS k y)(hk:k<=250000000):
  Aa0 Tryz.prog 109 [.agg ⟨l1⟩,.agg ⟨l2⟩] W0 M λ v W'=>∃(l:List Value),v = .agg ⟨l⟩/\Ah6 214 W' l (Ay9 x y):=by
 obtain⟨s0,b0,t0,s1,b1,t1,rfl,h1,w⟩:=h1;obtain⟨s2,b2,t2,s3,b3,t3,rfl,f,A⟩:=f;apply Bn0;refine Am6 h1 f c.1 d.1 (by omega) (by omega) λ b3 s4 D S o g1=>⟨b3,s4,D,rfl,Am6 (h1.ext o) (A.ext o) c.1 d.2 (by omega) (by omega) λ E F G T B g2=>⟨E,F,G,rfl,?_⟩⟩;have g:=o.trans B;refine Am6 (w.ext g) (f.ext g) c.2 d.1 (by omega) (by omega) λ H I J U h g3=>⟨H,I,J,rfl,Am6 (w.ext (g.trans h)) (A.ext (g.trans h)) c.2 d.2 (by omega) (by omega) λ L N O V u g4=>⟨L,N,O,rfl,λ X Y i P _=>?_⟩⟩;have Q:=Ey0 (g1.ext (B.trans (h.trans (u.trans i)))) (g2.ext (h.trans (u.trans i))) (g3.ext (u.trans i)) (g4.ext i) P.row;refine At0 (k:=k+k) Q ?_ (by simp) (by omega) (by simp) λ l Z aa n=>n.out λ b s t b' s' t' n ac R=>⟨_,rfl,?_⟩
 ·intro z C
  simp only[List.mem_cons,List.not_mem_nil,or_false] at C;rcases C with rfl | rfl | rfl | rfl
  ·exact c.1.mul d.1
  ·exact c.1.mul d.2
  ·exact c.2.mul d.1
  ·exact c.2.mul d.2
 ·rw[Eq4] at n
  exact n.ext R
theorem Bt1 {l1:List Value}(h1:Ah6 214 W l1 x)(d:Ah6 214 W l2 y)(f:IvS k x)(g:IvS k y)(hk:k<=250000000)(i: ∀(l:List Value) (W':PW),Ext W W'->(Ah6 214 W' l (Ay9 x y))->K (.agg ⟨l⟩) W'):
  Aa1 Tryz.prog W0 M 109 [.agg ⟨l1⟩,.agg ⟨l2⟩] W K:=
 Mi4 (λ _ c=>Ch7 (h1.ext c) (d.ext c) f g hk) fun | _,W',c,⟨l,rfl,h⟩=>i l W' c h
def rpI (W0:PW) (q:Rat) (n:Nat) (L:List PL) (W:PW):Prop:=match L with
 | [.val (.int .i64 i),.cells [.bool x,.slice A m c,.slice d f g]]=>∃j:Nat,i=(j:Int)/\j<=n/\Ext W0 W/\Ab6 214 W x ⟨A,m,c⟩ ⟨d,f,g⟩ (q^j)
 | _=>False
theorem Db6 {q:Rat}{n:Nat}(h:Ab6 214 W0 b s t q)(d:Sz k q)(hk:k<=1048576)(N:n<=255):
  Aa0 Tryz.prog 157 [.agg ⟨[.bool b,s.v,t.v]⟩,.int .i64 (n:Int)] W0 M λ v W'=>∃(b':Bool),∃(s':Sl),∃(f:Sl),v = .agg ⟨[.bool b',Sl.v s',Sl.v f]⟩/\Ab6 214 W' b' s' f (q^n):=by
 apply Bu3;have B:mn (mx (n:Int) 0) 255=(n:Int):=by unfold mn mx;(repeat' split)<;>omega
 rw[B];refine Ak1 (z:=1) (by unfold I64;omega) λ b3 s4 C O D g=>⟨b3,s4,C,rfl,?_⟩;refine⟨rpI W0 q n,λ l _=>match l with | [.val (.int .i64 i),_]=>n-i.toNat | _=>0,⟨0,rfl,by omega,D,by simpa using g⟩,?_⟩;rintro o u w i11 E ⟨j,rfl,P,A,c⟩;have c:Ab6 214 E o u w (q^j):=c;refine⟨λ Q=>?_,λ R S F=>⟨o,u,w,rfl,?_⟩⟩
 ·have g:=Nat.mul_le_mul hk (by omega:j<=255)
  refine Am6 c (h.ext A) (Sz.Fe7 d j) d (by omega) (by omega) λ G H I T J L=>⟨G,H,I,rfl,by unfold I64;omega,⟨j+1,by push_cast;rfl,by omega,A.trans J,by rw[Rat.pow_succ];exact L⟩,?_⟩;show n-Int.toNat ((j:Int)+1)<n-Int.toNat (j:Int);omega
 ·have:j=n:=by omega
  subst this;exact c.ext F
theorem Az8 {q:Rat}{n:Nat}(h:Ab6 214 W b s t q)(f:Sz k q)(hk:k<=1048576)(g:n<=255)(i: ∀(b':Bool) (s':Sl) (c:Sl) (W':PW),Ext W W'->(Ab6 214 W' b' s' c (q^n))->K (.agg ⟨[.bool b',Sl.v s',Sl.v c]⟩) W'):
  Aa1 Tryz.prog W0 M 157 [.agg ⟨[.bool b,s.v,t.v]⟩,.int .i64 (n:Int)] W K:=
 Mi4 (λ _ d=>Db6 (h.ext d) f hk g) fun | _,W',d,⟨b',s',c,rfl,h⟩=>i b' s' c W' d h
theorem Cl0 {l1:List Value}{n:Nat}(h1:Ah6 214 W0 l1 x)(d:IvS k x)(Y:x.1<=x.2)(hk:k<=1048576)(w:n<=255):
  Aa0 Tryz.prog 112 [.agg ⟨l1⟩,.int .i64 (n:Int)] W0 M λ v W'=>∃(l:List Value),v = .agg ⟨l⟩/\Ah6 214 W' l (Ai3 x n):=by
 obtain⟨s0,b0,t0,s1,b1,t1,rfl,h1,E⟩:=h1;apply Bn8;have hm:=Nat.mul_le_mul hk w;have Z:mn (mx (n:Int) 0) 255=(n:Int):=by unfold mn mx;(repeat' split)<;>omega
 rw[Z];have o:=Em7 (n:=n) Y;refine Az8 h1 d.1 hk w λ b3 s4 F W2 G g1=>⟨b3,s4,F,rfl,Az8 (E.ext G) d.2 hk w λ H I J W7 A g2=>⟨H,I,J,rfl,?_⟩⟩;have two: ∀(L:¬(0<n/\n%2=0/\x.1<0/\0<x.2)) {W:PW} (f:Ext W7 W) (s:Sl) (W':PW) (B:Ext W W') (hO:SX.Own W' 40 3 s [[.bool b3,s4.v,F.v],[.bool H,I.v,J.v]]),
   Aa1 Tryz.prog W0 M 154 [s.v] W' λ ab ac=>∃(N:Bool) (O P:Sl) (Q:Bool) (R S:Sl),ab = .agg ⟨[.bool N,O.v,P.v,.bool Q,R.v,S.v]⟩/\∀(T:PW),Ext ac T->∃l,Value.agg ⟨[.bool N,O.v,P.v,.bool Q,R.v,S.v]⟩ = .agg ⟨l⟩/\Ah6 214 T l (Ai3 x n):=λ L {W} f s W' B hO=>by
  rw[if_neg L] at o;have C:=Fh3 (g1.ext ((A.trans f).trans B)) (g2.ext (f.trans B)) hO.row;refine At0 (k:=k*n+1) C ?_ (by simp) (by omega) (by simp) λ l ad ae c=>c.out λ b s t b' s' t' c ag D=>⟨_,rfl,?_⟩
  ·intro z i
   simp only[List.mem_cons,List.not_mem_nil,or_false] at i;rcases i with rfl | rfl
   ·exact Sz.Fe7 d.1 n
   ·exact Sz.Fe7 d.2 n
  ·rw[o] at c
   exact c.ext D
 refine⟨λ aJ=>⟨by omega,λ aK=>?_,λ ah ai aj ak al _=>two (λ e=>ah ?_) (Ext.refl _) ai aj ak al⟩,λ h0 an ao ap aq _=>two (λ e=>h0 ?_) (Ext.refl _) an ao ap aq⟩
 ·have ar:n%2=0:=by have:=Int.tmod_eq_emod_of_nonneg (a:=(n:Int)) (b:=2) (by omega);omega
  have f:=G.trans A;refine Aq7 (h1.ext f).1 λ aL u _=>⟨_,rfl,λ g=>?_,λ g au av aw ax _=>two (λ e=>g ?_) u au av aw ax⟩
  ·refine Aq7 (E.ext (f.trans u)).1 λ aM U _=>⟨_,rfl,λ h=>?_,λ h ay az aA aB _=>two (λ e=>h ?_) (u.trans U) ay az aA aB⟩
   ·rw[Bo6] at g h
    have g:=At6.1 g;have h:=Al3.1 h;rw[if_pos ⟨by omega,ar,g,h⟩] at o;refine Ak1 (z:=0) (by unfold I64;omega) λ aC aD aE aN aF aG=>⟨aC,aD,aE,rfl,by simp,λ aO aP V aH _=>?_⟩;have X:=((u.trans U).trans aF).trans V;have C:=Ej0 (g1.ext (A.trans X)) (g2.ext X) (aG.ext V) aH.row;refine At0 (k:=k*n+1) C ?_ (by simp) (by omega) (by simp) λ l ad ae c=>c.out λ b s t b' s' t' c ag D=>⟨_,rfl,?_⟩
    ·intro z i
     simp only[List.mem_cons,List.not_mem_nil,or_false] at i;rcases i with rfl | rfl | rfl
     ·exact Sz.Fe7 d.1 n
     ·exact Sz.Fe7 d.2 n
     ·exact Sz.zero (by omega)
    ·rw[show((0:Int):Rat)=0 from rfl,o] at c
     exact c.ext D
   ·rw[Bo6]
    exact Al3.2 e.2.2.2
  ·rw[Bo6]
   exact At6.2 e.2.2.1
 ·have:=Int.tmod_eq_emod_of_nonneg (a:=(n:Int)) (b:=2) (by omega)
  have:=e.2.1;omega
 ·have:=e.1
  omega
theorem Bw0 {l1:List Value}{n:Nat}(h1:Ah6 214 W l1 x)(d:IvS k x)(f:x.1<=x.2)(hk:k<=1048576)(g:n<=255)(i: ∀(l:List Value) (W':PW),Ext W W'->(Ah6 214 W' l (Ai3 x n))->K (.agg ⟨l⟩) W'):
  Aa1 Tryz.prog W0 M 112 [.agg ⟨l1⟩,.int .i64 (n:Int)] W K:=
 Mi4 (λ _ c=>Cl0 (h1.ext c) d f hk g) fun | _,W',c,⟨l,rfl,h⟩=>i l W' c h
end Go.Proofs.YtkgeopnakkcdoaaGreat
namespace Go.Proofs.YtkgeopnakkcdoaaGreat
open Go Go.SX
variable {K:Value->PW->Prop}{M:Nat->Prop}{W W0:PW}{b:Nat->Iv}{e k m:Nat}{l:List Value}{p:List Tm}{s:Sl}
theorem Dq6 {m:Mon}(h:m.ok)(k:Nat):An6 m k=((mex m k:Nat):Int):=by
 unfold Mon.ok at h;unfold An6 mex
 (repeat' split)<;>omega
def ovO (W0:PW) (p:List Tm) (b:Nat->Iv) (L:List PL) (W:PW):Prop:=match L with
 | [.val (.int .i64 i),.cells l]=>∃j:Nat,i=(j:Int)/\j<=p.length/\Ext W0 W/\SpV 214 W l (Aq8 b (p.take j))
 | _=>False
def ovI (W0:PW) (t:Tm) (b:Nat->Iv) (L:List PL) (W:PW):Prop:=match L with
 | [.val (.int .i64 i),.cells l]=>∃j:Nat,i=(j:Int)/\j<=3/\Ext W0 W/\SpV 214 W l (Ci9 b t j)
 | _=>False
theorem Fl7 (f:Bd k p)(hm: ∀i,BdI m (b i))(he: ∀t∈p,∀i,mex t.1 i<=e)(d:e<=255)(g:m<=1000)(hk:k<=200000000):
  (∀j,IvS 210000000 (Aq8 b (p.take j)))/\(∀t∈p,∀j,j<=3->IvS 210000000 (Ci9 b t j))/\(∀t∈p,∀j,IvS 210000000 (Ai3 (b j) (mex t.1 j)))/\∀j,IvS 1048576 (b j):=by
 have n:=Nat.mul_le_mul (show m+1<=1001 by omega) d;have o:=Nat.mul_le_mul g d;refine⟨λ j=>((Cv6 (f.take j) hm λ t c=>he t (List.mem_of_mem_take c)).mono (by omega)).sz,λ t c j h=>((Ef7 (f.sz t c) hm (he t c) j).mono ?_).sz,λ t c j=>(((hm j).pow (mex t.1 j)).mono ?_).sz,λ j=>((hm j).mono (by omega)).sz⟩
 ·have:=Nat.mul_le_mul h (show m*e+1<=1000*255+1 by omega)
  omega
 ·have:=Nat.mul_le_mul g (Nat.le_trans (he t c j) d)
  omega
theorem Cz2 (h:Ab0 214 180 W0 s p)(D:DmV 214 W0 l b)(L:Bd k p)(hm: ∀i,BdI m (b i))(he: ∀t∈p,∀i,mex t.1 i<=e)(N:e<=255)(O:m<=1000)(hk:k<=200000000)(hl:p.length<=1073741824):
  Aa0 Tryz.prog 100 [.agg ⟨[s.v]⟩,.agg ⟨l⟩] W0 M λ v W'=>∃(r:List Value),v = .agg ⟨r⟩/\SpV 214 W' r (Aq8 b p):=by
 obtain⟨P,z2,z3,z4⟩:=Fl7 L hm he N O hk;have Q:=D;obtain⟨s0,b0,t0,s1,b1,t1,s2,b2,t2,s3,b3,t3,s4,b4,t4,s5,b5,t5,rfl,_⟩:=D;apply Bz6;obtain⟨xs,R,E⟩:=h;have ao:=E.len;refine Ba1 R (by omega) λ s3 f F ⟨_,hO⟩=>⟨s3,rfl,?_⟩;have G:Ab0 214 180 f s3 p:=⟨xs,hO.row,E.mono λ _ _ e=>e.ext F⟩;have hn:=G.n;refine⟨ovO f p b,cn1 p.length,⟨0,rfl,Nat.zero_le _,Ext.refl _,SpV.zero f⟩,?_⟩;rintro s6 b7 s8 s9 aw ax i12 ay ⟨j,rfl,hj,g,n⟩;refine⟨λ aA=>?_,λ aB aC S=>⟨_,rfl,?_⟩⟩
 ·have o:j<p.length:=by omega
  have H:=G.ext g;have d:=List.getElem_mem o;obtain⟨T,c1,d1,c2,U,_,_,V⟩:=H.at (List.getElem?_eq_getElem o);refine⟨H.inB (by omega) (by omega),_,_,_,c1,d1,c2,U,De4 V λ r X u w=>w.out λ aD aE aF aG aH aI w=>?_⟩;refine⟨ovI X p[j] b,cn1 3,⟨0,rfl,Nat.zero_le _,Ext.refl _,w⟩,?_⟩;rintro aJ aK aL aM aN aO i36 aP ⟨v,rfl,Y,c,z⟩;refine⟨λ aQ=>?_,λ aR=>?_⟩
  ·have I:v<3:=by omega
   have Z:=(Q.ext (F.trans (g.trans (u.trans c))));obtain⟨x1,y1,x2,x3,y2,x4,ag,ah⟩:=Z.box I;have aS:=he _ d v;refine⟨⟨by omega,by omega⟩,_,Cn5 p[j].1 I,?_⟩;rw[Dq6 T v];refine⟨λ aT=>⟨⟨by omega,by omega⟩,x1,y1,x2,x3,y2,x4,ag,by unfold I64;omega,?_⟩,λ aU=>⟨by unfold I64;omega,⟨v+1,by push_cast;rfl,by omega,c,?_⟩,?_⟩⟩
   ·refine Co8 ah (z4 v) (by omega) (by omega) λ r aV J A=>A.out λ aW aX aY aZ a0 a1 A=>?_
    refine Cx4 (z.ext J) A (z2 _ d v Y) (z3 _ d v) (by omega) λ r a2 ai B=>B.out λ a3 a4 a5 a6 a7 a8 B=>⟨by unfold I64;omega,⟨v+1,by push_cast;rfl,by omega,c.trans (J.trans ai),?_⟩,?_⟩
    ·rw[Ci9,if_pos (by omega)]
     exact B
    ·show 3-Int.toNat ((v:Int)+1)<3-Int.toNat (v:Int)
     omega
   ·rw[Ci9,if_neg (by omega)]
    exact z
   ·show 3-Int.toNat ((v:Int)+1)<3-Int.toNat (v:Int)
    omega
  ·have:v=3:=by omega
   subst this;refine Cy0 (n.ext (u.trans c)) z (P j) (z2 _ d 3 (Nat.le_refl _)) (by omega) λ r a9 aj C=>C.out λ ba bb bc bd be bf C=>⟨by unfold I64;omega,⟨j+1,by push_cast;rfl,by omega,g.trans (u.trans (c.trans aj)),?_⟩,?_⟩
   ·rw[List.take_succ_eq_append_getElem o,Bt2]
    exact C
   ·show p.length-Int.toNat ((j:Int)+1)<p.length-Int.toNat (j:Int)
    omega
 ·have:j=p.length:=by omega
  subst this;rw[List.take_length] at n;exact n.ext S
theorem Az5 (h:Ab0 214 180 W s p)(d:DmV 214 W l b)(f:Bd k p)(hm: ∀i,BdI m (b i))(he: ∀t∈p,∀i,mex t.1 i<=e)(g:e<=255)(n:m<=1000)(hk:k<=200000000)(o:p.length<=1073741824)(u: ∀(r:List Value) (W':PW),Ext W W'->(SpV 214 W' r (Aq8 b p))->K (.agg ⟨r⟩) W'):
  Aa1 Tryz.prog W0 M 100 [.agg ⟨[s.v]⟩,.agg ⟨l⟩] W K:=
 Mi4 (λ _ c=>Cz2 (h.ext c) (d.ext c) f hm he g n hk o) fun | _,W',c,⟨r,rfl,h⟩=>u r W' c h
def orO (W0:PW) (p:List Tm) (b:Nat->Iv) (L:List PL) (W:PW):Prop:=match L with
 | [.val (.int .i64 i),.cells l]=>∃j:Nat,i=(j:Int)/\j<=p.length/\Ext W0 W/\Ah6 214 W l (Aq8 b (p.take j))
 | _=>False
def orI (W0:PW) (t:Tm) (b:Nat->Iv) (L:List PL) (W:PW):Prop:=match L with
 | [.val (.int .i64 i),.cells l]=>∃j:Nat,i=(j:Int)/\j<=3/\Ext W0 W/\Ah6 214 W l (Ci9 b t j)
 | _=>False
theorem Eb8 (h:Ag1 214 119 W0 s p)(J:Cf1 214 W0 l b)(T:Bd k p)(hm: ∀i,BdI m (b i))(U: ∀i,(b i).1<=(b i).2)(he: ∀t∈p,∀i,mex t.1 i<=e)(V:e<=255)(X:m<=1000)(hk:k<=200000000)(hl:p.length<=1073741824):
  Aa0 Tryz.prog 59 [s.v,.agg ⟨l⟩] W0 M λ v W'=>∃(r:List Value),v = .agg ⟨r⟩/\Ah6 214 W' r (Aq8 b p):=by
 obtain⟨Y,z2,z3,z4⟩:=Fl7 T hm he V X hk;have Z:=J;obtain⟨b0,s0,t0,b1,s1,t1,b2,s2,t2,b3,s3,t3,b4,s4,t4,b5,L,t5,rfl,_⟩:=J;apply Cj4;have hn:=h.n;refine Ak1 (z:=0) (by unfold I64;omega) λ b3 s4 L W2 N h2=>⟨b3,s4,L,rfl,Bd0 h2 λ r W7 O w=>w.out λ b8 s9 aE aF aG aH w=>?_⟩;refine⟨orO W7 p b,cn1 p.length,⟨0,rfl,Nat.zero_le _,Ext.refl _,w⟩,?_⟩;rintro aI aJ aK aL aM aN i22 aO ⟨j,rfl,hj,A,B⟩;have C:=h.ext (N.trans (O.trans A));refine⟨λ aQ=>?_,λ aR aS ac=>⟨_,rfl,?_⟩⟩
 ·have g:j<p.length:=by omega
  have n:=List.getElem_mem g;obtain⟨h0,c1,d1,c2,_,_,e3,hq⟩:=C.at (List.getElem?_eq_getElem g);refine⟨C.inB (by omega) (by omega),_,_,_,e3,Bd0 hq λ r ag o D=>D.out λ aT aU aV aW aX aY D=>?_⟩;refine⟨orI ag p[j] b,cn1 3,⟨0,rfl,Nat.zero_le _,Ext.refl _,D⟩,?_⟩;rintro aZ a0 a2 a3 a4 a5 i43 ah ⟨v,rfl,hv,c,P⟩;refine⟨λ a6=>?_,λ a7=>?_⟩
  ·have aj:v<3:=by omega
   have Q:=C.ext (o.trans c);have ak:=(Z.ext (N.trans (O.trans (A.trans (o.trans c)))));obtain⟨x1,y1,x2,x3,y2,x4,ar,au⟩:=ak.box aj;have a8:=he _ n v;have R:Aa7 ah s 6 j (0+Int.toNat (v:Int)*1) [.int .u8 (An6 p[j].1 v)]:=by
    obtain⟨ys,E,a1⟩:=Q;obtain⟨x,F,_,d,e,f,rfl,_⟩:=a1.get (List.getElem?_eq_getElem g);rcases(by omega:v=0\/v=1\/v=2) with rfl | rfl | rfl
    ·exact E.part F 0 rfl
    ·exact E.part F 1 rfl
    ·exact E.part F 2 rfl
   rw[Dq6 h0 v] at R;refine⟨⟨by omega,by omega⟩,x1,y1,x2,x3,y2,x4,ar,Q.inB (by omega) (by omega),⟨by omega,by omega⟩,_,R,by unfold I64;omega,?_⟩;refine Bw0 au (z4 v) (U v) (by omega) (by omega) λ r a9 G H=>H.out λ ba bb bc bd be bf H=>⟨G,?_⟩;refine Bt1 (P.ext G) H (z2 _ n v hv) (z3 _ n v) (by omega) λ r bg S u=>u.out λ bh bi bj bk bl bm u=>⟨S,by unfold I64;omega,⟨v+1,by push_cast;rfl,by omega,c.trans (G.trans S),?_⟩,?_⟩
   ·rw[Ev5] at u
    exact u
   ·show 3-Int.toNat ((v:Int)+1)<3-Int.toNat (v:Int)
    omega
  ·have:v=3:=by omega
   subst this;refine Bp3 (B.ext (o.trans c)) P (Y j) (z2 _ n 3 (Nat.le_refl _)) (by omega) λ r bn aw I=>I.out λ bo bp bq br bs bt I=>⟨by unfold I64;omega,⟨j+1,by push_cast;rfl,by omega,A.trans (o.trans (c.trans aw)),?_⟩,?_⟩
   ·rw[List.take_succ_eq_append_getElem g,Bt2]
    exact I
   ·show p.length-Int.toNat ((j:Int)+1)<p.length-Int.toNat (j:Int)
    omega
 ·have:j=p.length:=by omega
  subst this;rw[List.take_length] at B;exact B.ext ac
theorem Cs3 (h:Ag1 214 119 W s p)(d:Cf1 214 W l b)(f:Bd k p)(hm: ∀i,BdI m (b i))(g: ∀i,(b i).1<=(b i).2)(he: ∀t∈p,∀i,mex t.1 i<=e)(n:e<=255)(o:m<=1000)(hk:k<=200000000)(u:p.length<=1073741824)(v: ∀(r:List Value) (W':PW),Ext W W'->(Ah6 214 W' r (Aq8 b p))->K (.agg ⟨r⟩) W'):
  Aa1 Tryz.prog W0 M 59 [s.v,.agg ⟨l⟩] W K:=
 Mi4 (λ _ c=>Eb8 (h.ext c) (d.ext c) f hm g he n o hk u) fun | _,W',c,⟨r,rfl,h⟩=>v r W' c h
end Go.Proofs.YtkgeopnakkcdoaaGreat
namespace Go.Proofs.YtkgeopnakkcdoaaGreat
open Go Go.SX
variable {K:Value->PW->Prop}{M:Nat->Prop}{W W0:PW}{b:Nat->Iv}{e ex ey:Int}{j k kx ky m r rx ry:Nat}{l lx ly:List Value}{p:List Tm}{s:Sl}{x y:Mdl}
def trI (W0:PW) (b:Nat->Iv) (L:List PL) (W:PW):Prop:=match L with
 | [.val (.int .i64 i)]=>∃j:Nat,i=(j:Int)/\j<=3/\Ext W0 W/\∀t,t<j->(b t).1<=(b t).2
 | _=>False
theorem Lm5 {n:Int}:Fc6 b n↔(∀t,t<3->(b t).1<=(b t).2)/\0<=n/\n<=8:=by
 unfold Fc6;constructor
 ·rintro⟨d,h1,f,c⟩
  refine⟨λ t g=>?_,c⟩;rcases(by omega:t=0\/t=1\/t=2) with rfl | rfl | rfl<;>assumption
 ·rintro⟨h,c⟩
  exact⟨h 0 (by omega),h 1 (by omega),h 2 (by omega),c⟩
theorem Ly0 {n:Int}(h:Lm6 214 W0 l b n)(hk: ∀i,IvS k (b i))(H:k<=1048576):
  Aa0 Tryz.prog 38 [.agg ⟨l⟩] W0 M λ v W'=>v = .bool (decide (Fc6 b n))/\True:=by
 obtain⟨I,rfl,d⟩:=h;have u:=d;obtain⟨s0,b0,t0,s1,b1,t1,s2,b2,t2,s3,b3,t3,s4,J,t4,L,N,t5,rfl,_⟩:=d;apply Lu1;refine⟨trI W0 b,cn1 3,⟨0,rfl,Nat.zero_le _,Ext.refl _,λ t w=>by omega⟩,?_⟩;rintro i3 O ⟨j,rfl,P,f,g⟩;refine⟨λ Q=>?_,λ R=>?_⟩
 ·have o:j<3:=by omega
  obtain⟨z,A,B,C,D,E,e,q1,F⟩:=(u.ext f).take o;refine⟨⟨by omega,by omega⟩,z,A,B,C,D,E,e,Aj2 q1 F (hk j).1 (hk j).2 (by omega) (by omega) λ S G _=>⟨_,rfl,λ h T _=>⟨?_,trivial⟩,λ h=>⟨by unfold I64;omega,⟨j+1,by push_cast;rfl,by omega,f.trans G,λ t w=>?_⟩,?_⟩⟩⟩
  ·rw[decide_eq_false λ e=>Rat.not_le.2 (Al3.1 h) ((Lm5.1 e).1 j o)]
  ·by_cases e:t=j
   ·subst e;exact Rat.not_lt.1 λ e=>h (Al3.2 e)
   ·exact g t (by omega)
  ·show 3-Int.toNat ((j:Int)+1)<3-Int.toNat (j:Int)
   omega
 ·have:j=3:=by omega
  subst this;refine⟨λ c U _=>⟨?_,trivial⟩,λ c V _=>⟨?_,trivial⟩⟩
  ·congr 1
   rw[decide_eq_decide,Lm5];exact⟨λ h=>⟨g,c,h⟩,λ h=>h.2.2⟩
  ·rw[decide_eq_false λ e=>c (Lm5.1 e).2.1]
theorem Ll8 {n:Int}(h:Lm6 214 W l b n)(hk: ∀i,IvS k (b i))(d:k<=1048576)(f: ∀(W':PW),Ext W W'->(True)->K (.bool (decide (Fc6 b n))) W'):
  Aa1 Tryz.prog W0 M 38 [.agg ⟨l⟩] W K:=
 Mi4 (λ _ c=>Ly0 (h.ext c) hk d) fun | _,W',c,⟨rfl,h⟩=>f W' c h
def tcI (W0:PW) (p:List Tm) (n:Int) (L:List PL) (W:PW):Prop:=match L with
 | [.row l,.row c,.val (.int .i64 i)]=>∃j:Nat,i=(j:Int)/\j<=p.length/\Ext W0 W/\An5 (PT 214 W) l (Lr1 n (p.take j))/\An5 (PT 214 W) c (Mb5 n (p.take j))
 | _=>False
theorem Lr3 {n:Int}(c:j<p.length):Mb5 n (p.take (j+1))=if p[j].1.deg<=n then Mb5 n (p.take j) ++ [p[j]] else Mb5 n (p.take j):=by
 unfold Mb5;rw[Ls2 c];simp only[decide_eq_true_eq]
theorem Lo9 {n:Int}(c:j<p.length):Lr1 n (p.take (j+1))=if n<p[j].1.deg then Lr1 n (p.take j) ++ [p[j]] else Lr1 n (p.take j):=by
 unfold Lr1;rw[Ls2 c];simp only[decide_eq_true_eq]
theorem Mc2 {n:Int}(X:Lm6 214 W0 l b n)(h:Ab0 214 180 W0 s p)(B:Av6 p)(o:Bd k p)(hm: ∀i,BdI m (b i))(Y:m<=7)(he:Gk4 e p)(ar:e<=255)(hk:k<=100000000)(hl:p.length<=1073741824):
  Aa0 Tryz.prog 45 [.agg ⟨l⟩,.agg ⟨[s.v]⟩] W0 M λ v W'=>∃(r:List Value),v = .tuple ⟨[.agg ⟨r⟩,.bool (decide (Fc6 b n))]⟩/\MdV 214 180 W' r (if Fc6 b n then Lx4 b n p else Lp4):=by
 obtain⟨l',rfl,C⟩:=X;have D:=C;obtain⟨s0,b0,t0,s1,b1,t1,s2,b2,t2,s3,b3,t3,s4,b4,t4,s5,b5,t5,rfl,_⟩:=C;apply Lz4;refine Ll8 (k:=7) (Lm6.mk D) (λ i=>((hm i).mono Y).sz) (by omega) λ W2 E _=>⟨_,rfl,λ Z W4 aA=>?_,λ ab=>?_⟩
 ·have h:¬Fc6 b n:=by simpa using Z
  rw[decide_eq_false h,if_neg h];exact⟨_,rfl,MdV.zero W4⟩
 have F:Fc6 b n:=by simpa using ab
 rw[decide_eq_true F,if_pos F];obtain⟨xs,hr,G⟩:=h.ext E;have aB:=G.len;refine Ba1 hr (by omega) λ H I J ⟨_,hO⟩=>⟨H,rfl,?_⟩;have N:Ab0 214 180 I H p:=⟨xs,hO.row,G.mono λ _ _ e=>e.ext J⟩;have hn:=N.n;refine⟨tcI I p n,λ L _=>match L with | [_,_,.val (.int .i64 i)]=>p.length-i.toNat | _=>0,⟨0,rfl,Nat.zero_le _,Ext.refl _,trivial,trivial⟩,?_⟩;rintro aD l11 i12 aE ⟨j,rfl,hj,g,hH,d⟩;have lH:=hH.len;have lL:=d.len;have l1:=Lo8 n (p.take j);have l2:=Lo4 n (p.take j);rw[List.length_take] at l1 l2;refine⟨λ aI=>?_,λ aJ ad ae u af _=>?_⟩
 ·have f:j<p.length:=by omega
  have O:=N.ext g;obtain⟨w,c1,d1,c2,e1,_,_,P⟩:=O.at (List.getElem?_eq_getElem f);have Q:p.length-Int.toNat ((j:Int)+1)<p.length-Int.toNat (j:Int):=by omega
  refine⟨O.inB (by omega) (by omega),_,_,_,c1,d1,c2,e1,Ax1 w λ aK c _=>⟨_,rfl,λ ah=>⟨by simp;omega,by unfold I64;omega,⟨j+1,by push_cast;rfl,by omega,g.trans c,?_,?_⟩,Q⟩,λ ai=>⟨by simp;omega,by unfold I64;omega,⟨j+1,by push_cast;rfl,by omega,g.trans c,?_,?_⟩,Q⟩⟩⟩
  ·rw[Lo9 f,if_pos ah]
   exact(hH.mono λ _ _ h=>h.ext c).append ⟨⟨w,c1,d1,c2,rfl,P.ext c⟩,trivial⟩
  ·rw[Lr3 f,if_neg (by omega)]
   exact d.mono λ _ _ h=>h.ext c
  ·rw[Lo9 f,if_neg ai]
   exact hH.mono λ _ _ h=>h.ext c
  ·rw[Lr3 f,if_pos (by omega)]
   exact(d.mono λ _ _ h=>h.ext c).append ⟨⟨w,c1,d1,c2,rfl,P.ext c⟩,trivial⟩
 ·have:j=p.length:=by omega
  subst this;rw[List.take_length] at hH d;have pl:Ab0 214 180 ae ad (Mb5 n p):=⟨_,af.row,d.mono λ _ _ h=>h.ext u⟩;refine An2 pl (o.filter _) (by omega) (by have:=Lo4 n p;omega) λ aj aL R S=>⟨aj,rfl,λ ak al z am _=>?_⟩;have ph:Ab0 214 180 al ak (Lr1 n p):=⟨_,am.row,hH.mono λ _ _ h=>h.ext (u.trans (R.trans z))⟩;refine An2 ph (o.filter _) (by omega) (by have:=Lo8 n p;omega) λ ao aM T U=>⟨ao,rfl,?_⟩;rw[show Ag2 (Mb5 n p)=Mb5 n p from Jw8 (B.filter _)] at S;rw[show Ag2 (Lr1 n p)=Lr1 n p from Jw8 (B.filter _)] at U;have ap:=D.ext (E.trans (J.trans (g.trans (u.trans (R.trans (z.trans T))))));refine Az5 U ap (o.filter _) hm (he.filter _).mex (by omega) (by omega) (by omega) (by have:=Lo8 n p;omega) λ r aN aq A=>A.out λ aO aP aQ aR aS aT A aU V=>⟨_,rfl,MdV.mk (x:=Lx4 b n p) (S.ext (z.trans (T.trans (aq.trans V)))) (A.ext V)⟩
theorem Lm7 {n:Int}(d:Lm6 214 W l b n)(h:Ab0 214 180 W s p)(f:Av6 p)(g:Bd k p)(hm: ∀i,BdI m (b i))(o:m<=7)(he:Gk4 e p)(u:e<=255)(hk:k<=100000000)(v:p.length<=1073741824)(w: ∀(r:List Value) (W':PW),Ext W W'->(MdV 214 180 W' r (if Fc6 b n then Lx4 b n p else Lp4))->K (.tuple ⟨[.agg ⟨r⟩,.bool (decide (Fc6 b n))]⟩) W'):
  Aa1 Tryz.prog W0 M 45 [.agg ⟨l⟩,.agg ⟨[s.v]⟩] W K:=
 Mi4 (λ _ c=>Mc2 (d.ext c) (h.ext c) f g hm o he u hk v) fun | _,W',c,⟨r,rfl,h⟩=>w r W' c h
theorem MdV.pts {tu:TypeId}{tt:TypeId}(h:MdV tu tt W l x): ∃(p s:Sl) (b:Bool) (t s':Sl) (b':Bool) (c:Sl),l = [p.v,s.v,.bool b,t.v,s'.v,.bool b',c.v]/\Ab0 tu tt W p x.1/\SpV tu W [s.v,.bool b,t.v,s'.v,.bool b',c.v] x.2:=by
 obtain⟨p,g,rfl,h1,s,b,t,s',b',c,rfl,d,f⟩:=h;exact⟨p,s,b,t,s',b',c,rfl,h1,SpV.mk d f⟩
theorem Mb9 {n:Int}(hD:Lm6 214 W0 l b n)(hx:MdV 214 180 W0 lx x)(hy:MdV 214 180 W0 ly y)(c:MdB kx rx ex x)(d:MdB ky ry ey y)(hm: ∀i,BdI m (b i))(f:m<=7)(he:ex+ey<=255)(az:0<=ex)(aA:0<=ey)(hk:kx+ky<=30000000)(hr:rx+ry<=30000000)(ao:x.1.length<=32768)(ap:y.1.length<=32768):
  Aa0 Tryz.prog 101 [.agg ⟨l⟩,.agg ⟨lx⟩,.agg ⟨ly⟩] W0 M λ v W'=>∃(r:List Value),v = .tuple ⟨[.agg ⟨r⟩,.bool (decide (Fc6 b n))]⟩/\MdV 214 180 W' r (if Fc6 b n then Lt0 b n x y else Lp4):=by
 obtain⟨l',rfl,N⟩:=hD;have g:=N;obtain⟨s0,b0,t0,s1,b1,t1,s2,b2,t2,s3,b3,t3,s4,b4,t4,s5,b5,t5,rfl,_⟩:=N;obtain⟨px,u0,c0,v0,u1,c1,v1,rfl,O,P⟩:=MdV.pts hx;obtain⟨py,u2,c2,v2,u3,c3,v3,rfl,hyp,Q⟩:=MdV.pts hy;apply Ly6;have R:=Gx3 c.ok d.ok he;have hlen:=Nat.mul_le_mul ao ap;have aq:(Ag2 (An8 x.1 y.1)).length<=1073741824:=by have:=El2 (An8 x.1 y.1);rw[Eb1] at this;omega
 refine Ct0 O hyp (c.bd.mono (show kx<=30000000 by omega)) (d.bd.mono (by omega)) (by omega) (by omega) (by omega) (by omega) λ s3 W2 S T=>⟨s3,_,rfl,?_⟩;rw[Gn4 R] at T;rw[decide_eq_true R];have U:=Lo5 c.ok d.ok he;have V:=(c.bd.Ff3 d.bd).norm;refine Lm7 (Lm6.mk (g.ext S)) T (Ce8 _) V hm f U he (by omega) aq λ r W6 ar X=>X.out λ s7 s8 b9 aS aT aU aV X Y Z=>⟨λ e=>(by cases e),λ _=>⟨λ au av aW=>?_,λ aw=>?_⟩⟩
 ·have h:¬Fc6 b n:=by simpa using au
  rw[decide_eq_false h,if_neg h];exact⟨_,rfl,MdV.zero av⟩
 have o:Fc6 b n:=by simpa using aw
 rw[if_pos o] at Y Z;rw[decide_eq_true o,if_pos o];have hc:=MdB.cut (n:=n) V (Ce8 _) hm f U he;have ox:=Ln0 c.bd hm f c.ok (by omega);have oy:=Ln0 d.bd hm f d.ok (by omega);have d1:=ox.mul d.rest;have d2:=oy.mul c.rest;have d3:=c.rest.mul d.rest;have e1:=hc.rest.add d1;have e2:=e1.add d2;have u:=S.trans ar;refine Az5 (O.ext u) (g.ext u) c.bd hm (Gk4.mex c.ok) (by omega) (by omega) (by omega) (by omega) λ r aX w z=>z.out λ aY aZ a0 a1 a2 a3 z=>?_;have E1:=u.trans w;refine Cx4 z (Q.ext E1) (ox.mono (show _<=200000000 by omega)).sz (d.rest.mono (by omega)).sz (by omega) λ r a4 A B=>B.out λ a5 a6 a7 a8 a9 ba B=>?_;refine Cy0 (Z.ext (w.trans A)) B (hc.rest.mono (show _<=200000000 by omega)).sz (d1.mono (by omega)).sz (by omega) λ r bb af C=>C.out λ bc bd be bf bg bh C=>?_;have D:=(E1.trans A).trans af;refine Az5 (hyp.ext D) (g.ext D) d.bd hm (Gk4.mex d.ok) (by omega) (by omega) (by omega) (by omega) λ r bi E F=>F.out λ bj bk bl bm bn bo F=>?_;have E3:=D.trans E;refine Cx4 F (P.ext E3) (oy.mono (show _<=200000000 by omega)).sz (c.rest.mono (by omega)).sz (by omega) λ r bp G H=>H.out λ bq br bs bt bu bv H=>?_;refine Cy0 (C.ext (E.trans G)) H (e1.mono (show _<=400000000 by omega)).sz (d2.mono (by omega)).sz (by omega) λ r bw ah I=>I.out λ bA bB bC bD bE bF I=>?_;have E4:=(E3.trans G).trans ah;refine Cx4 (P.ext E4) (Q.ext E4) (c.rest.mono (show _<=200000000 by omega)).sz (d.rest.mono (by omega)).sz (by omega) λ r bG aj J=>J.out λ bH bI bJ bK bL bM J=>?_;exact Cy0 (I.ext aj) J (e2.mono (show _<=800000000 by omega)).sz (d3.mono (by omega)).sz (by omega) λ r bN ay L=>L.out λ bO bP bQ bR bS bT L bU ak=>⟨_,rfl,MdV.mk (x:=Lt0 b n x y) (Y.ext (w.trans (A.trans (af.trans (E.trans (G.trans (ah.trans (aj.trans (ay.trans ak))))))))) (L.ext ak)⟩
theorem Ly4 {n:Int}(d:Lm6 214 W l b n)(f:MdV 214 180 W lx x)(g:MdV 214 180 W ly y)(o:MdB kx rx ex x)(u:MdB ky ry ey y)(hm: ∀i,BdI m (b i))(v:m<=7)(he:ex+ey<=255)(w:0<=ex)(z:0<=ey)(hk:kx+ky<=30000000)(A:rx+ry<=30000000)(B:x.1.length<=32768)(C:y.1.length<=32768)(D: ∀(r:List Value) (W':PW),Ext W W'->(MdV 214 180 W' r (if Fc6 b n then Lt0 b n x y else Lp4))->K (.tuple ⟨[.agg ⟨r⟩,.bool (decide (Fc6 b n))]⟩) W'):
  Aa1 Tryz.prog W0 M 101 [.agg ⟨l⟩,.agg ⟨lx⟩,.agg ⟨ly⟩] W K:=
 Mi4 (λ _ c=>Mb9 (d.ext c) (f.ext c) (g.ext c) o u hm v he w z hk A B C) fun | _,W',c,⟨r,rfl,h⟩=>D r W' c h
theorem Mb8 (h:MdV 214 180 W0 lx x)(i:MdV 214 180 W0 ly y)(b1:Bd k x.1)(b2:Bd k y.1)(n:IvS r x.2)(o:IvS r y.2)(hk:k<=30000000)(C:r<=500000000)(D:x.1.length<=32768)(E:y.1.length<=32768):
  Aa0 Tryz.prog 48 [.agg ⟨lx⟩,.agg ⟨ly⟩] W0 M λ v W'=>∃(d:List Value),v = .agg ⟨d⟩/\MdV 214 180 W' d (Lu4 x y):=by
 obtain⟨F,G,H,v0,I,c1,v1,rfl,u,w⟩:=MdV.pts h;obtain⟨J,L,c2,v2,N,c3,v3,rfl,hyp,z⟩:=MdV.pts i;apply Ly1;refine Cw8 u hyp b1 b2 (by omega) (by omega) (by omega) λ s3 O f A=>⟨s3,rfl,?_⟩;exact Cy0 (w.ext f) (z.ext f) n o (by omega) λ r P B c=>c.out λ Q R S T U V c X g=>⟨_,rfl,MdV.mk (x:=Lu4 x y) (A.ext (B.trans g)) (c.ext g)⟩
theorem Lq3 (f:MdV 214 180 W lx x)(g:MdV 214 180 W ly y)(b1:Bd k x.1)(b2:Bd k y.1)(i:IvS r x.2)(n:IvS r y.2)(hk:k<=30000000)(o:r<=500000000)(u:x.1.length<=32768)(v:y.1.length<=32768)(w: ∀(c:List Value) (W':PW),Ext W W'->(MdV 214 180 W' c (Lu4 x y))->K (.agg ⟨c⟩) W'):
  Aa1 Tryz.prog W0 M 48 [.agg ⟨lx⟩,.agg ⟨ly⟩] W K:=
 Mi4 (λ _ d=>Mb8 (f.ext d) (g.ext d) b1 b2 i n hk o u v) fun | _,W',d,⟨c,rfl,h⟩=>w c W' d h
theorem Lz5 {n:Int}(A:Lm6 214 W0 l b n)(B:MdV 214 180 W0 lx x)(c:MdB kx rx ex x)(hm: ∀i,BdI m (b i))(o:m<=7)(he:ex<=255)(hk:kx<=30000000)(C:rx<=400000000)(D:x.1.length<=1073741824):
  Aa0 Tryz.prog 57 [.agg ⟨l⟩,.agg ⟨lx⟩] W0 M λ v W'=>∃(r:List Value),v = .tuple ⟨[.agg ⟨r⟩,.bool (decide (Fc6 b n))]⟩/\SpV 214 W' r (if Fc6 b n then Cb5 (Aq8 b x.1) x.2 else(0,0)):=by
 obtain⟨O,rfl,u⟩:=A;have w:=u;obtain⟨s0,b0,t0,s1,b1,t1,s2,b2,t2,s3,b3,t3,s4,P,t4,Q,R,t5,rfl,_⟩:=u;obtain⟨S,T,U,v0,V,c1,v1,rfl,E,F⟩:=MdV.pts B;apply Lt5;refine Ll8 (k:=7) (Lm6.mk w) (λ i=>((hm i).mono o).sz) (by omega) λ X d _=>⟨_,rfl,λ G H Y=>?_,λ I=>?_⟩
 ·have h:¬Fc6 b n:=by simpa using G
  rw[decide_eq_false h,if_neg h];exact⟨_,rfl,SpV.zero H⟩
 have z:Fc6 b n:=by simpa using I
 rw[decide_eq_true z,if_pos z];have J:=Ln0 c.bd hm o c.ok he;refine Az5 (E.ext d) (w.ext d) c.bd hm (Gk4.mex c.ok) (by omega) (by omega) (by omega) D λ r Z L f=>f.out λ s7 b8 s9 ad ae af f=>?_;exact Cy0 f (F.ext (d.trans L)) (J.mono (show _<=400000000 by omega)).sz (c.rest.mono C).sz (by omega) λ r ag ah g=>g.out λ ai aj ak al am an g ao N=>⟨_,rfl,g.ext N⟩
theorem Ls5 {n:Int}(d:Lm6 214 W l b n)(f:MdV 214 180 W lx x)(g:MdB kx rx ex x)(hm: ∀i,BdI m (b i))(o:m<=7)(he:ex<=255)(hk:kx<=30000000)(u:rx<=400000000)(v:x.1.length<=1073741824)(w: ∀(r:List Value) (W':PW),Ext W W'->(SpV 214 W' r (if Fc6 b n then Cb5 (Aq8 b x.1) x.2 else(0,0)))->K (.tuple ⟨[.agg ⟨r⟩,.bool (decide (Fc6 b n))]⟩) W'):
  Aa1 Tryz.prog W0 M 57 [.agg ⟨l⟩,.agg ⟨lx⟩] W K:=
 Mi4 (λ _ c=>Lz5 (d.ext c) (f.ext c) g hm o he hk u v) fun | _,W',c,⟨r,rfl,h⟩=>w r W' c h
end Go.Proofs.YtkgeopnakkcdoaaGreat
namespace Go.Proofs.YtkgeopnakkcdoaaGreat
open Go Go.SX
variable {K:Value->PW->Prop}{M:Nat->Prop}{W W0:PW}{b:Nat->Iv}{e ex ey:Int}{k kx ky m r rx ry:Nat}{l lx ly:List Value}{p:List Tm}{s:Sl}{x y:Mdl}
theorem Lp9 {n:Int}(h:Ll5 214 W0 l b n)(hk: ∀i,IvS k (b i))(I:k<=1048576):
  Aa0 Tryz.prog 42 [.agg ⟨l⟩] W0 M λ v W'=>v = .bool (decide (Fc6 b n))/\True:=by
 obtain⟨J,rfl,d⟩:=h;have u:=d;obtain⟨b0,s0,t0,b1,s1,t1,b2,s2,t2,b3,s3,t3,L,s4,t4,N,O,t5,rfl,_⟩:=d;apply Lo0;refine⟨trI W0 b,cn1 3,⟨0,rfl,Nat.zero_le _,Ext.refl _,λ t w=>by omega⟩,?_⟩;rintro i3 P ⟨j,rfl,Q,f,g⟩;refine⟨λ R=>?_,λ S=>?_⟩
 ·have o:j<3:=by omega
  obtain⟨z,A,B,C,D,E,e,F,q1,G⟩:=(u.ext f).ends (m:=[.int .i64 n]) o;refine⟨⟨by omega,by omega⟩,z,A,B,e,⟨by omega,by omega⟩,C,D,E,F,Ar1 q1 G (hk j).1 (hk j).2 (by omega) (by omega) λ T H _=>⟨_,rfl,λ h U _=>⟨?_,trivial⟩,λ h=>⟨by unfold I64;omega,⟨j+1,by push_cast;rfl,by omega,f.trans H,λ t w=>?_⟩,?_⟩⟩⟩
  ·rw[decide_eq_false λ e=>Rat.not_le.2 (Al3.1 h) ((Lm5.1 e).1 j o)]
  ·by_cases e:t=j
   ·subst e;exact Rat.not_lt.1 λ e=>h (Al3.2 e)
   ·exact g t (by omega)
  ·show 3-Int.toNat ((j:Int)+1)<3-Int.toNat (j:Int)
   omega
 ·have:j=3:=by omega
  subst this;refine⟨λ c V _=>⟨?_,trivial⟩,λ c X _=>⟨?_,trivial⟩⟩
  ·congr 1
   rw[decide_eq_decide,Lm5];exact⟨λ h=>⟨g,c,h⟩,λ h=>h.2.2⟩
  ·rw[decide_eq_false λ e=>c (Lm5.1 e).2.1]
theorem Ll2 {n:Int}(h:Ll5 214 W l b n)(hk: ∀i,IvS k (b i))(d:k<=1048576)(f: ∀(W':PW),Ext W W'->(True)->K (.bool (decide (Fc6 b n))) W'):
  Aa1 Tryz.prog W0 M 42 [.agg ⟨l⟩] W K:=
 Mi4 (λ _ c=>Lp9 (h.ext c) hk d) fun | _,W',c,⟨rfl,h⟩=>f W' c h
def rcI (W0:PW) (p:List Tm) (n:Int) (L:List PL) (W:PW):Prop:=match L with
 | [.row l,.row c,.val (.int .i64 i)]=>∃j:Nat,i=(j:Int)/\j<=p.length/\Ext W0 W/\An5 (RT 214 W) l (Mb5 n (p.take j))/\An5 (RT 214 W) c (Lr1 n (p.take j))
 | _=>False
theorem Me3 {n:Int}(O:Ll5 214 W0 l b n)(h:Ag1 214 119 W0 s p)(P:Bd k p)(hm: ∀i,BdI m (b i))(Q: ∀i,(b i).1<=(b i).2)(R:m<=7)(he:Gk4 e p)(ah:e<=255)(hk:k<=100000000)(hl:p.length<=1073741824):
  Aa0 Tryz.prog 53 [.agg ⟨l⟩,s.v] W0 M λ v W'=>∃(r:List Value),v = .tuple ⟨[.agg ⟨r⟩,.bool (decide (Fc6 b n))]⟩/\Ll6 214 119 W' r (if Fc6 b n then Lx4 b n p else Lp4):=by
 obtain⟨l',rfl,B⟩:=O;have C:=B;obtain⟨b0,s0,t0,b1,s1,t1,b2,s2,t2,b3,s3,t3,b4,s4,t4,b5,s5,t5,rfl,_⟩:=B;apply Ly8;refine Ll2 (k:=7) (Ll5.mk C) (λ i=>((hm i).mono R).sz) (by omega) λ S D _=>⟨_,rfl,λ T U an=>?_,λ V=>?_⟩
 ·have h:¬Fc6 b n:=by simpa using T
  rw[decide_eq_false h,if_neg h];exact⟨_,rfl,Ll6.zero U⟩
 have E:Fc6 b n:=by simpa using V
 rw[decide_eq_true E,if_pos E];have F:=h.ext D;have hn:=F.n;refine⟨rcI S p n,λ L _=>match L with | [_,_,.val (.int .i64 i)]=>p.length-i.toNat | _=>0,⟨0,rfl,Nat.zero_le _,Ext.refl _,trivial,trivial⟩,?_⟩;rintro l7 l8 i9 ar ⟨j,rfl,hj,g,d,hH⟩;have lH:=hH.len;have lL:=d.len;have l1:=Lo8 n (p.take j);have l2:=Lo4 n (p.take j);rw[List.length_take] at l1 l2;refine⟨λ ax=>?_,λ ay X Y o Z _=>?_⟩
 ·have f:j<p.length:=by omega
  have G:=F.ext g;obtain⟨u,c1,d1,c2,H,e2,_,I⟩:=G.at (List.getElem?_eq_getElem f);have w:=G.inB (i:=(j:Int)) (by omega) (by omega);have J:p.length-Int.toNat ((j:Int)+1)<p.length-Int.toNat (j:Int):=by omega
  refine⟨w,_,_,_,e2,Al9 u λ az c _=>⟨_,rfl,λ ab=>⟨w,_,_,_,c1,d1,c2,H.ext c,by simp;omega,by unfold I64;omega,⟨j+1,by push_cast;rfl,by omega,g.trans c,?_,?_⟩,J⟩,λ ac=>⟨w,_,_,_,c1,d1,c2,H.ext c,by simp;omega,by unfold I64;omega,⟨j+1,by push_cast;rfl,by omega,g.trans c,?_,?_⟩,J⟩⟩⟩
  ·rw[Lr3 f,if_pos ab]
   exact(d.mono λ _ _ h=>h.ext c).append ⟨⟨u,c1,d1,c2,rfl,I.ext c⟩,trivial⟩
  ·rw[Lo9 f,if_neg (by omega)]
   exact hH.mono λ _ _ h=>h.ext c
  ·rw[Lr3 f,if_neg ac]
   exact d.mono λ _ _ h=>h.ext c
  ·rw[Lo9 f,if_pos (by omega)]
   exact(hH.mono λ _ _ h=>h.ext c).append ⟨⟨u,c1,d1,c2,rfl,I.ext c⟩,trivial⟩
 ·have:j=p.length:=by omega
  subst this;rw[List.take_length] at hH d;have ph:Ag1 214 119 Y X (Lr1 n p):=⟨_,Z.row,hH.mono λ _ _ h=>h.ext o⟩;have ae:=C.ext (D.trans (g.trans o));refine Cs3 ph ae (P.filter _) hm Q (Gk4.mex (he.filter _)) (by omega) (by omega) (by omega) (by have:=Lo8 n p;omega) λ r aA af z=>z.out λ aB aC aD aE aF aG z aH aI N ag _ aJ A=>⟨_,rfl,Ll6.mk (x:=Lx4 b n p) ⟨_,(ag.ext A).row,d.mono λ _ _ h=>h.ext (o.trans (af.trans (N.trans A)))⟩ (z.ext (N.trans A))⟩
theorem Ln1 {n:Int}(d:Ll5 214 W l b n)(h:Ag1 214 119 W s p)(f:Bd k p)(hm: ∀i,BdI m (b i))(g: ∀i,(b i).1<=(b i).2)(o:m<=7)(he:Gk4 e p)(u:e<=255)(hk:k<=100000000)(v:p.length<=1073741824)(w: ∀(r:List Value) (W':PW),Ext W W'->(Ll6 214 119 W' r (if Fc6 b n then Lx4 b n p else Lp4))->K (.tuple ⟨[.agg ⟨r⟩,.bool (decide (Fc6 b n))]⟩) W'):
  Aa1 Tryz.prog W0 M 53 [.agg ⟨l⟩,s.v] W K:=
 Mi4 (λ _ c=>Me3 (d.ext c) (h.ext c) f hm g o he u hk v) fun | _,W',c,⟨r,rfl,h⟩=>w r W' c h
theorem Ll6.pts {tu:TypeId}{tt:TypeId}(h:Ll6 tu tt W l x): ∃(p:Sl) (b:Bool) (s t:Sl) (b':Bool) (s' c:Sl),l = [p.v,.bool b,s.v,t.v,.bool b',s'.v,c.v]/\Ag1 tu tt W p x.1/\Ah6 tu W [.bool b,s.v,t.v,.bool b',s'.v,c.v] x.2:=by
 obtain⟨p,g,rfl,h1,s,b,t,s',b',c,rfl,d,f⟩:=h;exact⟨p,s,b,t,s',b',c,rfl,h1,Ah6.mk d f⟩
theorem Ls9 {n:Int}(hD:Ll5 214 W0 l b n)(hx:Ll6 214 119 W0 lx x)(hy:Ll6 214 119 W0 ly y)(c:MdB kx rx ex x)(d:MdB ky ry ey y)(hm: ∀i,BdI m (b i))(u: ∀i,(b i).1<=(b i).2)(g:m<=7)(he:ex+ey<=255)(aC:0<=ex)(aD:0<=ey)(hk:kx+ky<=30000000)(hr:rx+ry<=30000000)(ap:x.1.length<=32768)(aq:y.1.length<=32768):
  Aa0 Tryz.prog 107 [.agg ⟨l⟩,.agg ⟨lx⟩,.agg ⟨ly⟩] W0 M λ v W'=>∃(r:List Value),v = .tuple ⟨[.agg ⟨r⟩,.bool (decide (Fc6 b n))]⟩/\Ll6 214 119 W' r (if Fc6 b n then Lt0 b n x y else Lp4):=by
 obtain⟨l',rfl,P⟩:=hD;have o:=P;obtain⟨b0,s0,t0,b1,s1,t1,b2,s2,t2,b3,s3,t3,b4,s4,t4,b5,s5,t5,rfl,_⟩:=P;obtain⟨px,u0,c0,v0,u1,c1,v1,rfl,Q,R⟩:=Ll6.pts hx;obtain⟨py,u2,c2,v2,u3,c3,v3,rfl,hyp,S⟩:=Ll6.pts hy;apply Lp6;have T:=Gx3 c.ok d.ok he;have hlen:=Nat.mul_le_mul ap aq;have ar:(Ag2 (An8 x.1 y.1)).length<=1073741824:=by have:=El2 (An8 x.1 y.1);rw[Eb1] at this;omega
 refine Ll2 (k:=7) (Ll5.mk o) (λ i=>((hm i).mono g).sz) (by omega) λ W2 w _=>⟨_,rfl,λ au W4 aR=>?_,λ aw=>?_⟩
 ·have h:¬Fc6 b n:=by simpa using au
  rw[decide_eq_false h,if_neg h];exact⟨_,rfl,Ll6.zero W4⟩
 have z:Fc6 b n:=by simpa using aw
 rw[decide_eq_true z,if_pos z];refine Ke0 (Q.ext w) (hyp.ext w) (c.bd.mono (show kx<=30000000 by omega)) (d.bd.mono (by omega)) (by omega) (by omega) (by omega) (by omega) λ s7 W6 ay U=>⟨s7,_,rfl,λ e=>absurd e (by simp[T]),λ _=>?_⟩;rw[Gn4 T] at U;have V:=Lo5 c.ok d.ok he;have X:=(c.bd.Ff3 d.bd).norm;have Y:=w.trans ay;refine Ln1 (Ll5.mk (o.ext Y)) U X hm u g V he (by omega) ar λ r aT az Z=>Z.out λ aU aV aW aX aY aZ a0 Z aa ab=>?_;rw[if_pos z] at aa ab;have hc:=MdB.cut (n:=n) X (Ce8 _) hm g V he;have ox:=Ln0 c.bd hm g c.ok (by omega);have oy:=Ln0 d.bd hm g d.ok (by omega);have d1:=ox.mul d.rest;have d2:=oy.mul c.rest;have d3:=c.rest.mul d.rest;have e1:=hc.rest.add d1;have e2:=e1.add d2;have f:=Y.trans az;refine Cs3 (Q.ext f) (o.ext f) c.bd hm u (Gk4.mex c.ok) (by omega) (by omega) (by omega) (by omega) λ r a1 A B=>B.out λ a2 a3 a4 a5 a6 a7 B=>?_;have f:=f.trans A;refine Bt1 B (S.ext f) (ox.mono (show _<=200000000 by omega)).sz (d.rest.mono (by omega)).sz (by omega) λ r a8 C D=>D.out λ a9 ba bb bc bd be D=>?_;refine Bp3 (ab.ext (A.trans C)) D (hc.rest.mono (show _<=200000000 by omega)).sz (d1.mono (by omega)).sz (by omega) λ r bf ag E=>E.out λ bg bh bi bj bk bl E=>?_;have F:=(f.trans C).trans ag;refine Cs3 (hyp.ext F) (o.ext F) d.bd hm u (Gk4.mex d.ok) (by omega) (by omega) (by omega) (by omega) λ r bm G H=>H.out λ bn bo bp bq br bs H=>?_;have E3:=F.trans G;refine Bt1 H (R.ext E3) (oy.mono (show _<=200000000 by omega)).sz (c.rest.mono (by omega)).sz (by omega) λ r bt I J=>J.out λ bu bv bw bA bB bC J=>?_;refine Bp3 (E.ext (G.trans I)) J (e1.mono (show _<=400000000 by omega)).sz (d2.mono (by omega)).sz (by omega) λ r bD ai L=>L.out λ bE bF bG bH bI bJ L=>?_;have E4:=(E3.trans I).trans ai;refine Bt1 (R.ext E4) (S.ext E4) (c.rest.mono (show _<=200000000 by omega)).sz (d.rest.mono (by omega)).sz (by omega) λ r bK ak N=>N.out λ bL bM bN bO bP bQ N=>?_;exact Bp3 (L.ext ak) N (e2.mono (show _<=500000000 by omega)).sz (d3.mono (by omega)).sz (by omega) λ r bR aB O=>O.out λ bS bT bU bV bW bX O bY al=>⟨_,rfl,Ll6.mk (x:=Lt0 b n x y) (aa.ext (A.trans (C.trans (ag.trans (G.trans (I.trans (ai.trans (ak.trans (aB.trans al))))))))) (O.ext al)⟩
theorem Lq6 {n:Int}(d:Ll5 214 W l b n)(f:Ll6 214 119 W lx x)(g:Ll6 214 119 W ly y)(o:MdB kx rx ex x)(u:MdB ky ry ey y)(hm: ∀i,BdI m (b i))(v: ∀i,(b i).1<=(b i).2)(w:m<=7)(he:ex+ey<=255)(z:0<=ex)(A:0<=ey)(hk:kx+ky<=30000000)(B:rx+ry<=30000000)(C:x.1.length<=32768)(D:y.1.length<=32768)(E: ∀(r:List Value) (W':PW),Ext W W'->(Ll6 214 119 W' r (if Fc6 b n then Lt0 b n x y else Lp4))->K (.tuple ⟨[.agg ⟨r⟩,.bool (decide (Fc6 b n))]⟩) W'):
  Aa1 Tryz.prog W0 M 107 [.agg ⟨l⟩,.agg ⟨lx⟩,.agg ⟨ly⟩] W K:=
 Mi4 (λ _ c=>Ls9 (d.ext c) (f.ext c) (g.ext c) o u hm v w he z A hk B C D) fun | _,W',c,⟨r,rfl,h⟩=>E r W' c h
theorem Ls6 (h:Ll6 214 119 W0 lx x)(i:Ll6 214 119 W0 ly y)(g1:Av6 x.1)(b1:Bd k x.1)(b2:Bd k y.1)(n:IvS r x.2)(o:IvS r y.2)(hk:k<=30000000)(C:r<=500000000)(D:x.1.length<=32768)(E:y.1.length<=32768):
  Aa0 Tryz.prog 55 [.agg ⟨lx⟩,.agg ⟨ly⟩] W0 M λ v W'=>∃(d:List Value),v = .agg ⟨d⟩/\Ll6 214 119 W' d (Lu4 x y):=by
 obtain⟨F,G,H,v0,I,c1,v1,rfl,u,w⟩:=Ll6.pts h;obtain⟨J,L,c2,v2,N,c3,v3,rfl,hyp,z⟩:=Ll6.pts i;apply Lp5;refine Jv3 u hyp g1 b1 b2 (by omega) (by omega) (by omega) λ s3 O f A=>⟨s3,rfl,?_⟩;exact Bp3 (w.ext f) (z.ext f) n o (by omega) λ r P B c=>c.out λ Q R S T U V c X g=>⟨_,rfl,Ll6.mk (x:=Lu4 x y) (A.ext (B.trans g)) (c.ext g)⟩
theorem Ln2 (f:Ll6 214 119 W lx x)(g:Ll6 214 119 W ly y)(g1:Av6 x.1)(b1:Bd k x.1)(b2:Bd k y.1)(i:IvS r x.2)(n:IvS r y.2)(hk:k<=30000000)(o:r<=500000000)(u:x.1.length<=32768)(v:y.1.length<=32768)(w: ∀(c:List Value) (W':PW),Ext W W'->(Ll6 214 119 W' c (Lu4 x y))->K (.agg ⟨c⟩) W'):
  Aa1 Tryz.prog W0 M 55 [.agg ⟨lx⟩,.agg ⟨ly⟩] W K:=
 Mi4 (λ _ d=>Ls6 (f.ext d) (g.ext d) g1 b1 b2 i n hk o u v) fun | _,W',d,⟨c,rfl,h⟩=>w c W' d h
theorem Mb7:
  Aa0 Tryz.prog 50 [] W0 M λ v W'=>∃(d:List Value),v = .agg ⟨d⟩/\Ll6 214 119 W' d Lp4:=by
 apply Lv8;exact Ak1 (z:=0) (by unfold I64;omega) λ b3 s4 f n o g=>⟨b3,s4,f,rfl,Bd0 g λ l u w c=>c.out λ A B C D E F c h i=>⟨_,rfl,Ll6.mk (s:=⟨none,0,0⟩) (x:=Lp4) (Ag1.nil h) (c.ext i)⟩⟩
theorem Lm8 (f: ∀(c:List Value) (W':PW),Ext W W'->(Ll6 214 119 W' c Lp4)->K (.agg ⟨c⟩) W'):
  Aa1 Tryz.prog W0 M 50 [] W K:=
 Mi4 (λ _ d=>Mb7 ) fun | _,W',d,⟨c,rfl,h⟩=>f c W' d h
end Go.Proofs.YtkgeopnakkcdoaaGreat
