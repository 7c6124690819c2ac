import Derived.Test.YtkgeopnakkcdoaaGreatDoorW8
import Derived.Test.YtkgeopnakkcdoaaGreatDoorLib5
import Derived.Test.YtkgeopnakkcdoaaGreatDoorR8
import Derived.Test.YtkgeopnakkcdoaaGreatDoorW6
import Derived.Test.YtkgeopnakkcdoaaGreatDoorLib4
import Derived.Test.YtkgeopnakkcdoaaGreatDoorW7
set_option linter.unusedVariables false
set_option linter.unusedSimpArgs false
set_option maxRecDepth 100000
namespace Go.Proofs.YtkgeopnakkcdoaaGreatDoor
open Go Go.SX
variable {K:Value->PW->Prop}{M:Nat->Prop}{W W0:PW}{b b':Bool}{k:Nat}{l2:List Value}{p q r:Rat}{s s' t t':Sl}{x y:Iv}
theorem De5 (h1:Ab3 257 W0 s b t p)(a:Ab3 257 W0 s' b' t' q)(f:Sz k p)(g:Sz k q)(hk:k<=34359738368):
  Aa0 Tryz.prog 204 [.agg ⟨[s.v,.bool b,t.v]⟩,.agg ⟨[s'.v,.bool b',t'.v]⟩] W0 M λ v W'=>∃(r:Sl),∃(c:Bool),∃(u:Sl),v = .agg ⟨[Sl.v r,.bool c,Sl.v u]⟩/\Ab3 257 W' r c u (Az9 p q):=by
 apply Cg1;refine Aj2 a h1 g f hk hk λ n d _=>⟨_,rfl,λ h o i=>⟨s',b',t',rfl,?_⟩,λ h w j=>⟨s,b,t,rfl,?_⟩⟩
 ·rw[Az9,if_pos (At6.1 h)];exact a.ext (d.trans i)
 ·rw[Az9,if_neg (λ e=>h (At6.2 e))];exact h1.ext (d.trans j)
theorem Be3 (h1:Ab3 257 W s b t p)(d:Ab3 257 W s' b' t' q)(f:Sz k p)(g:Sz k q)(hk:k<=34359738368)(i: ∀(r:Sl) (c:Bool) (u:Sl) (W':PW),Ext W W'->(Ab3 257 W' r c u (Az9 p q))->K (.agg ⟨[Sl.v r,.bool c,Sl.v u]⟩) W'):
  Aa1 Tryz.prog W0 M 204 [.agg ⟨[s.v,.bool b,t.v]⟩,.agg ⟨[s'.v,.bool b',t'.v]⟩] W K:=
 Mi4 (λ _ a=>De5 (h1.ext a) (d.ext a) f g hk) fun | _,W',a,⟨r,c,u,rfl,h⟩=>i r c u W' a h
theorem Dl7 (h1:Ab3 257 W0 s b t p)(a:Ab3 257 W0 s' b' t' q)(f:Sz k p)(g:Sz k q)(hk:k<=34359738368):
  Aa0 Tryz.prog 205 [.agg ⟨[s.v,.bool b,t.v]⟩,.agg ⟨[s'.v,.bool b',t'.v]⟩] W0 M λ v W'=>∃(r:Sl),∃(c:Bool),∃(u:Sl),v = .agg ⟨[Sl.v r,.bool c,Sl.v u]⟩/\Ab3 257 W' r c u (Au7 p q):=by
 apply Ck9;refine Aj2 a h1 g f hk hk λ n d _=>⟨_,rfl,λ h o i=>⟨s',b',t',rfl,?_⟩,λ h w j=>⟨s,b,t,rfl,?_⟩⟩
 ·rw[Au7,if_pos (Al3.1 h)];exact a.ext (d.trans i)
 ·rw[Au7,if_neg (λ e=>h (Al3.2 e))];exact h1.ext (d.trans j)
theorem Bd3 (h1:Ab3 257 W s b t p)(d:Ab3 257 W s' b' t' q)(f:Sz k p)(g:Sz k q)(hk:k<=34359738368)(i: ∀(r:Sl) (c:Bool) (u:Sl) (W':PW),Ext W W'->(Ab3 257 W' r c u (Au7 p q))->K (.agg ⟨[Sl.v r,.bool c,Sl.v u]⟩) W'):
  Aa1 Tryz.prog W0 M 205 [.agg ⟨[s.v,.bool b,t.v]⟩,.agg ⟨[s'.v,.bool b',t'.v]⟩] W K:=
 Mi4 (λ _ a=>Dl7 (h1.ext a) (d.ext a) f g hk) fun | _,W',a,⟨r,c,u,rfl,h⟩=>i r c u W' a h
theorem Cl8 (h1:Ab3 257 W0 s b t p)(a:Ab3 257 W0 s' b' t' q)(c:Sz k p)(d:Sz k q)(hk:k<=34359738368):
  Aa0 Tryz.prog 144 [.agg ⟨[s.v,.bool b,t.v]⟩,.agg ⟨[s'.v,.bool b',t'.v]⟩] W0 M λ v W'=>∃(l:List Value),v = .agg ⟨l⟩/\SpV 257 W' l (Ag0 p q):=by
 apply Bv4;exact Be3 h1 a c d hk λ s3 h i w f g1=>⟨s3,h,i,rfl,Bd3 (h1.ext f) (a.ext f) c d hk λ j n o z u g2=>⟨j,n,o,rfl,λ A g=>⟨_,rfl,SpV.mk (x:=Ag0 p q) (g1.ext (u.trans g)) (g2.ext g)⟩⟩⟩
theorem Ap8 (h1:Ab3 257 W s b t p)(c:Ab3 257 W s' b' t' q)(d:Sz k p)(f:Sz k q)(hk:k<=34359738368)(g: ∀(l:List Value) (W':PW),Ext W W'->(SpV 257 W' l (Ag0 p q))->K (.agg ⟨l⟩) W'):
  Aa1 Tryz.prog W0 M 144 [.agg ⟨[s.v,.bool b,t.v]⟩,.agg ⟨[s'.v,.bool b',t'.v]⟩] W K:=
 Mi4 (λ _ a=>Cl8 (h1.ext a) (c.ext a) d f hk) fun | _,W',a,⟨l,rfl,h⟩=>g l W' a h
theorem Dh8 {l1:List Value}(h1:SpV 257 W0 l1 x)(a:SpV 257 W0 l2 y)(c:IvS k x)(d:IvS k y)(hk:k<=34359738368):
  Aa0 Tryz.prog 143 [.agg ⟨l1⟩,.agg ⟨l2⟩] W0 M λ v W'=>∃(l:List Value),v = .agg ⟨l⟩/\SpV 257 W' l (Bu9 x y):=by
 obtain⟨s0,b0,t0,s1,b1,t1,rfl,h1,h⟩:=h1;obtain⟨s2,b2,t2,s3,A,t3,rfl,a,i⟩:=a;apply Ck6;exact Be3 h1 a c.1 d.1 hk λ s3 j n B f g1=>⟨s3,j,n,rfl,Bd3 (h.ext f) (i.ext f) c.2 d.2 hk λ o u w C z g2=>⟨o,u,w,rfl,λ D g=>⟨_,rfl,SpV.mk (x:=Bu9 x y) (g1.ext (z.trans g)) (g2.ext g)⟩⟩⟩
theorem Cn9 {l1:List Value}(h1:SpV 257 W l1 x)(c:SpV 257 W l2 y)(d:IvS k x)(f:IvS k y)(hk:k<=34359738368)(g: ∀(l:List Value) (W':PW),Ext W W'->(SpV 257 W' l (Bu9 x y))->K (.agg ⟨l⟩) W'):
  Aa1 Tryz.prog W0 M 143 [.agg ⟨l1⟩,.agg ⟨l2⟩] W K:=
 Mi4 (λ _ a=>Dh8 (h1.ext a) (c.ext a) d f hk) fun | _,W',a,⟨l,rfl,h⟩=>g l W' a h
theorem Dx1 {l1:List Value}(h1:SpV 257 W0 l1 x)(a:SpV 257 W0 l2 y)(c:IvS k x)(d:IvS k y)(hk:k<=8589934592):
  Aa0 Tryz.prog 63 [.agg ⟨l1⟩,.agg ⟨l2⟩] W0 M λ v W'=>∃(l:List Value),v = .agg ⟨l⟩/\SpV 257 W' l (Cb5 x y):=by
 obtain⟨s0,b0,t0,s1,b1,t1,rfl,h1,h⟩:=h1;obtain⟨s2,b2,t2,s3,A,t3,rfl,a,i⟩:=a;apply Cs4;exact At2 h1 a c.1 d.1 hk hk λ s3 j n B f g1=>⟨s3,j,n,rfl,At2 (h.ext f) (i.ext f) c.2 d.2 hk hk λ o u w C z g2=>⟨o,u,w,rfl,λ D g=>⟨_,rfl,SpV.mk (x:=Cb5 x y) (g1.ext (z.trans g)) (g2.ext g)⟩⟩⟩
theorem Cy0 {l1:List Value}(h1:SpV 257 W l1 x)(c:SpV 257 W l2 y)(d:IvS k x)(f:IvS k y)(hk:k<=8589934592)(g: ∀(l:List Value) (W':PW),Ext W W'->(SpV 257 W' l (Cb5 x y))->K (.agg ⟨l⟩) W'):
  Aa1 Tryz.prog W0 M 63 [.agg ⟨l1⟩,.agg ⟨l2⟩] W K:=
 Mi4 (λ _ a=>Dx1 (h1.ext a) (c.ext a) d f hk) fun | _,W',a,⟨l,rfl,h⟩=>g l W' a h
theorem Dy9 {l1:List Value}(h1:SpV 257 W0 l1 x)(f:SpV 257 W0 l2 y)(c:IvS k x)(d:IvS k y)(hk:k<=8589934592):
  Aa0 Tryz.prog 64 [.agg ⟨l1⟩,.agg ⟨l2⟩] W0 M λ v W'=>∃(l:List Value),v = .agg ⟨l⟩/\SpV 257 W' l (Ay9 x y):=by
 obtain⟨s0,b0,t0,s1,b1,t1,rfl,h1,C⟩:=h1;obtain⟨s2,b2,t2,s3,N,t3,rfl,f,D⟩:=f;apply Cy7;have E:=c.1.mul d.1;have z2:=c.2.mul d.2;have z3:=c.1.mul d.2;have z4:=c.2.mul d.1;have F: ∀{a b:Rat},Sz (k+k) a->Sz (k+k) b->IvS (k+k) (Ag0 a b):=λ O P=>⟨by rcases Dj0 _ _ with e | e<;>rw[Ag0,e]<;>assumption,by rcases Dj7 _ _ with e | e<;>rw[Ag0,e]<;>assumption⟩;refine Ak9 h1 f c.1 d.1 hk hk λ s3 h i Q j g1=>⟨s3,h,i,rfl,Ak9 (C.ext j) (D.ext j) c.2 d.2 hk hk λ n o u R G g2=>⟨n,o,u,rfl,Ap8 (g1.ext G) g2 E z2 (by omega) λ l S I w=>w.out λ T U V X Y Z w=>?_⟩⟩;have g:=(j.trans G).trans I;refine Ak9 (h1.ext g) (D.ext g) c.1 d.2 hk hk λ s3 h i aa z g1=>⟨s3,h,i,rfl,Ak9 (C.ext (g.trans z)) (f.ext (g.trans z)) c.2 d.1 hk hk λ n o u ab H g2=>⟨n,o,u,rfl,Ap8 (g1.ext H) g2 z3 z4 (by omega) λ l ac J A=>A.out λ ad ae af ag ah ai A=>?_⟩⟩;exact Cn9 (w.ext ((z.trans H).trans J)) A (F E z2) (F z3 z4) (by omega) λ l aj ak B=>B.out λ al am an ao ap aq B ar L=>⟨_,rfl,B.ext L⟩
theorem Cx4 {l1:List Value}(h1:SpV 257 W l1 x)(c:SpV 257 W l2 y)(d:IvS k x)(f:IvS k y)(hk:k<=8589934592)(g: ∀(l:List Value) (W':PW),Ext W W'->(SpV 257 W' l (Ay9 x y))->K (.agg ⟨l⟩) W'):
  Aa1 Tryz.prog W0 M 64 [.agg ⟨l1⟩,.agg ⟨l2⟩] W K:=
 Mi4 (λ _ a=>Dy9 (h1.ext a) (c.ext a) d f hk) fun | _,W',a,⟨l,rfl,h⟩=>g l W' a h
theorem Hv0 {l1:List Value}(h1:SpV 257 W0 l1 x)(f:Ab3 257 W0 s b t r)(a:IvS k x)(c:Sz k r)(hk:k<=8589934592):
  Aa0 Tryz.prog 145 [.agg ⟨l1⟩,.agg ⟨[s.v,.bool b,t.v]⟩] W0 M λ v W'=>∃(l:List Value),v = .agg ⟨l⟩/\SpV 257 W' l (De8 x r):=by
 obtain⟨s0,b0,t0,s1,b1,t1,rfl,h1,h⟩:=h1;apply Hu3;exact Ak9 h1 f a.1 c hk hk λ s3 i j A g g1=>⟨s3,i,j,rfl,Ak9 (h.ext g) (f.ext g) a.2 c hk hk λ n o u B w g2=>⟨n,o,u,rfl,Ap8 (g1.ext w) g2 (a.1.mul c) (a.2.mul c) (by omega) λ l C D d=>d.out λ E F G H I J d L z=>⟨_,rfl,d.ext z⟩⟩⟩
theorem Hu2 {l1:List Value}(h1:SpV 257 W l1 x)(c:Ab3 257 W s b t r)(d:IvS k x)(f:Sz k r)(hk:k<=8589934592)(g: ∀(l:List Value) (W':PW),Ext W W'->(SpV 257 W' l (De8 x r))->K (.agg ⟨l⟩) W'):
  Aa1 Tryz.prog W0 M 145 [.agg ⟨l1⟩,.agg ⟨[s.v,.bool b,t.v]⟩] W K:=
 Mi4 (λ _ a=>Hv0 (h1.ext a) (c.ext a) d f hk) fun | _,W',a,⟨l,rfl,h⟩=>g l W' a h
theorem Ep4 (h:Ab3 257 W0 s b t r):
  Aa0 Tryz.prog 62 [.agg ⟨[s.v,.bool b,t.v]⟩] W0 M λ v W'=>∃(l:List Value),v = .agg ⟨l⟩/\SpV 257 W' l (Eb6 r):=by
 apply Dk8;exact λ c a=>⟨_,rfl,SpV.mk (x:=Eb6 r) (h.ext a) (h.ext a)⟩
theorem De4 (h:Ab3 257 W s b t r)(c: ∀(l:List Value) (W':PW),Ext W W'->(SpV 257 W' l (Eb6 r))->K (.agg ⟨l⟩) W'):
  Aa1 Tryz.prog W0 M 62 [.agg ⟨[s.v,.bool b,t.v]⟩] W K:=
 Mi4 (λ _ a=>Ep4 (h.ext a)) fun | _,W',a,⟨l,rfl,h⟩=>c l W' a h
theorem Dt0 {l1:List Value}(h1:SpV 257 W0 l1 x)(a:Ab3 257 W0 s b t r)(c:IvS k x)(d:Sz k r)(hk:k<=8589934592):
  Aa0 Tryz.prog 222 [.agg ⟨l1⟩,.agg ⟨[s.v,.bool b,t.v]⟩] W0 M λ v W'=>v = .bool (decide (x.1<=r/\r<=x.2))/\True:=by
 obtain⟨s0,b0,t0,s1,b1,t1,rfl,h1,g⟩:=h1;apply Cu8;refine Aj2 h1 a c.1 d (by omega) (by omega) λ i f _=>⟨_,rfl,λ h=>Aj2 (a.ext f) (g.ext f) d c.2 (by omega) (by omega) λ j n _=>⟨_,rfl,λ o u=>⟨?_,trivial⟩⟩,λ h w z=>⟨?_,trivial⟩⟩
 ·have h:=Dn3.1 h
  congr 1;rw[decide_eq_decide,Dn3];exact⟨λ e=>⟨h,e⟩,λ e=>e.2⟩
 ·rw[decide_eq_false λ e=>h (Dn3.2 e.1)]
theorem Cs8 {l1:List Value}(h1:SpV 257 W l1 x)(c:Ab3 257 W s b t r)(d:IvS k x)(f:Sz k r)(hk:k<=8589934592)(g: ∀(W':PW),Ext W W'->(True)->K (.bool (decide (x.1<=r/\r<=x.2))) W'):
  Aa1 Tryz.prog W0 M 222 [.agg ⟨l1⟩,.agg ⟨[s.v,.bool b,t.v]⟩] W K:=
 Mi4 (λ _ a=>Dt0 (h1.ext a) (c.ext a) d f hk) fun | _,W',a,⟨rfl,h⟩=>g W' a h
theorem Du0 {l1:List Value}{n:Nat}(h1:SpV 257 W0 l1 x)(d:IvS k x)(hk:k<=1048576)(g:n<=255):
  Aa0 Tryz.prog 167 [.agg ⟨l1⟩,.int .i64 (n:Int)] W0 M λ v W'=>∃(l:List Value),v = .agg ⟨l⟩/\SpV 257 W' l (Ai3 x n):=by
 obtain⟨s0,b0,t0,s1,b1,t1,rfl,h1,j⟩:=h1;apply Cz8;have hm:=Nat.mul_le_mul hk g;have A:mn (mx (n:Int) 0) 255=(n:Int):=by unfold mn mx;(repeat' split)<;>omega
 rw[A];refine Bq4 h1 d.1 hk g λ s3 B C T o g1=>⟨s3,B,C,rfl,Bq4 (j.ext o) d.2 hk g λ D E F U u g2=>⟨D,E,F,rfl,Ap8 (g1.ext u) g2 (Sz.Fe7 d.1 n) (Sz.Fe7 d.2 n) (by omega) λ l G H f=>f.out λ V X Y Z aa ab f=>⟨λ ac=>⟨by omega,λ ad=>?_,λ I ae J=>⟨_,rfl,?_⟩⟩,λ L af N=>⟨_,rfl,?_⟩⟩⟩⟩
 ·have O:n%2=0:=by have:=Int.tmod_eq_emod_of_nonneg (a:=(n:Int)) (b:=2) (by omega);omega
  have w:=(o.trans u).trans H;refine Cs8 (s:=⟨none,0,0⟩) (b:=false) (t:=⟨none,0,0⟩) (k:=k+1) (SpV.mk (h1.ext w) (j.ext w)) (Ar9 G) ⟨d.1.mono (by omega),d.2.mono (by omega)⟩ (Sz.zero (by omega)) (by omega) λ ag z _=>⟨_,rfl,λ c ah P=>⟨_,rfl,?_⟩,λ c ai Q=>⟨_,rfl,?_⟩⟩
  ·have c:=of_decide_eq_true c
   rw[Ai3,if_pos ⟨by omega,O,c⟩];obtain⟨_,_,_,_,_,_,e,k1,R⟩:=f.ext (z.trans P);simp only[List.cons.injEq,Value.bool.injEq,and_true] at e;obtain⟨e1,e2,e3,h,S,i⟩:=e;have h:=Sl.Ck0 h;have i:=Sl.Ck0 i;subst h S i;exact⟨⟨none,0,0⟩,false,⟨none,0,0⟩,_,_,_,rfl,Ar9 _,R⟩
  ·have c:=of_decide_eq_false c
   rw[Ai3,if_neg λ e=>c e.2.2];exact f.ext (z.trans Q)
 ·rw[Ai3,if_neg]
  ·exact f.ext J
  ·intro e
   apply I;have:=Int.tmod_eq_emod_of_nonneg (a:=(n:Int)) (b:=2) (by omega);have:=e.2.1;omega
 ·rw[Ai3,if_neg λ e=>L (by have:=e.1;omega)]
  exact f.ext N
theorem Co8 {l1:List Value}{n:Nat}(h1:SpV 257 W l1 x)(c:IvS k x)(hk:k<=1048576)(d:n<=255)(f: ∀(l:List Value) (W':PW),Ext W W'->(SpV 257 W' l (Ai3 x n))->K (.agg ⟨l⟩) W'):
  Aa1 Tryz.prog W0 M 167 [.agg ⟨l1⟩,.int .i64 (n:Int)] W K:=
 Mi4 (λ _ a=>Du0 (h1.ext a) c hk d) fun | _,W',a,⟨l,rfl,h⟩=>f l W' a h
theorem Dt4 (h1:Ab3 257 W0 s b t p)(c:Ab3 257 W0 s' b' t' q)(g:Sz k p)(i:Sz k q)(hk:k<=34359738368):
  Aa0 Tryz.prog 232 [.agg ⟨[s.v,.bool b,t.v]⟩,.agg ⟨[s'.v,.bool b',t'.v]⟩] W0 M λ v W'=>∃(l:List Value),v = .tuple ⟨[.agg ⟨l⟩,.bool (decide (p<=q))]⟩/\SpV 257 W' l (if p<=q then(p,q) else(0,0)):=by
 apply Ct1;refine Aj2 h1 c g i hk hk λ n d _=>⟨_,rfl,λ h j o=>?_,λ h u f=>?_⟩
 ·have h:=Al3.1 h
  have a:¬p<=q:=Rat.not_le.2 h;rw[if_neg a,decide_eq_false a];exact⟨_,rfl,SpV.zero j⟩
 ·have a:p<=q:=Rat.not_lt.1 λ e=>h (Al3.2 e)
  rw[if_pos a,decide_eq_true a];exact⟨_,rfl,SpV.mk (x:=(p,q)) (h1.ext (d.trans f)) (c.ext (d.trans f))⟩
theorem Cq7 (h1:Ab3 257 W s b t p)(c:Ab3 257 W s' b' t' q)(d:Sz k p)(f:Sz k q)(hk:k<=34359738368)(g: ∀(l:List Value) (W':PW),Ext W W'->(SpV 257 W' l (if p<=q then(p,q) else(0,0)))->K (.tuple ⟨[.agg ⟨l⟩,.bool (decide (p<=q))]⟩) W'):
  Aa1 Tryz.prog W0 M 232 [.agg ⟨[s.v,.bool b,t.v]⟩,.agg ⟨[s'.v,.bool b',t'.v]⟩] W K:=
 Mi4 (λ _ a=>Dt4 (h1.ext a) (c.ext a) d f hk) fun | _,W',a,⟨l,rfl,h⟩=>g l W' a h
end Go.Proofs.YtkgeopnakkcdoaaGreatDoor
namespace Go.Proofs.YtkgeopnakkcdoaaGreatDoor
open Go Go.SX
end Go.Proofs.YtkgeopnakkcdoaaGreatDoor
namespace Go.Proofs.YtkgeopnakkcdoaaGreatDoor
open Go Go.SX
variable {M:Nat->Prop}{W0:PW}{b:Nat->Iv}{e k m:Nat}{l:List Value}{p:List Tm}{s:Sl}
theorem Dq6 {m:Mon}(h:m.ok)(k:Nat):An6 m k=((mex m k:Nat):Int):=by
 unfold Mon.ok at h;unfold An6 mex
 (repeat' split)<;>omega
def ovO (W0:PW) (p:List Tm) (b:Nat->Iv) (L:List PL) (W:PW):Prop:=match L with
 | [.val (.int .i64 i),.cells l]=>∃j:Nat,i=(j:Int)/\j<=p.length/\Ext W0 W/\SpV 257 W l (Aq8 b (p.take j))
 | _=>False
def ovI (W0:PW) (t:Tm) (b:Nat->Iv) (L:List PL) (W:PW):Prop:=match L with
 | [.val (.int .i64 i),.cells l]=>∃j:Nat,i=(j:Int)/\j<=3/\Ext W0 W/\SpV 257 W l (Ci9 b t j)
 | _=>False
theorem Fl7 (d:Bd k p)(hm: ∀i,BdI m (b i))(he: ∀t∈p,∀i,mex t.1 i<=e)(c:e<=255)(f:m<=1000)(hk:k<=200000000):
  (∀j,IvS 210000000 (Aq8 b (p.take j)))/\(∀t∈p,∀j,j<=3->IvS 210000000 (Ci9 b t j))/\(∀t∈p,∀j,IvS 210000000 (Ai3 (b j) (mex t.1 j)))/\∀j,IvS 1048576 (b j):=by
 have h:=Nat.mul_le_mul (show m+1<=1001 by omega) c;have n:=Nat.mul_le_mul f c;refine⟨λ j=>((Cv6 (d.take j) hm λ t a=>he t (List.mem_of_mem_take a)).mono (by omega)).sz,λ t a j g=>((Ef7 (d.sz t a) hm (he t a) j).mono ?_).sz,λ t a j=>(((hm j).pow (mex t.1 j)).mono ?_).sz,λ j=>((hm j).mono (by omega)).sz⟩
 ·have:=Nat.mul_le_mul g (show m*e+1<=1000*255+1 by omega)
  omega
 ·have:=Nat.mul_le_mul f (Nat.le_trans (he t a j) c)
  omega
theorem Cz2 (h:Ab0 257 169 W0 s p)(C:DmV 257 W0 l b)(J:Bd k p)(hm: ∀i,BdI m (b i))(he: ∀t∈p,∀i,mex t.1 i<=e)(L:e<=255)(N:m<=1000)(hk:k<=200000000)(hl:p.length<=1073741824):
  Aa0 Tryz.prog 85 [.agg ⟨[s.v]⟩,.agg ⟨l⟩] W0 M λ v W'=>∃(r:List Value),v = .agg ⟨r⟩/\SpV 257 W' r (Aq8 b p):=by
 obtain⟨O,z2,z3,z4⟩:=Fl7 J hm he L N hk;have P:=C;obtain⟨s0,b0,t0,s1,b1,t1,s2,b2,t2,s3,b3,t3,s4,b4,t4,s5,b5,t5,rfl,_⟩:=C;apply Bz6;obtain⟨xs,Q,D⟩:=h;have ao:=D.len;refine Ba1 Q (by omega) λ s3 d E ⟨_,hO⟩=>⟨s3,rfl,?_⟩;have F:Ab0 257 169 d s3 p:=⟨xs,hO.row,D.mono λ _ _ e=>e.ext E⟩;have hn:=F.n;refine⟨ovO d p b,cn1 p.length,⟨0,rfl,Nat.zero_le _,Ext.refl _,SpV.zero d⟩,?_⟩;rintro s6 b7 s8 s9 aw ax i12 ay ⟨j,rfl,hj,f,g⟩;refine⟨λ aA=>?_,λ aB aC R=>⟨_,rfl,?_⟩⟩
 ·have n:j<p.length:=by omega
  have G:=F.ext f;have c:=List.getElem_mem n;obtain⟨S,c1,d1,c2,T,_,_,U⟩:=G.at (List.getElem?_eq_getElem n);refine⟨G.inB (by omega) (by omega),_,_,_,c1,d1,c2,T,De4 U λ r V o u=>u.out λ aD aE aF aG aH aI u=>?_⟩;refine⟨ovI V p[j] b,cn1 3,⟨0,rfl,Nat.zero_le _,Ext.refl _,u⟩,?_⟩;rintro aJ aK aL aM aN aO i36 aP ⟨v,rfl,X,a,w⟩;refine⟨λ aQ=>?_,λ aR=>?_⟩
  ·have H:v<3:=by omega
   have Y:=(P.ext (E.trans (f.trans (o.trans a))));obtain⟨Z,y1,x2,x3,y2,x4,af,ag⟩:=Y.box H;have aS:=he _ c v;refine⟨⟨by omega,by omega⟩,_,Cn5 p[j].1 H,?_⟩;rw[Dq6 S v];refine⟨λ aT=>⟨⟨by omega,by omega⟩,Z,y1,x2,x3,y2,x4,af,by unfold I64;omega,?_⟩,λ aU=>⟨by unfold I64;omega,⟨v+1,by push_cast;rfl,by omega,a,?_⟩,?_⟩⟩
   ·refine Co8 ag (z4 v) (by omega) (by omega) λ r aV I z=>z.out λ aW aX aY aZ a0 a1 z=>?_
    refine Cx4 (w.ext I) z (z2 _ c v X) (z3 _ c v) (by omega) λ r a2 ah A=>A.out λ a3 a4 a5 a6 a7 a8 A=>⟨by unfold I64;omega,⟨v+1,by push_cast;rfl,by omega,a.trans (I.trans ah),?_⟩,?_⟩
    ·rw[Ci9,if_pos (by omega)]
     exact A
    ·show 3-Int.toNat ((v:Int)+1)<3-Int.toNat (v:Int)
     omega
   ·rw[Ci9,if_neg (by omega)]
    exact w
   ·show 3-Int.toNat ((v:Int)+1)<3-Int.toNat (v:Int)
    omega
  ·have:v=3:=by omega
   subst this;refine Cy0 (g.ext (o.trans a)) w (O j) (z2 _ c 3 (Nat.le_refl _)) (by omega) λ r a9 ai B=>B.out λ ba bb bc bd be bf B=>⟨by unfold I64;omega,⟨j+1,by push_cast;rfl,by omega,f.trans (o.trans (a.trans ai)),?_⟩,?_⟩
   ·rw[List.take_succ_eq_append_getElem n,Bt2]
    exact B
   ·show p.length-Int.toNat ((j:Int)+1)<p.length-Int.toNat (j:Int)
    omega
 ·have:j=p.length:=by omega
  subst this;rw[List.take_length] at g;exact g.ext R
theorem Az5 {W:PW}{K:Value->PW->Prop}(h:Ab0 257 169 W s p)(c:DmV 257 W l b)(d:Bd k p)(hm: ∀i,BdI m (b i))(he: ∀t∈p,∀i,mex t.1 i<=e)(f:e<=255)(g:m<=1000)(hk:k<=200000000)(j:p.length<=1073741824)(n: ∀(r:List Value) (W':PW),Ext W W'->(SpV 257 W' r (Aq8 b p))->K (.agg ⟨r⟩) W'):
  Aa1 Tryz.prog W0 M 85 [.agg ⟨[s.v]⟩,.agg ⟨l⟩] W K:=
 Mi4 (λ _ a=>Cz2 (h.ext a) (c.ext a) d hm he f g hk j) fun | _,W',a,⟨r,rfl,h⟩=>n r W' a h
end Go.Proofs.YtkgeopnakkcdoaaGreatDoor
namespace Go.Proofs.YtkgeopnakkcdoaaGreatDoor
open Go Go.SX
variable {M:Nat->Prop}{W0:PW}{bs:List Iv}{k:Nat}{s:Sl}
def brI (W0:PW) (bs:List Iv) (L:List PL) (W:PW):Prop:=match L with
 | [.val (.int .i64 i)]=>∃j:Nat,i=(j:Int)/\j<=bs.length/\Ext W0 W/\∀x∈bs.take j,x.1<x.2
 | _=>False
theorem Ey3 {j:Nat}(c:j<bs.length)(h: ∀x∈bs.take j,x.1<x.2)(d:bs[j].1<bs[j].2): ∀x∈bs.take (j+1),x.1<x.2:=λ x a=>by
 rw[List.take_succ_eq_append_getElem c,List.mem_append,List.mem_singleton] at a;rcases a with a | rfl
 ·exact h x a
 ·exact d
theorem Dk1 (h:Bc3 257 W0 s bs)(hk: ∀x∈bs,IvS k x)(F:k<=1048576)(G:bs.length<=1048576):
  Aa0 Tryz.prog 136 [s.v] W0 M λ v W'=>v = .bool (decide (Cn7 bs))/\True:=by
 apply Ck4;have H:=h.n;refine⟨brI W0 bs,cn1 bs.length,⟨0,rfl,Nat.zero_le _,Ext.refl _,λ x c=>(by cases c)⟩,?_⟩;rintro i3 I ⟨j,rfl,J,f,d⟩;have g:=Bc3.ext h f;refine⟨λ L=>?_,λ N=>?_⟩
 ·have a:j<bs.length:=by omega
  obtain⟨x,c,o⟩:=g.at a;obtain⟨u,w,z,A,B,C,rfl,q1,D⟩:=c;have i:=hk _ (List.getElem_mem a);refine⟨g.inB (by omega) (by omega),u,w,z,A,B,C,o 0 rfl,Aj2 q1 D i.1 i.2 (by omega) (by omega) λ O E _=>⟨_,rfl,λ n P _=>⟨?_,trivial⟩,λ n=>⟨by unfold I64;omega,⟨j+1,by push_cast;rfl,by omega,f.trans E,Ey3 a d (At6.1 (by omega))⟩,?_⟩⟩⟩
  ·rw[decide_eq_false λ e=>Rat.not_lt.2 (El9.1 n) (e.2 _ (List.getElem_mem a))]
  ·show bs.length-Int.toNat ((j:Int)+1)<bs.length-Int.toNat (j:Int)
   omega
 ·have:j=bs.length:=by omega
  subst this;rw[List.take_length] at d;refine⟨λ h1 Q _=>⟨?_,trivial⟩,λ h1 R _=>⟨?_,trivial⟩⟩
  ·congr 1
   rw[decide_eq_decide];exact⟨λ h=>⟨⟨by omega,by omega⟩,d⟩,λ h=>by have:=h.1.2;omega⟩
  ·rw[decide_eq_false λ e=>by have:=e.1.1;omega]
theorem Cm2 {W:PW}{K:Value->PW->Prop}(h:Bc3 257 W s bs)(hk: ∀x∈bs,IvS k x)(c:k<=1048576)(d:bs.length<=1048576)(f: ∀(W':PW),Ext W W'->(True)->K (.bool (decide (Cn7 bs))) W'):
  Aa1 Tryz.prog W0 M 136 [s.v] W K:=
 Mi4 (λ _ a=>Dk1 (h.ext a) hk c d) fun | _,W',a,⟨rfl,h⟩=>f W' a h
theorem Gs7 (i:Int):Bd 4 (Dc6 i):=by
 unfold Dc6;split
 ·exact Cq4 (Sz.one (Nat.le_refl 1))
 ·exact⟨1,0,trivial,by decide,by rw[Ax0];omega,by rw[Ag9];omega⟩
theorem Gi4 (i:Int):(Dc6 i).length<=1:=by unfold Dc6;split<;>simp
def Fj5 (l:List SqP) (bs:List Iv):Prop:=Cn7 bs/\∀s∈l,0<=s.g/\s.g<=(bs.length:Int)
instance (l:List SqP) (bs:List Iv):Decidable (Fj5 l bs):=by unfold Fj5;infer_instance
end Go.Proofs.YtkgeopnakkcdoaaGreatDoor
