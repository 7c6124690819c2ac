import Derived.Test.YtkgeopnakkcdoaaGreatDoorW3
import Derived.Test.YtkgeopnakkcdoaaGreatDoorR5
import Derived.Test.YtkgeopnakkcdoaaGreatDoorLib2
import Derived.Test.YtkgeopnakkcdoaaGreatDoorW7
import Derived.Test.YtkgeopnakkcdoaaGreatDoorR7
import Derived.Test.YtkgeopnakkcdoaaGreatDoorLib4
import Derived.Test.YtkgeopnakkcdoaaGreatDoorR6
set_option linter.unusedVariables false
set_option linter.unusedSimpArgs false
set_option maxRecDepth 100000
namespace Go.Proofs.YtkgeopnakkcdoaaGreatDoor
open Go Go.SX
variable {K:Value->PW->Prop}{M:Nat->Prop}{W W0:PW}{b:Bool}{k:Nat}{q:Rat}{s t:Sl}{z:Int}
theorem Fu3 {i:Nat}(h:i<256):bits .and .i64 (i:Int) 1=((i%2:Nat):Int):=by
 have key: ∀i:Nat,i<256->bits .and .i64 (i:Int) 1=((i%2:Nat):Int):=by decide +kernel
 exact key i h
theorem Fp4 (i:Nat):Ah0 (i:Int) 1=((i/2:Nat):Int):=by
 unfold Ah0;rw[Int.fdiv_eq_ediv_of_nonneg _ (by decide)];omega
theorem Cf5 (h:nl z.natAbs<=k)(e:Nat):nl (z^e).natAbs<=k*e+1:=by
 induction e with
 | zero=>simp[Ax0]
 | succ e ih=>
  rw[Int.pow_succ,Int.natAbs_mul];have:=Ae5 (z^e).natAbs z.natAbs;rw[Nat.mul_add];omega
theorem Di0 {n:Nat}(h:Ab5 257 W0 s b z)(J:nl z.natAbs<=k)(hk:k<=1048576)(L:n<=255):
  Aa0 Tryz.prog 168 [.agg ⟨[s.v,.bool b]⟩,.int .i64 (n:Int)] W0 M λ v W'=>∃(s':Sl),∃(b':Bool),v = .agg ⟨[Sl.v s',.bool b']⟩/\Ab5 257 W' s' b' (z^n):=by
 apply Cg5;have N:mn (mx (n:Int) 0) 255=(n:Int):=by unfold mn mx;split<;>(try split)<;>omega
 rw[N];refine Bk1 (z:=1) (by unfold I64;omega) λ s3 O W2 w B=>⟨s3,O,rfl,?_⟩
 refine⟨λ l W=>match l with
  | [.val (.int .i64 i),.cells [.slice A m c,.bool x],.cells [.slice P m' Q,.bool y]]=>∃(j e f:Nat),i=(j:Int)/\Ext W0 W/\f+e*j=n/\e<=2*n+1/\j<=255/\Ab5 257 W ⟨A,m,c⟩ x (z^f)/\Ab5 257 W ⟨P,m',Q⟩ y (z^e)
  | _=>False,λ l _=>match l with | [.val (.int .i64 i),_,_]=>i.toNat | _=>0,⟨n,1,0,rfl,w,by omega,by omega,L,by simpa using B,by rw[show z^1=z by rw[Int.pow_succ,Int.pow_zero,Int.one_mul]];exact h.ext w⟩,?_⟩
 rintro C D R S i11 E ⟨j,e,f,rfl,F,G,he,hj,g,a⟩;have g:Ab5 257 E C D (z^f):=g;have a:Ab5 257 E R S (z^e):=a;have T:e*j<=n:=by omega
 refine⟨λ an=>?_,λ ao ap U=>⟨C,D,rfl,?_⟩⟩
 ·have V:1<=j:=by omega
  have aq:e<=n:=Nat.le_trans (Nat.le_mul_of_pos_right e V) T;have d: ∀x,x<=511->nl (z^x).natAbs<=68719476736:=λ x X=>by
   have h1:=Cf5 J x;have B:=Nat.mul_le_mul hk X;omega
  have ar:(e+e)*(j/2)=e*(2*(j/2)):=by rw[<-Nat.two_mul,Nat.mul_comm 2 e,Nat.mul_assoc]
  have hi:Int.toNat (Ah0 (j:Int) 1)<Int.toNat (j:Int):=by rw[Fp4];omega
  refine⟨λ Y=>?_,λ Z=>?_⟩
  ·have ho:j%2=1:=by rw[Fu3 (by omega)] at Y;omega
   have o:j=2*(j/2)+1:=by omega
   have ab:e*j=e*(2*(j/2))+e:=by conv=>lhs;rw[o,Nat.mul_add,Nat.mul_one]
   refine Ak0 g a (d f (by omega)) (d e (by omega)) λ ac ad au r ae=>⟨ac,ad,rfl,Ak0 (a.ext r) (a.ext r) (d e (by omega)) (d e (by omega)) λ af ag av H ah=>⟨af,ag,rfl,⟨j/2,e+e,f+e,by rw[Fp4],F.trans (r.trans H),by omega,by omega,by omega,?_,?_⟩,hi⟩⟩
   ·rw[Int.pow_add];exact ae.ext H
   ·rw[Int.pow_add];exact ah
  ·have ho:j%2=0:=by
    rw[Fu3 (by omega)] at Z;omega
   have o:j=2*(j/2):=by omega
   have ab:e*j=e*(2*(j/2)):=by conv=>lhs;rw[o]
   refine Ak0 a a (d e (by omega)) (d e (by omega)) λ ai aj aw I ak=>⟨ai,aj,rfl,⟨j/2,e+e,f,by rw[Fp4],F.trans I,by omega,by omega,by omega,g.ext I,?_⟩,hi⟩;rw[Int.pow_add];exact ak
 ·have:j=0:=by omega
  subst this;rw[Nat.mul_zero,Nat.add_zero] at G;rw[<-G];exact g.ext U
theorem Bd6 {n:Nat}(h:Ab5 257 W s b z)(c:nl z.natAbs<=k)(hk:k<=1048576)(d:n<=255)(e: ∀(s':Sl) (b':Bool) (W':PW),Ext W W'->(Ab5 257 W' s' b' (z^n))->K (.agg ⟨[Sl.v s',.bool b']⟩) W'):
  Aa1 Tryz.prog W0 M 168 [.agg ⟨[s.v,.bool b]⟩,.int .i64 (n:Int)] W K:=
 Mi4 (λ _ a=>Di0 (h.ext a) c hk d) fun | _,W',a,⟨s',b',rfl,h⟩=>e s' b' W' a h
theorem Eo3 (q:Rat)(n:Nat):dn (q^n)=if dn q=0\/n=0 then 0 else q.den^n:=by
 unfold dn;rw[Rat.den_pow]
 by_cases h1:q.den=1
 ·simp[h1]
 ·by_cases a:n=0
  ·subst a;simp
  ·have:q.den^n≠1:=by
    have d:=q.den_nz;obtain⟨m,rfl⟩: ∃m,n=m+1:=⟨n-1,by omega⟩;rw[Nat.pow_succ];have:1<=q.den^m:=Nat.pow_pos (by omega);have:=Nat.mul_le_mul this (show 2<=q.den by omega);omega
   have c:q.den≠0:=q.den_nz;simp[h1,a,this,c]
theorem Er1 {n:Nat}(h:Ab3 257 W0 s b t q)(a:Sz k q)(hk:k<=1048576)(i:n<=255):
  Aa0 Tryz.prog 87 [.agg ⟨[s.v,.bool b,t.v]⟩,.int .i64 (n:Int)] W0 M λ v W'=>∃(s':Sl),∃(b':Bool),∃(j:Sl),v = .agg ⟨[Sl.v s',.bool b',Sl.v j]⟩/\Ab3 257 W' s' b' j (q^n):=by
 apply Dk0;have Q:=a.dn;refine Bd6 h.1 a.1 hk i λ s3 c R m f=>⟨s3,c,rfl,Ac9 (h.2.ext m) (by omega) λ S d _=>⟨_,rfl,λ g=>⟨λ y=>?_,λ y A B=>⟨s3,c,⟨none,0,0⟩,rfl,(f.ext d).ext B,?_⟩⟩,λ g C D=>⟨s3,c,⟨none,0,0⟩,rfl,(f.ext d).ext D,?_⟩⟩⟩
 ·refine Bc0 (h.ext (m.trans d)) a (by omega) λ E F T G H=>⟨E,F,rfl,Bd6 H (by rw[Int.natAbs_natCast];exact a.2) hk i λ I J U L N=>⟨I,J,rfl,Ag5 N λ o V O r=>⟨o,rfl,λ X w=>⟨s3,c,o,rfl,(f.ext (d.trans (G.trans (L.trans O)))).ext w,?_⟩⟩⟩⟩
  have Y:dn q≠0:=λ e=>by
   rw[e] at g;simp[Aj9] at g
  have e:dn (q^n)=q.den^n:=by rw[Eo3,if_neg (by omega)]
  rw[e];have P:((q.den:Int)^n).natAbs=q.den^n:=by rw[Int.natAbs_pow,Int.natAbs_natCast]
  rw[P] at r;exact r.ext w
 ·have:n=0:=by omega
  rw[Eo3,if_pos (.inr this)];exact Ao9 A
 ·have:dn q=0:=(Ag3 (x:=dn q)).1 (by omega)
  rw[Eo3,if_pos (.inl this)];exact Ao9 C
theorem Bq4 {n:Nat}(h:Ab3 257 W s b t q)(d:Sz k q)(hk:k<=1048576)(e:n<=255)(f: ∀(s':Sl) (b':Bool) (a:Sl) (W':PW),Ext W W'->(Ab3 257 W' s' b' a (q^n))->K (.agg ⟨[Sl.v s',.bool b',Sl.v a]⟩) W'):
  Aa1 Tryz.prog W0 M 87 [.agg ⟨[s.v,.bool b,t.v]⟩,.int .i64 (n:Int)] W K:=
 Mi4 (λ _ c=>Er1 (h.ext c) d hk e) fun | _,W',c,⟨s',b',a,rfl,h⟩=>f s' b' a W' c h
end Go.Proofs.YtkgeopnakkcdoaaGreatDoor
namespace Go.Proofs.YtkgeopnakkcdoaaGreatDoor
open Go Go.SX
variable {M:Nat->Prop}{W0:PW}{b0 b1 b2:Bool}{k l:Nat}{p:List Tm}{s s0 s1 s2 t0 t1 t2:Sl}
structure Pt where
 x:Rat
 y:Rat
 z:Rat
variable {u:Pt}
def Pt.get (u:Pt) (k:Nat):Rat:=if k=0 then u.x else if k=1 then u.y else u.z
def ctm (t:Tm) (u:Pt):Nat->Rat
 | 0=>t.2
 | j+1=>ctm t u j*u.get j^(An6 t.1 j).toNat
def atQ (u:Pt) (p:List Tm):Rat:=p.foldl (λ a t=>a+ctm t u 3) 0
theorem Gs5 (u:Pt)(l:List Tm)(t:Tm):atQ u (l ++ [t])=atQ u l+ctm t u 3:=by simp[atQ]
theorem Gu9 {t:Tm}{u:Pt}{k l e:Nat}(a:Sz k t.2)(hu: ∀i,Sz l (u.get i))(he: ∀i,(An6 t.1 i).toNat<=e): ∀j,Sz (k+j*(l*e+1)) (ctm t u j)
 | 0=>by rw[Nat.zero_mul,Nat.add_zero];exact a
 | j+1=>by
  have h1:=Gu9 a hu he j;have c:=Sz.Fe7 (hu j) (An6 t.1 j).toNat;have d:=Nat.mul_le_mul_left l (he j);exact(h1.mul c).mono (by rw[Nat.add_mul,Nat.one_mul];omega)
theorem Gx6 {e:Nat}(c: ∀t∈p,Sz k t.2)(hu: ∀i,Sz l (u.get i))(he: ∀t∈p,∀i,(An6 t.1 i).toNat<=e):Sz (p.length*(k+3*(l*e+1)+1)+1) (atQ u p):=by
 have key: ∀j,j<=p.length->Sz (j*(k+3*(l*e+1)+1)+1) (atQ u (p.take j)):=by
  intro j
  induction j with
  | zero=>intro _;exact Sz.zero (by omega)
  | succ j ih=>
   intro f;have a:j<p.length:=by omega
   rw[Ce0 a,Gs5];have h1:=ih (by omega);have d:=Gu9 (c _ (List.getElem_mem a)) hu (he _ (List.getElem_mem a)) 3;refine(h1.add d).mono ?_;rw[Nat.add_mul,Nat.one_mul];omega
 have:=key p.length (Nat.le_refl _)
 rwa [List.take_length] at this
theorem Gq6 {m:Mon}(h:m.ok)(i:Nat):(An6 m i).toNat<=255:=by
 have:=Dg9 h i;omega
def atO (W0:PW) (p:List Tm) (u:Pt) (L:List PL) (W:PW):Prop:=match L with
 | [.val (.int .i64 i),.cells [.slice A m c,.bool x,.slice a m' d]]=>∃j:Nat,i=(j:Int)/\j<=p.length/\Ext W0 W/\Ab3 257 W ⟨A,m,c⟩ x ⟨a,m',d⟩ (atQ u (p.take j))
 | _=>False
def atI (a:PW) (t:Tm) (u:Pt) (L:List PL) (W:PW):Prop:=match L with
 | [.val (.int .i64 i),.cells [.slice A m c,.bool x,.slice d m' e]]=>∃j:Nat,i=(j:Int)/\j<=3/\Ext a W/\Ab3 257 W ⟨A,m,c⟩ x ⟨d,m',e⟩ (ctm t u j)
 | _=>False
theorem Gv4 (h:Ab0 257 169 W0 s p)(g0:Ab3 257 W0 s0 b0 t0 u.x)(g1:Ab3 257 W0 s1 b1 t1 u.y)(g2:Ab3 257 W0 s2 b2 t2 u.z)(A: ∀t∈p,Sz k t.2)(hu: ∀i,Sz l (u.get i))(hl:l<=100000)(hb:p.length*(k+3*(l*255+1)+1)+1<=400000000)(hk:k+3*(l*255+1)<=400000000):
  Aa0 Tryz.prog 28 [.agg ⟨[s.v]⟩,.agg ⟨[s0.v,.bool b0,t0.v,s1.v,.bool b1,t1.v,s2.v,.bool b2,t2.v]⟩] W0 M λ v W'=>∃(s':Sl),∃(b':Bool),∃(B:Sl),v = .agg ⟨[Sl.v s',.bool b',Sl.v B]⟩/\Ab3 257 W' s' b' B (atQ u p):=by
 apply Gq4;have hn:=h.n;have av:p.length<=400000000:=by
  have:=Nat.le_mul_of_pos_right p.length (show 0<k+3*(l*255+1)+1 by omega);omega
 refine⟨atO W0 p u,cn1 p.length,⟨0,rfl,by omega,Ext.refl _,Ar9 W0⟩,?_⟩;rintro s3 C D i6 E ⟨j,rfl,hj,r,a⟩;have a:Ab3 257 E s3 C D (atQ u (p.take j)):=a;refine⟨λ ax=>?_,λ ay az R=>⟨s3,C,D,rfl,?_⟩⟩
 ·have w:j<p.length:=by omega
  have F:=h.ext r;have hm:=List.getElem_mem w;obtain⟨G,c1,d1,c2,S,_,_,T⟩:=F.at (List.getElem?_eq_getElem w);have H:=λ i=>Gu9 (j:=i) (A _ hm) hu (λ i=>Gq6 G i);have U: ∀i,i<=3->k+i*(l*255+1)<=400000000:=λ i hi=>by
   have:=Nat.mul_le_mul_right (l*255+1) hi;omega
  refine⟨F.inB (by omega) (by omega),_,_,_,c1,d1,c2,S,atI E p[j] u,cn1 3,⟨0,rfl,by omega,Ext.refl _,T⟩,?_⟩;rintro V X Y i19 I ⟨m,rfl,aA,c,d⟩;have d:Ab3 257 I V X Y (ctm p[j] u m):=d;refine⟨λ aB=>?_,λ aC=>?_⟩
  ·have Z:m<3:=by omega
   have J:(0:Int)<=(m:Int)/\(m:Int)<3:=⟨by omega,by omega⟩;have aa:=Dg9 G m;have x:=r.trans c;obtain⟨f,g,o,ab,ac⟩: ∃(f:Sl) (g:Bool) (o:Sl),As9 [s0.v,.bool b0,t0.v,s1.v,.bool b1,t1.v,s2.v,.bool b2,t2.v] (0+Int.toNat (m:Int)*3+0) [f.v,.bool g,o.v]/\Ab3 257 I f g o (u.get m):=by
    rcases(by omega:m=0\/m=1\/m=2) with rfl | rfl | rfl
    ·exact⟨s0,b0,t0,⟨by simp,rfl⟩,g0.ext x⟩
    ·exact⟨s1,b1,t1,⟨by simp,rfl⟩,g1.ext x⟩
    ·exact⟨s2,b2,t2,⟨by simp,rfl⟩,g2.ext x⟩
   obtain⟨n,L⟩:=Int.eq_ofNat_of_zero_le aa.1;refine⟨J,_,Cn5 p[j].1 Z,J,f,g,o,ab,by unfold I64;omega,?_⟩;rw[L];have aD:=Nat.mul_le_mul_left l (by omega:n<=255);refine Bq4 ac (hu m) (by omega) (by omega) λ ad ae af aE N ag=>⟨ad,ae,af,rfl,Ak9 (d.ext N) ag (H m) (Sz.Fe7 (hu m) n) (by have:=U m (by omega);omega) (by omega) λ O P Q ah ai aj=>⟨O,P,Q,rfl,by unfold I64;omega,⟨m+1,by push_cast;rfl,by omega,c.trans (N.trans ai),?_⟩,?_⟩⟩
   ·show Ab3 257 ah O P Q (ctm p[j] u m*u.get m^(An6 p[j].1 m).toNat)
    rw[L];exact aj
   ·show 3-Int.toNat ((m:Int)+1)<3-Int.toNat (m:Int)
    omega
  ·have:m=3:=by omega
   subst this;have ak:=Gx6 (u:=u) (p:=p.take j) (k:=k) (l:=l) (e:=255) (λ t y=>A t (List.mem_of_mem_take y)) hu (λ t y i=>Gq6 (h.ok t (List.mem_of_mem_take y)) i);have aF:(p.take j).length*(k+3*(l*255+1)+1)<=p.length*(k+3*(l*255+1)+1):=Nat.mul_le_mul_right _ (by rw[List.length_take];omega);refine At2 (a.ext c) d ak (H 3) (by omega) (by omega) λ al am an aG ao ap=>⟨al,am,an,rfl,by unfold I64;omega,⟨j+1,by push_cast;rfl,by omega,r.trans (c.trans ao),?_⟩,?_⟩
   ·rw[Ce0 w,Gs5]
    exact ap
   ·show p.length-Int.toNat ((j:Int)+1)<p.length-Int.toNat (j:Int)
    omega
 ·have:j=p.length:=by omega
  subst this;rw[List.take_length] at a;exact a.ext R
theorem Gr5 {W:PW}{K:Value->PW->Prop}(h:Ab0 257 169 W s p)(g0:Ab3 257 W s0 b0 t0 u.x)(g1:Ab3 257 W s1 b1 t1 u.y)(g2:Ab3 257 W s2 b2 t2 u.z)(d: ∀t∈p,Sz k t.2)(hu: ∀i,Sz l (u.get i))(e:l<=100000)(f:p.length*(k+3*(l*255+1)+1)+1<=400000000)(hk:k+3*(l*255+1)<=400000000)(g: ∀(s':Sl) (b':Bool) (c:Sl) (W':PW),Ext W W'->(Ab3 257 W' s' b' c (atQ u p))->K (.agg ⟨[Sl.v s',.bool b',Sl.v c]⟩) W'):
  Aa1 Tryz.prog W0 M 28 [.agg ⟨[s.v]⟩,.agg ⟨[s0.v,.bool b0,t0.v,s1.v,.bool b1,t1.v,s2.v,.bool b2,t2.v]⟩] W K:=
 Mi4 (λ _ a=>Gv4 (h.ext a) (g0.ext a) (g1.ext a) (g2.ext a) d hu e f hk) fun | _,W',a,⟨s',b',c,rfl,h⟩=>g s' b' c W' a h
end Go.Proofs.YtkgeopnakkcdoaaGreatDoor
namespace Go.Proofs.YtkgeopnakkcdoaaGreatDoor
open Go Go.SX
def Gk4 (e:Int) (p:List Tm):Prop:=∀t∈p,t.1.ok/\t.1.x<=e/\t.1.y<=e/\t.1.z<=e
end Go.Proofs.YtkgeopnakkcdoaaGreatDoor
namespace Go.Proofs.YtkgeopnakkcdoaaGreatDoor
open Go Go.SX
end Go.Proofs.YtkgeopnakkcdoaaGreatDoor
namespace Go.Proofs.YtkgeopnakkcdoaaGreatDoor
open Go Go.SX
end Go.Proofs.YtkgeopnakkcdoaaGreatDoor
namespace Go.Proofs.YtkgeopnakkcdoaaGreatDoor
open Go Go.SX
end Go.Proofs.YtkgeopnakkcdoaaGreatDoor
namespace Go.Proofs.YtkgeopnakkcdoaaGreatDoor
open Go Go.SX
end Go.Proofs.YtkgeopnakkcdoaaGreatDoor
namespace Go.Proofs.YtkgeopnakkcdoaaGreatDoor
open Go Go.SX
def evM (u:Pt) (m:Mon):Rat:=u.get 0^(An6 m 0).toNat*u.get 1^(An6 m 1).toNat*u.get 2^(An6 m 2).toNat
theorem Ha1 (t:Tm)(u:Pt):ctm t u 3=t.2*evM u t.1:=by
 simp only[ctm,evM,Rat.mul_assoc]
theorem Gf3 (u:Pt)(p:List Tm):atQ u p=lin (evM u) p:=by
 have key: ∀(p:List Tm) (a:Rat),p.foldl (λ a t=>a+ctm t u 3) a=a+lin (evM u) p:=by
  intro p
  induction p with
  | nil=>intro a;simp[lin,Rat.add_zero]
  | cons t r ih=>
   intro a;rw[List.foldl_cons,ih,lin,Ha1,Rat.add_assoc]
 rw[atQ,key,Rat.zero_add]
end Go.Proofs.YtkgeopnakkcdoaaGreatDoor
namespace Go.Proofs.YtkgeopnakkcdoaaGreatDoor
open Go Go.SX
theorem Gw0 (u:Pt)(p q:List Tm):atQ u (p ++ q)=atQ u p+atQ u q:=by rw[Gf3,Gf3,Gf3,Gl3]
theorem Gy3 (u:Pt)(p:List Tm)(r:Rat):atQ u (pmap p r)=r*atQ u p:=by rw[Gf3,Gf3];exact Gs4 _ r p
theorem Gn5 (u:Pt)(p:List Tm):atQ u (Ag2 p)=atQ u p:=by rw[Gf3,Gf3,Gi6]
theorem Gz3 {i:Nat}(u:Pt)(hi:i<3):atQ u (Dc6 (i:Int))=u.get i:=by
 have e:Dc6 (i:Int) = [(Da3 i,1)]:=by unfold Dc6;rw[if_pos ⟨by omega,by omega⟩,Int.toNat_natCast]
 rw[e];show 0+1*u.get 0^(An6 (Da3 i) 0).toNat*u.get 1^(An6 (Da3 i) 1).toNat*u.get 2^(An6 (Da3 i) 2).toNat=u.get i;rcases(by omega:i=0\/i=1\/i=2) with rfl | rfl | rfl
 ·show 0+1*u.get 0^1*u.get 1^0*u.get 2^0=u.get 0
  simp only[Rat.pow_zero,Rat.pow_succ];grind
 ·show 0+1*u.get 0^0*u.get 1^1*u.get 2^0=u.get 1
  simp only[Rat.pow_zero,Rat.pow_succ];grind
 ·show 0+1*u.get 0^0*u.get 1^0*u.get 2^1=u.get 2
  simp only[Rat.pow_zero,Rat.pow_succ];grind
end Go.Proofs.YtkgeopnakkcdoaaGreatDoor
