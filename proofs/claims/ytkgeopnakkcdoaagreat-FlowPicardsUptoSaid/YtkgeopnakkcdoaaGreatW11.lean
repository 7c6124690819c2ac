import Derived.Test.YtkgeopnakkcdoaaGreatW7
import Derived.Test.YtkgeopnakkcdoaaGreatR6
import Derived.Test.YtkgeopnakkcdoaaGreatW10
import Derived.Test.YtkgeopnakkcdoaaGreatLib4
import Derived.Test.YtkgeopnakkcdoaaGreatLib5
import Derived.Test.YtkgeopnakkcdoaaGreatW9
import Derived.Test.YtkgeopnakkcdoaaGreatR9
import Derived.Test.YtkgeopnakkcdoaaGreatW8
import Derived.Test.YtkgeopnakkcdoaaGreatW6
import Derived.Test.YtkgeopnakkcdoaaGreatW5
import Derived.Test.YtkgeopnakkcdoaaGreatR10
set_option linter.unusedVariables false
set_option linter.unusedSimpArgs false
set_option maxRecDepth 100000
namespace Go.Proofs.YtkgeopnakkcdoaaGreat
open Go Go.SX
variable {M:Nat->Prop}{W0:PW}{p:List Tm}{s:Sl}
def Fv8 (i:Int) (m:Mon):Int:=if 0<=i/\i<3 then An6 m i.toNat else 0
def Fw5 (W0:PW) (p:List Tm) (i:Int) (L:List PL) (W:PW):Prop:=match L with
 | [.val (.int .i64 a),.val (.int .i64 k)]=>∃j:Nat,k=(j:Int)/\j<=p.length/\Ext W0 W/\a=Fd0 (Fv8 i) 0 (p.take j)
 | _=>False
def Fv5 (p:List Tm) (L:List PL) (_:PW):Nat:=match L with
 | [_,.val (.int .i64 k)]=>p.length-k.toNat
 | _=>0
def Fw1 (W0:PW) (p:List Tm) (L:List PL) (W:PW):Prop:=match L with
 | [.val (.int .i64 a),.val (.int .i64 k)]=>∃j:Nat,k=(j:Int)/\j<=p.length/\Ext W0 W/\a=Fd0 Cx8 0 (p.take j)
 | _=>False
theorem Dd3 (h:Ab0 214 180 W0 s p)(r:p.length<=1099511627776):
  Aa0 Tryz.prog 86 [.agg ⟨[s.v]⟩] W0 M λ v W'=>v = .int .i64 (Fd0 Cx8 0 p)/\True:=by
 apply Cn0;have w:=h.n;refine⟨Fw1 W0 p,Fv5 p,⟨0,rfl,by omega,Ext.refl _,rfl⟩,?_⟩;rintro i3 i4 z ⟨j,rfl,A,a,rfl⟩;refine⟨λ B=>?_,λ C e _=>⟨?_,trivial⟩⟩
 ·have c:j<p.length:=by omega
  have d:=h.ext a;obtain⟨g,c1,d1,c2,i,_,_,D⟩:=d.at (List.getElem?_eq_getElem c);have n:p.length-Int.toNat ((j:Int)+1)<p.length-Int.toNat (j:Int):=by omega
  refine⟨d.inB (by omega) (by omega),_,_,_,c1,d1,c2,i,Cj8 g λ e o _=>⟨_,rfl,by unfold I64;omega,⟨j+1,by push_cast;rfl,by omega,a.trans o,by rw[Ce0 c,Em4]⟩,n⟩⟩
 ·have:j=p.length:=by omega
  subst this;rw[List.take_length]
theorem Co3 {W:PW}{K:Value->PW->Prop}(h:Ab0 214 180 W s p)(c:p.length<=1099511627776)(d: ∀(W':PW),Ext W W'->(True)->K (.int .i64 (Fd0 Cx8 0 p)) W'):
  Aa1 Tryz.prog W0 M 86 [.agg ⟨[s.v]⟩] W K:=
 Mi4 (λ _ a=>Dd3 (h.ext a) c) fun | _,W',a,⟨rfl,h⟩=>d W' a h
end Go.Proofs.YtkgeopnakkcdoaaGreat
namespace Go.Proofs.YtkgeopnakkcdoaaGreat
open Go Go.SX
end Go.Proofs.YtkgeopnakkcdoaaGreat
namespace Go.Proofs.YtkgeopnakkcdoaaGreat
open Go Go.SX
variable {M:Nat->Prop}{W0:PW}{k:Nat}{l2:List Value}{x y:Iv}
instance (x y:Iv):Decidable (Ft1 x y):=by unfold Ft1;infer_instance
theorem Fz5 {l1:List Value}(h1:SpV 214 W0 l1 x)(a:SpV 214 W0 l2 y)(c:IvS k x)(d:IvS k y)(hk:k<=8589934592):
  Aa0 Tryz.prog 61 [.agg ⟨l1⟩,.agg ⟨l2⟩] W0 M λ v W'=>v = .bool (decide (Ft1 x y))/\True:=by
 obtain⟨s0,b0,t0,s1,b1,t1,rfl,h1,i⟩:=h1;obtain⟨s2,b2,t2,s3,n,t3,rfl,a,j⟩:=a;apply Fy3;refine Aj2 a h1 d.1 c.1 (by omega) (by omega) λ o g _=>⟨_,rfl,λ h=>Aj2 (i.ext g) (j.ext g) c.2 d.2 (by omega) (by omega) λ r w _=>⟨_,rfl,λ z A=>⟨?_,trivial⟩⟩,λ h B C=>⟨?_,trivial⟩⟩
 ·have h:=Dn3.1 h
  congr 1;rw[decide_eq_decide,Dn3];exact⟨λ e=>⟨h,e⟩,λ e=>e.2⟩
 ·rw[decide_eq_false λ e=>h (Dn3.2 e.1)]
theorem Fx1 {W:PW}{K:Value->PW->Prop}{l1:List Value}(h1:SpV 214 W l1 x)(c:SpV 214 W l2 y)(d:IvS k x)(e:IvS k y)(hk:k<=8589934592)(g: ∀(W':PW),Ext W W'->(True)->K (.bool (decide (Ft1 x y))) W'):
  Aa1 Tryz.prog W0 M 61 [.agg ⟨l1⟩,.agg ⟨l2⟩] W K:=
 Mi4 (λ _ a=>Fz5 (h1.ext a) (c.ext a) d e hk) fun | _,W',a,⟨rfl,h⟩=>g W' a h
def An3 (p:List Tm) (bs:List Iv):Prop:=Cn7 bs/\Fd0 Cx8 0 p<=(bs.length:Int)
instance (p:List Tm) (bs:List Iv):Decidable (An3 p bs):=by unfold An3;infer_instance
end Go.Proofs.YtkgeopnakkcdoaaGreat
namespace Go.Proofs.YtkgeopnakkcdoaaGreat
open Go Go.SX
end Go.Proofs.YtkgeopnakkcdoaaGreat
namespace Go.Proofs.YtkgeopnakkcdoaaGreat
open Go Go.SX
variable {K:Value->PW->Prop}{M:Nat->Prop}{W W0:PW}{m:Mon}{p:List Tm}{s:Sl}
def mvI (m:Mon) (L:List PL):Prop:=match L with
 | [.val (.int .i64 a),.val (.int .i64 i)]=>∃k:Nat,i=(k:Int)/\k<=3/\a=(if 2<k/\0<m.z then 3 else if 1<k/\0<m.y then 2 else if 0<k/\0<m.x then 1 else 0)
 | _=>False
theorem Gk7 (hm:m.ok):
  Aa0 Tryz.prog 150 [.agg ⟨[.int .u8 m.x,.int .u8 m.y,.int .u8 m.z]⟩] W0 M λ v W'=>v = .int .i64 (Cx8 m)/\True:=by
 apply Gh2;refine⟨λ L _=>mvI m L,λ L _=>match L with | [_,.val (.int .i64 i)]=>3-i.toNat | _=>0,⟨0,rfl,by omega,rfl⟩,?_⟩;rintro i3 i4 e ⟨k,rfl,hk,rfl⟩;refine⟨λ g=>?_,λ j n _=>⟨?_,trivial⟩⟩
 ·have d:k<3:=by omega
  have c:3-Int.toNat ((k:Int)+1)<3-Int.toNat (k:Int):=by omega
  refine⟨⟨by omega,by omega⟩,_,Aw0 m d _ _ _ rfl rfl rfl,λ a=>⟨by unfold I64;omega,by unfold I64;omega,⟨k+1,by push_cast;rfl,by omega,?_⟩,c⟩,λ a=>⟨by unfold I64;omega,⟨k+1,by push_cast;rfl,by omega,?_⟩,c⟩⟩
  all_goals
   rcases(by omega:k=0\/k=1\/k=2) with rfl | rfl | rfl<;>simp[An6] at a⊢<;>(try simp[a])<;>(repeat' split)<;>first | rfl | omega
 ·have:k=3:=by omega
  subst this;congr 1;unfold Cx8
  (repeat' split)<;>first | rfl | omega
theorem Gh7 (hm:m.ok)(c: ∀(W':PW),Ext W W'->(True)->K (.int .i64 (Cx8 m)) W'):
  Aa1 Tryz.prog W0 M 150 [.agg ⟨[.int .u8 m.x,.int .u8 m.y,.int .u8 m.z]⟩] W K:=
 Mi4 (λ _ a=>Gk7 hm) fun | _,W',a,⟨rfl,h⟩=>c W' a h
def rdI (w:Mon->Int) (n:Int) (W0:PW) (p:List Tm) (L:List PL) (W:PW):Prop:=match L with
 | [.val (.int .i64 a),.val (.int .i64 k)]=>∃j:Nat,k=(j:Int)/\j<=p.length/\Ext W0 W/\a=Fd0 w n (p.take j)
 | _=>False
theorem Kd1 (h:Ag1 214 119 W0 s p)(r:p.length<=1099511627776):
  Aa0 Tryz.prog 9 [s.v] W0 M λ v W'=>v = .int .i64 (Fd0 Mon.deg (-1) p)/\True:=by
 apply Ka2;have w:=h.n;refine⟨rdI Mon.deg (-1) W0 p,Fv5 p,⟨0,rfl,by omega,Ext.refl _,rfl⟩,?_⟩;rintro i3 i4 z ⟨j,rfl,A,a,rfl⟩;refine⟨λ B=>?_,λ C e _=>⟨?_,trivial⟩⟩
 ·have c:j<p.length:=by omega
  have d:=h.ext a;obtain⟨g,c1,d1,c2,_,i,_,D⟩:=d.at (List.getElem?_eq_getElem c);have n:p.length-Int.toNat ((j:Int)+1)<p.length-Int.toNat (j:Int):=by omega
  exact⟨d.inB (by omega) (by omega),_,_,_,i,Al9 g λ e o _=>⟨_,rfl,by unfold I64;omega,⟨j+1,by push_cast;rfl,by omega,a.trans o,by rw[Ce0 c,Em4]⟩,n⟩⟩
 ·have:j=p.length:=by omega
  subst this;rw[List.take_length]
theorem Ka5 (h:Ag1 214 119 W s p)(c:p.length<=1099511627776)(d: ∀(W':PW),Ext W W'->(True)->K (.int .i64 (Fd0 Mon.deg (-1) p)) W'):
  Aa1 Tryz.prog W0 M 9 [s.v] W K:=
 Mi4 (λ _ a=>Kd1 (h.ext a) c) fun | _,W',a,⟨rfl,h⟩=>d W' a h
theorem Gk8 (h:Ag1 214 119 W0 s p)(r:p.length<=1099511627776):
  Aa0 Tryz.prog 106 [s.v] W0 M λ v W'=>v = .int .i64 (Fd0 Cx8 0 p)/\True:=by
 apply Gh3;have w:=h.n;refine⟨rdI Cx8 0 W0 p,Fv5 p,⟨0,rfl,by omega,Ext.refl _,rfl⟩,?_⟩;rintro i3 i4 z ⟨j,rfl,A,a,rfl⟩;refine⟨λ B=>?_,λ C e _=>⟨?_,trivial⟩⟩
 ·have c:j<p.length:=by omega
  have d:=h.ext a;obtain⟨g,c1,d1,c2,_,i,_,D⟩:=d.at (List.getElem?_eq_getElem c);have n:p.length-Int.toNat ((j:Int)+1)<p.length-Int.toNat (j:Int):=by omega
  exact⟨d.inB (by omega) (by omega),_,_,_,i,Gh7 g λ e o _=>⟨_,rfl,by unfold I64;omega,⟨j+1,by push_cast;rfl,by omega,a.trans o,by rw[Ce0 c,Em4]⟩,n⟩⟩
 ·have:j=p.length:=by omega
  subst this;rw[List.take_length]
theorem Gi0 (h:Ag1 214 119 W s p)(c:p.length<=1099511627776)(d: ∀(W':PW),Ext W W'->(True)->K (.int .i64 (Fd0 Cx8 0 p)) W'):
  Aa1 Tryz.prog W0 M 106 [s.v] W K:=
 Mi4 (λ _ a=>Gk8 (h.ext a) c) fun | _,W',a,⟨rfl,h⟩=>d W' a h
end Go.Proofs.YtkgeopnakkcdoaaGreat
namespace Go.Proofs.YtkgeopnakkcdoaaGreat
open Go Go.SX
end Go.Proofs.YtkgeopnakkcdoaaGreat
namespace Go.Proofs.YtkgeopnakkcdoaaGreat
open Go Go.SX
variable {M:Nat->Prop}{W0:PW}{bs:List Iv}
def Hs8 (W0:PW) (bs:List Iv) (L:List PL) (W:PW):Prop:=match L with
 | [.val (.int .i64 i),.cells l]=>∃j:Nat,i=(j:Int)/\j<=bs.length/\j<=3/\Ext W0 W/\Cf1 214 W l (Bm3 (bs.take j))
 | _=>False
theorem Hk2 {sb:Sl}(A:Fx4 214 W0 sb bs)(hl:bs.length<=1048576):
  Aa0 Tryz.prog 41 [sb.v] W0 M λ v W'=>∃(l:List Value),v = .agg ⟨l⟩/\Cf1 214 W' l (Bm3 bs):=by
 apply Hf3;have hn:=A.n;refine Ak1 (z:=0) (by unfold I64;omega) λ F s4 G W2 H I=>⟨F,s4,G,rfl,Bd0 I λ r W7 J d=>d.out λ b8 s9 au av aw ax d=>?_⟩;refine Ak1 (z:=0) (by unfold I64;omega) λ L N O ay P Q=>⟨L,N,O,rfl,Bd0 Q λ r az R g=>g.out λ aA aB aC aD aE aF g=>?_⟩;refine Ak1 (z:=0) (by unfold I64;omega) λ S T U aG V X=>⟨S,T,U,rfl,Bd0 X λ r Y Z i=>i.out λ aH aI aJ aK aL aM i=>?_⟩;have B:=V.trans Z;have C:=P.trans (R.trans B);refine⟨Hs8 Y bs,cn1 bs.length,⟨0,rfl,Nat.zero_le _,Nat.zero_le _,Ext.refl _,Cf1.mk (d.ext C) (g.ext B) i⟩,?_⟩;rintro aN aO aP aQ aR aS aT aU aV aW aX aY aZ a0 a1 a2 a3 a4 i60 a5 ⟨j,rfl,hj,a7,c,n⟩;obtain⟨d0,d1,d2⟩:=n.three;have aa:=H.trans (J.trans (C.trans c));refine⟨λ a8=>⟨λ h3=>?_,λ h3 a9 ac=>⟨_,rfl,(n.congr (Hl8 (.inr (by omega)))).ext ac⟩⟩,λ ba bb ad=>⟨_,rfl,(n.congr (Hl8 (.inl (by omega)))).ext ad⟩⟩;have D:j<bs.length:=by omega
 have E:=A.ext aa;obtain⟨x,⟨ae,af,ag,ah,ai,aj,rfl,q1,q2⟩,al⟩:=E.at D;have o:=Ah6.mk q1 q2;have w:bs.length-Int.toNat ((j:Int)+1)<bs.length-Int.toNat (j:Int):=by omega
 have a:=Hk0 D;refine⟨E.inB (by omega) (by omega),ae,af,ag,ah,ai,aj,al 0 rfl,⟨by omega,by omega⟩,by omega,⟨⟨trivial,λ e=>?_⟩,λ e=>?_⟩,λ e=>?_⟩
 ·have:j=0:=by omega
  subst this;exact⟨by unfold I64;omega,⟨1,rfl,by omega,by omega,c,Cf1.mk (by rw[a,if_pos rfl];exact o) (by rw[a,if_neg (by omega)];exact d1) (by rw[a,if_neg (by omega)];exact d2)⟩,w⟩
 ·have:j=1:=by omega
  subst this;exact⟨by unfold I64;omega,⟨2,rfl,by omega,by omega,c,Cf1.mk (by rw[a,if_neg (by omega)];exact d0) (by rw[a,if_pos rfl];exact o) (by rw[a,if_neg (by omega)];exact d2)⟩,w⟩
 ·have:j=2:=by omega
  subst this;exact⟨by unfold I64;omega,⟨3,rfl,by omega,by omega,c,Cf1.mk (by rw[a,if_neg (by omega)];exact d0) (by rw[a,if_neg (by omega)];exact d1) (by rw[a,if_pos rfl];exact o)⟩,w⟩
theorem Hd2 {W:PW}{K:Value->PW->Prop}{sb:Sl}(c:Fx4 214 W sb bs)(d:bs.length<=1048576)(e: ∀(l:List Value) (W':PW),Ext W W'->(Cf1 214 W' l (Bm3 bs))->K (.agg ⟨l⟩) W'):
  Aa1 Tryz.prog W0 M 41 [sb.v] W K:=
 Mi4 (λ _ a=>Hk2 (c.ext a) d) fun | _,W',a,⟨l,rfl,h⟩=>e l W' a h
end Go.Proofs.YtkgeopnakkcdoaaGreat
namespace Go.Proofs.YtkgeopnakkcdoaaGreat
open Go Go.SX
variable {K:Value->PW->Prop}{M:Nat->Prop}{W W0:PW}{b:Bool}{h:Rat}{s t u:Sl}{x:List Iv}
def pdB (x:List Iv) (h:Rat) (i:Nat):Iv:=if i=2 then(0,h) else Bm3 x i
def Ll7 (x:List Iv) (h:Rat) (n:Int):Prop:=Cn7 x/\x.length<=2/\0<h/\Fc6 (pdB x h) n
instance (x:List Iv) (h:Rat) (n:Int):Decidable (Ll7 x h n):=by unfold Ll7;infer_instance
theorem Mf5 (a: ∀y∈x,IvS 4 y)(c:Sz 4 h)(i:Nat):IvS 9 (pdB x h i):=by
 unfold pdB;split
 ·exact⟨Sz.zero (by omega),c.mono (by omega)⟩
 ·exact(Ep8 a i).sz
theorem Lw8 {n:Int}(c:Bc3 214 W0 s x)(a:Ab3 214 W0 u b t h)(H: ∀y∈x,IvS 4 y)(lx:x.length<=5)(I:Sz 4 h):
  Aa0 Tryz.prog 11 [s.v,.agg ⟨[u.v,.bool b,t.v]⟩,.int .i64 n] W0 M λ v W'=>∃(l:List Value),v = .tuple ⟨[.agg ⟨l⟩,.bool (decide (Ll7 x h n))]⟩/\Lm6 214 W' l (if Ll7 x h n then pdB x h else λ _=>(0,0)) (if Ll7 x h n then n else 0):=by
 apply Lr8;have n1:=c.n;have no:¬Ll7 x h n->∀W':PW,∃l:List Value,(Value.tuple ⟨[.agg ⟨[.slice none 0 0,.bool false,.slice none 0 0,.slice none 0 0,.bool false,.slice none 0 0,.slice none 0 0,.bool false,.slice none 0 0,.slice none 0 0,.bool false,.slice none 0 0,.slice none 0 0,.bool false,.slice none 0 0,.slice none 0 0,.bool false,.slice none 0 0,.int .i64 0]⟩,.bool false]⟩) = .tuple ⟨[.agg ⟨l⟩,.bool (decide (Ll7 x h n))]⟩/\Lm6 214 W' l (if Ll7 x h n then pdB x h else λ _=>(0,0)) (if Ll7 x h n then n else 0):=λ d W'=>⟨_,by rw[decide_eq_false d],by rw[if_neg d,if_neg d];exact Lm6.zero W' 0⟩;refine Cm2 c H (by omega) (by omega) λ W2 J _=>⟨_,rfl,λ b1 P _=>no (λ ok=>by simp[ok.1] at b1) P,λ b1=>⟨λ Q R _=>no (λ ok=>by have:=ok.2.1;omega) R,λ Q=>?_⟩⟩;have b1:Cn7 x:=by simpa using b1
 refine Bk6 (a.ext J) I (by omega) λ g S _=>⟨_,rfl,λ T U _=>no (λ ok=>by have:=Al3.2 ok.2.2.1;omega) U,λ T=>?_⟩;have L:=J.trans S;have a:=a.ext L;obtain⟨ys,⟨ty,N⟩,V⟩:=c.ext L;have hlen:=(Ey4 N 3).2;obtain⟨s0,b0,t0,s1,ag,t1,s2,b2,t2,s3,b3,t3,s4,b4,t4,s5,b5,t5,e,X,Y,k3⟩:=Br4 V;have i:=Dr9 (List.take 3 ys).flatten [] z18 [.int .i64 n] 0 (by
  rw[hlen];have:Nat.min s.n 3<=3:=Nat.min_le_right _ _;show 0+Nat.min s.n 3*6<=18;omega)
 rw[e] at i;refine⟨ys,⟨ty,N⟩,(congrArg (Ai7 _) i).trans rfl,λ j o r w z A B C D E F G am an ao ap aq ar i29 he=>?_⟩;have he:=he.trans i;simp only[List.nil_append,List.cons_append,List.cons.injEq,Value.bool.injEq,Value.int.injEq,and_true,true_and] at he;obtain⟨f0,rfl,f1,f2,rfl,f3,f4,rfl,f5,f6,rfl,f7,f8,rfl,f9,f10,rfl,f11,rfl⟩:=he;obtain rfl:=Sl.Ck0 f0;obtain rfl:=Sl.Ck0 f1;obtain rfl:=Sl.Ck0 f2;obtain rfl:=Sl.Ck0 f3;obtain rfl:=Sl.Ck0 f4;obtain rfl:=Sl.Ck0 f5;obtain rfl:=Sl.Ck0 f6;obtain rfl:=Sl.Ck0 f7;have Z:SpV 214 g [.slice none 0 0,.bool false,.slice none 0 0,u.v,.bool b,t.v] ((0:Rat),h):=SpV.mk (s:=⟨none,0,0⟩) (t:=⟨none,0,0⟩) (x:=((0:Rat),h)) (Ar9 g) a;have O:Lm6 214 g [j.v,.bool o,r.v,w.v,.bool z,A.v,B.v,.bool C,D.v,E.v,.bool F,G.v,.slice none 0 0,.bool false,.slice none 0 0,u.v,.bool b,t.v,.int .i64 i29] (pdB x h) i29:=
  Lm6.mk (l:=[j.v,.bool o,r.v,w.v,.bool z,A.v,B.v,.bool C,D.v,E.v,.bool F,G.v,.slice none 0 0,.bool false,.slice none 0 0,u.v,.bool b,t.v]) ⟨j,o,r,w,z,A,B,C,D,E,F,G,⟨none,0,0⟩,false,⟨none,0,0⟩,u,b,t,rfl,X,Y,Z⟩
 refine⟨⟨by omega,by omega⟩,Ll8 O (Mf5 H I) (by omega) λ au aa _=>⟨_,rfl,λ b2 ab _=>no (λ ok=>by simp[ok.2.2.2] at b2) ab,λ b2 av ac=>?_⟩⟩;have ok:Ll7 x h i29:=⟨b1,by omega,Al3.1 (by omega),by simpa using b2⟩;exact⟨_,by rw[decide_eq_true ok],by rw[if_pos ok,if_pos ok];exact O.ext (aa.trans ac)⟩
theorem Lr5 {n:Int}(c:Bc3 214 W s x)(d:Ab3 214 W u b t h)(e: ∀y∈x,IvS 4 y)(g:x.length<=5)(i:Sz 4 h)(j: ∀(l:List Value) (W':PW),Ext W W'->(Lm6 214 W' l (if Ll7 x h n then pdB x h else λ _=>(0,0)) (if Ll7 x h n then n else 0))->K (.tuple ⟨[.agg ⟨l⟩,.bool (decide (Ll7 x h n))]⟩) W'):
  Aa1 Tryz.prog W0 M 11 [s.v,.agg ⟨[u.v,.bool b,t.v]⟩,.int .i64 n] W K:=
 Mi4 (λ _ a=>Lw8 (c.ext a) (d.ext a) e g i) fun | _,W',a,⟨l,rfl,h⟩=>j l W' a h
theorem Lu0 {n:Int}(H:Fx4 214 W0 s x)(N:Ab6 214 W0 b u t h)(O: ∀y∈x,IvS 4 y)(lx:x.length<=5)(U:Sz 4 h):
  Aa0 Tryz.prog 12 [s.v,.agg ⟨[.bool b,u.v,t.v]⟩,.int .i64 n] W0 M λ v W'=>∃(l:List Value),∃(a:Nat->Iv),∃(c:Int),v = .tuple ⟨[.agg ⟨l⟩,.bool (decide (Ll7 x h n))]⟩/\Ll5 214 W' l a c/\(Ll7 x h n->a=pdB x h/\c=n):=by
 apply Lp7;have n1:=H.n;have no:¬Ll7 x h n->∀W':PW,∃(l:List Value) (a:Nat->Iv) (c:Int),(Value.tuple ⟨[.agg ⟨[.bool false,.slice none 0 0,.slice none 0 0,.bool false,.slice none 0 0,.slice none 0 0,.bool false,.slice none 0 0,.slice none 0 0,.bool false,.slice none 0 0,.slice none 0 0,.bool false,.slice none 0 0,.slice none 0 0,.bool false,.slice none 0 0,.slice none 0 0,.int .i64 0]⟩,.bool false]⟩) = .tuple ⟨[.agg ⟨l⟩,.bool (decide (Ll7 x h n))]⟩/\Ll5 214 W' l a c/\(Ll7 x h n->a=pdB x h/\c=n):=λ P W'=>⟨_,λ _=>(0,0),0,by rw[decide_eq_false P],Ll5.zero W' 0,λ ok=>absurd ok P⟩;refine He1 H O (by omega) (by omega) λ W2 Q _=>⟨_,rfl,λ b1 V _=>no (λ ok=>by simp[ok.1] at b1) V,λ b1=>⟨λ X Y _=>no (λ ok=>by have:=ok.2.1;omega) Y,λ X=>?_⟩⟩;have b1:Cn7 x:=by simpa using b1
 refine Aq7 (N.ext Q).1 λ W7 Z _=>⟨_,rfl,λ I W9 _=>no (λ ok=>by rw[Bo6] at I;have:=Al3.2 ok.2.2.1;omega) W9,λ I=>?_⟩;rw[Bo6] at I;have R:=Q.trans Z;refine Hd2 (H.ext R) (by omega) λ l au ab J=>?_;obtain⟨i,j,o,r,w,A,B,C,D,E,F,G,ac,ad,ae,af,ag,ah,rfl,k1,k2,k3⟩:=J;refine⟨i,j,o,r,w,A,B,C,D,E,F,G,ac,ad,ae,af,ag,ah,rfl,?_⟩;refine Ak1 (z:=0) (by unfold I64;omega) λ d e g S L ak=>⟨d,e,g,rfl,⟨by omega,by omega⟩,?_⟩;have hS:Ah6 214 S [.bool d,e.v,g.v,.bool b,u.v,t.v] ((0:Rat),h):=Ah6.mk (x:=((0:Rat),h)) ak (N.ext (R.trans (ab.trans L)));have T:Ll5 214 S [.bool i,j.v,o.v,.bool r,w.v,A.v,.bool B,C.v,D.v,.bool E,F.v,G.v,.bool d,e.v,g.v,.bool b,u.v,t.v,.int .i64 n] (pdB x h) n:=
  Ll5.mk (l:=[.bool i,j.v,o.v,.bool r,w.v,A.v,.bool B,C.v,D.v,.bool E,F.v,G.v,.bool d,e.v,g.v,.bool b,u.v,t.v]) ⟨i,j,o,r,w,A,B,C,D,E,F,G,d,e,g,b,u,t,rfl,k1.ext L,k2.ext L,hS⟩
 refine Ll2 T (Mf5 O U) (by omega) λ aw am _=>⟨_,rfl,λ ax an=>⟨_,pdB x h,n,?_,T.ext (am.trans an),λ _=>⟨rfl,rfl⟩⟩⟩;have:decide (Fc6 (pdB x h) n)=decide (Ll7 x h n):=by
  rw[decide_eq_decide];exact⟨λ J=>⟨b1,by omega,Al3.1 (by omega),J⟩,λ ok=>ok.2.2.2⟩
 rw[this]
theorem Lr0 {n:Int}(e:Fx4 214 W s x)(g:Ab6 214 W b u t h)(i: ∀y∈x,IvS 4 y)(j:x.length<=5)(o:Sz 4 h)(r: ∀(l:List Value) (a:Nat->Iv) (c:Int) (W':PW),Ext W W'->(Ll5 214 W' l a c/\(Ll7 x h n->a=pdB x h/\c=n))->K (.tuple ⟨[.agg ⟨l⟩,.bool (decide (Ll7 x h n))]⟩) W'):
  Aa1 Tryz.prog W0 M 12 [s.v,.agg ⟨[.bool b,u.v,t.v]⟩,.int .i64 n] W K:=
 Mi4 (λ _ d=>Lu0 (e.ext d) (g.ext d) i j o) fun | _,W',d,⟨l,a,c,rfl,h⟩=>r l a c W' d h
end Go.Proofs.YtkgeopnakkcdoaaGreat
namespace Go.Proofs.YtkgeopnakkcdoaaGreat
open Go Go.SX
variable {K:Value->PW->Prop}{M:Nat->Prop}{W W0:PW}{b:Nat->Iv}{f:List Tm}{l ly:List Value}{q:Rat}{s:Sl}{x:Mdl}{y:Nat->Mdl}
def Md5 (b:Nat->Iv) (n:Int) (v y:Mdl):Nat->Mdl
 | 0=>v
 | k+1=>Lt0 b n (Md5 b n v y k) y
def Me9 (b:Nat->Iv) (n:Int) (y:Nat->Mdl) (t:Tm):Nat->Mdl
 | 0=>Lx4 b n (cst t.2)
 | j+1=>Md5 b n (Me9 b n y t j) (y j) (mex t.1 j)
def Lm2 (b:Nat->Iv) (n:Int) (y:Nat->Mdl) (f:List Tm):Mdl:=f.foldl (λ a t=>Lu4 a (Me9 b n y t 3)) Lp4
theorem Lo3 (b:Nat->Iv)(n:Int)(y:Nat->Mdl)(f:List Tm)(t:Tm):Lm2 b n y (f ++ [t])=Lu4 (Lm2 b n y f) (Me9 b n y t 3):=by simp[Lm2]
def rB:Nat->Nat
 | 0=>10126
 | c+1=>2*(4003+c*24013+24013)+2*(rB c+7)+18372
theorem Lv6: ∀{c d:Nat},c<=d->rB c<=rB d
 | c,0,h=>by
  have:c=0:=by omega
  subst this;exact Nat.le_refl _
 | c,d+1,h=>by
  by_cases e:c=d+1
  ·subst e;exact Nat.le_refl _
  ·have:=Lv6 (c:=c) (d:=d) (by omega)
   rw[rB];omega
theorem Mi2:rB 4=1806572:=by decide
structure MB (c:Nat) (x:Mdl):Prop where
 b:MdB (4003+c*24013) (rB c) 8 x
 len:x.1.length<=6^c
theorem Mh0 (b:Nat->Iv)(n:Int)(x y:Mdl):(Lt0 b n x y).1.length<=x.1.length*y.1.length:=by
 have h1:=Lo4 n (Ag2 (An8 x.1 y.1));have a:=El2 (An8 x.1 y.1);rw[Eb1] at a;show(Mb5 n (Ag2 (An8 x.1 y.1))).length<=_;omega
theorem MB.step {c:Nat}{n:Int}{y:Mdl}(h:MB c x)(a:MOK 4 y)(d:Ln7 b)(e:Fc6 b n):MB (c+1) (Lt0 b n x y):=by
 have g:n<=8:=e.2.2.2.2;have hm:=MdB.mul (n:=n) h.b a.b d.bd (Nat.le_refl 7) (by omega) (by omega) (by omega);have i:POk (Ag2 (An8 x.1 y.1)):=λ t j=>(Lo5 h.b.ok a.b.ok (by omega) t j).1;refine⟨⟨hm.bd.mono (by omega),hm.rest.mono (Nat.le_of_eq rfl),hm.Aq3,Mg3 i g⟩,?_⟩;have h1:=Mh0 b n x y;have o:=Nat.mul_le_mul h.len a.len;rw[Nat.pow_succ];omega
theorem Mg4 (a:Sz 4000 q):Bd 4003 (cst q)/\Gk4 0 (cst q)/\(cst q).length<=1:=
 ⟨(Cq4 a).norm,Gk4.norm λ t c=>by
  rw[List.mem_singleton.1 c];refine⟨?_,?_⟩
  ·exact(by decide:(⟨0,0,0⟩:Mon).ok)
  ·exact⟨Int.le_refl 0,Int.le_refl 0,Int.le_refl 0⟩,El2 [((⟨0,0,0⟩:Mon),q)]⟩
theorem MB.ofc {n:Int}(c:Sz 4000 q)(d:Ln7 b):MB 0 (Lx4 b n (cst q)):=by
 obtain⟨e,he,i⟩:=Mg4 c;have a:=MdB.cut (n:=n) e (Ce8 _) d.bd (Nat.le_refl 7) he (by omega);refine⟨⟨a.bd,a.rest,a.Aq3,λ t g=>?_⟩,?_⟩
 ·have:=a.ok t g
  exact⟨this.1,by omega,by omega,by omega⟩
 ·have h1:=Lo4 n (cst q)
  show(Mb5 n (cst q)).length<=1;omega
theorem MB.rep {c:Nat}{n:Int}{v y:Mdl}(h:MB c v)(a:MOK 4 y)(d:Ln7 b)(e:Fc6 b n): ∀k,MB (c+k) (Md5 b n v y k)
 | 0=>h
 | k+1=>(MB.rep h a d e k).step a d e
def sex (t:Tm):Nat->Nat
 | 0=>0
 | j+1=>sex t j+mex t.1 j
theorem Lv3 (t:Tm): ∀{i j:Nat},i<=j->sex t i<=sex t j
 | i,0,h=>by
  have:i=0:=by omega
  subst this;exact Nat.le_refl _
 | i,j+1,h=>by
  by_cases e:i=j+1
  ·subst e;exact Nat.le_refl _
  ·have:=Lv3 t (i:=i) (j:=j) (by omega)
   rw[sex];omega
theorem MB.tm {t:Tm}{n:Int}(c:Sz 4000 t.2)(d: ∀i,MOK 4 (y i))(a:Ln7 b)(e:Fc6 b n): ∀j,MB (sex t j) (Me9 b n y t j)
 | 0=>MB.ofc c a
 | j+1=>(MB.tm c d a e j).rep (d j) a e _
theorem MB.small {c:Nat}(h:MB c x)(a:c<=4):MdB 100055 1806572 8 x/\x.1.length<=1296:=by
 have h1:=Lv6 a;rw[Mi2] at h1;have d:=Nat.mul_le_mul_right 24013 a;exact⟨⟨h.b.bd.mono (by omega),h.b.rest.mono h1,h.b.Aq3,h.b.ok⟩,Nat.le_trans h.len (Nat.pow_le_pow_right (by omega) a)⟩
theorem Mb3 {b:Nat->Iv}{n:Int}{y:Nat->Mdl}{f:List Tm}(c: ∀t∈f,Sz 4000 t.2/\sex t 3<=4)(d: ∀i,MOK 4 (y i))(e:Ln7 b)(g:Fc6 b n): ∀i,i<=f.length->MdB (1+i*100056) (1+i*1806573) 8 (Lm2 b n y (f.take i))/\(Lm2 b n y (f.take i)).1.length<=i*1296
 | 0,_=>⟨⟨⟨1,0,trivial,by decide,by rw[Ax0];omega,by rw[Ag9];omega⟩,BdI.zero (by omega),Av6.nil,λ t o=>(by cases o)⟩,Nat.zero_le _⟩
 | i+1,hi=>by
  obtain⟨h1,w⟩:=Mb3 c d e g i (by omega);have j:i<f.length:=by omega
  obtain⟨g1,g2⟩:=c _ (List.getElem_mem j);obtain⟨r,z⟩:=(MB.tm g1 d e g 3).small g2;rw[List.take_succ_eq_append_getElem j,Lo3];have a:=MdB.add h1 r;refine⟨⟨a.bd.mono (by omega),a.rest.mono (by omega),a.Aq3,a.ok⟩,?_⟩;have v:=El2 ((Lm2 b n y (f.take i)).1 ++ (Me9 b n y f[i] 3).1);rw[List.length_append] at v;show(Ag2 ((Lm2 b n y (f.take i)).1 ++ (Me9 b n y f[i] 3).1)).length<=_;omega
def tkO (W0:PW) (b:Nat->Iv) (n:Int) (y:Nat->Mdl) (f:List Tm) (L:List PL) (W:PW):Prop:=match L with
 | [.val (.int .i64 i),_,.cells l]=>∃j:Nat,i=(j:Int)/\j<=f.length/\Ext W0 W/\(¬Fc6 b n->j=0)/\MdV 214 180 W l (Lm2 b n y (f.take j))
 | _=>False
def tkV (W0:PW) (b:Nat->Iv) (n:Int) (y:Nat->Mdl) (t:Tm) (L:List PL) (W:PW):Prop:=match L with
 | [.val (.bool c),.val (.int .i64 i),.cells l]=>∃v:Nat,i=(v:Int)/\v<=3/\Ext W0 W/\c=decide (Fc6 b n)/\(Fc6 b n->MdV 214 180 W l (Me9 b n y t v))
 | _=>False
def tkR (W0:PW) (b:Nat->Iv) (n:Int) (x z:Mdl) (m:Nat) (L:List PL) (W:PW):Prop:=match L with
 | [.val (.bool c),.val (.int .u8 i),.cells l]=>∃v:Nat,i=(v:Int)/\v<=m/\Ext W0 W/\c=decide (Fc6 b n)/\(Fc6 b n->MdV 214 180 W l (Md5 b n x z v))
 | _=>False
theorem Mh6 {c:Nat}(h:c<=3):6^c<=216:=Nat.le_trans (Nat.pow_le_pow_right (by omega) h) (by decide)
theorem Lt7 {n:Int}(hD:Lm6 214 W0 l b n)(h:Ab0 214 180 W0 s f)(Q:M3V 214 180 W0 ly y)(R: ∀t∈f,Sz 4000 t.2/\sex t 3<=4)(hl:f.length<=5)(d: ∀i,MOK 4 (y i))(c:Ln7 b):
  Aa0 Tryz.prog 46 [.agg ⟨l⟩,.agg ⟨[s.v]⟩,.agg ⟨ly⟩] W0 M λ v W'=>∃(r:List Value),v = .tuple ⟨[.agg ⟨r⟩,.bool (decide (Fc6 b n))]⟩/\MdV 214 180 W' r (if Fc6 b n then Lm2 b n y f else Lp4):=by
 obtain⟨l',rfl,S⟩:=hD;have D:=S;obtain⟨s0,b0,t0,s1,b1,t1,s2,b2,t2,s3,b3,t3,s4,b4,t4,s5,b5,t5,rfl,_⟩:=S;have aj:=Q;obtain⟨p0,aO,a0,aP,u0,aR,w0,p1,aU,a1,aW,u1,aY,w1,p2,a4,a2,a5,u2,a7,w2,rfl,_⟩:=Q;apply Lq5;have z7: ∀i,IvS 7 (b i):=λ i=>(c.bd i).sz;obtain⟨xs,hr,T⟩:=h;have a9:=T.len;refine Ba1 hr (by omega) λ U E F ⟨_,hO⟩=>⟨U,rfl,?_⟩;have V:Ab0 214 180 E U f:=⟨xs,hO.row,T.mono λ _ _ e=>e.ext F⟩;have hn:=V.n;refine⟨tkO E b n y f,cn1 f.length,⟨0,rfl,Nat.zero_le _,Ext.refl _,λ _=>rfl,MdV.zero E⟩,?_⟩;rintro s6 s7 b8 s9 bf bg bh bi bj bk bl bm bn bo i20 bp ⟨j,rfl,hj,g,an,o⟩;refine⟨λ bq=>?_,λ br=>?_⟩
 ·have G:j<f.length:=by omega
  have ao:=List.getElem_mem G;obtain⟨g1,g2⟩:=R _ ao;have X:=V.ext g;obtain⟨H,c1,d1,c2,e1,_,_,hq⟩:=X.at (List.getElem?_eq_getElem G);have Y:=F.trans g;refine⟨X.inB (by omega) (by omega),_,_,_,c1,d1,c2,e1,Gf5 hq g1 (by omega) λ ar bt w au=>⟨ar,rfl,?_⟩⟩;obtain⟨av,aw,bu⟩:=Mg4 g1;refine Lm7 (p:=cst f[j].2) (Lm6.mk (D.ext (Y.trans w))) au (Ce8 _) av c.bd (Nat.le_refl 7) aw (by omega) (by omega) (by omega) λ r ax I z=>z.out λ _ _ _ _ _ _ _ z _ _=>?_;refine⟨tkV ax b n y f[j],λ L _=>match L with | [_,.val (.int .i64 i),_]=>3-i.toNat | _=>0,⟨0,rfl,Nat.zero_le _,Ext.refl _,rfl,λ a=>by rw[if_pos a] at z;exact z⟩,?_⟩;rintro bv bw bx bz bA bB bC bD i51 ay ⟨v,rfl,hv,A,rfl,Z⟩;refine⟨λ bF=>?_,λ bG=>?_⟩
  ·have aa:v<3:=by omega
   refine⟨⟨by omega,by omega⟩,_,Cn5 f[j].1 aa,?_⟩;rw[Dq6 H v];have bH:mex f[j].1 v<=255:=by have:=Gq6 H v;have:=Dq6 H v;omega
   have az:=Lv3 f[j] (show v+1<=3 by omega);rw[show sex f[j] (v+1)=sex f[j] v+mex f[j].1 v from rfl] at az;refine⟨tkR ay b n (Me9 b n y f[j] v) (y v) (mex f[j].1 v),λ L _=>match L with | [_,.val (.int .u8 i),_]=>mex f[j].1 v-i.toNat | _=>0,⟨0,rfl,Nat.zero_le _,Ext.refl _,rfl,Z⟩,?_⟩;rintro bI bJ bK bL bM bN bO bP i64 bQ ⟨k,rfl,hk,B,rfl,hQ⟩;refine⟨λ bR=>?_,λ bS=>⟨by unfold I64;omega,⟨v+1,by push_cast;rfl,by omega,A.trans B,rfl,λ a=>?_⟩,?_⟩⟩
   ·have aA:IntKind.wrap .u8 ((k:Int)+1)=((k+1:Nat):Int):=by rw[Du1 (by omega) (by omega)];push_cast;rfl
    rw[aA];have ac:mex f[j].1 v-Int.toNat ((k+1:Nat):Int)<mex f[j].1 v-Int.toNat (k:Int):=by omega
    refine⟨λ J=>?_,λ N=>⟨⟨k+1,rfl,by omega,B,rfl,λ a=>absurd a (of_decide_eq_false N)⟩,ac⟩⟩;have a:Fc6 b n:=of_decide_eq_true J;have hE:=Y.trans (w.trans (I.trans (A.trans B)));obtain⟨_,_,_,_,_,_,_,aB,aC⟩:=(aj.ext hE).box aa;have ae:=(MB.tm g1 d c a v).rep (d v) c a k;have O:sex f[j] v+k<=3:=by omega
    have p6:=Mh6 O;have r3:=Lv6 O;have bV:rB 3=794038:=by decide
    have k3:=Nat.mul_le_mul_right 24013 O;have yl:=(d v).len;have ml:=ae.len;refine⟨⟨by omega,by omega⟩,_,_,_,_,_,_,_,aB,?_⟩;refine Ly4 (Lm6.mk (D.ext hE)) (hQ a) aC ae.b (d v).b c.bd (Nat.le_refl 7) (by omega) (by omega) (by omega) (by omega) (by omega) (by omega) (by omega) λ r bZ aD C=>C.out λ _ _ _ _ _ _ _ C _ _=>⟨⟨k+1,rfl,by omega,B.trans aD,rfl,λ _=>?_⟩,ac⟩;rw[if_pos a] at C;exact C
   ·have:k=mex f[j].1 v:=by omega
    subst this;exact hQ a
   ·show 3-Int.toNat ((v:Int)+1)<3-Int.toNat (v:Int)
    omega
  ·have:v=3:=by omega
   subst this;refine⟨λ N aE b6=>?_,λ J=>?_⟩
   ·have a:¬Fc6 b n:=by simpa using N
    rw[decide_eq_false a,if_neg a];exact⟨_,rfl,MdV.zero aE⟩
   ·have a:Fc6 b n:=by simpa using J
    obtain⟨k1,k2⟩:=(MB.tm g1 d c a 3).small g2;obtain⟨c1,c2⟩:=Mb3 R d c a j hj;have b9:=Nat.mul_le_mul_right 100056 (show j<=5 by omega);have ca:=Nat.mul_le_mul_right 1806573 (show j<=5 by omega);have cb:=Nat.mul_le_mul_right 1296 (show j<=5 by omega);refine Lq3 (k:=600000) (r:=10000000) (o.ext (w.trans (I.trans A))) (Z a) (c1.bd.mono (by omega)) (k1.bd.mono (by omega)) (c1.rest.mono (by omega)).sz (k1.rest.mono (by omega)).sz (by omega) (by omega) (by omega) (by omega) λ r cc aF P=>P.Mf4 λ _ _ _ _ _ _ _ P _ _=>⟨by unfold I64;omega,⟨j+1,by push_cast;rfl,by omega,g.trans (w.trans (I.trans (A.trans aF))),λ e=>absurd a e,?_⟩,?_⟩
    ·rw[List.take_succ_eq_append_getElem G,Lo3]
     exact P
    ·show f.length-Int.toNat ((j:Int)+1)<f.length-Int.toNat (j:Int)
     omega
 ·have:j=f.length:=by omega
  refine Ll8 (k:=7) (Lm6.mk (D.ext (F.trans g))) z7 (by omega) λ cd ag _=>⟨_,rfl,λ ce ah=>⟨_,rfl,?_⟩⟩
  by_cases a:Fc6 b n
  ·rw[if_pos a]
   subst this;rw[List.take_length] at o;exact o.ext (ag.trans ah)
  ·rw[if_neg a]
   have aG:=an a;subst aG;exact o.ext (ag.trans ah)
theorem Lq7 {n:Int}(c:Lm6 214 W l b n)(h:Ab0 214 180 W s f)(d:M3V 214 180 W ly y)(e: ∀t∈f,Sz 4000 t.2/\sex t 3<=4)(g:f.length<=5)(j: ∀i,MOK 4 (y i))(o:Ln7 b)(v: ∀(r:List Value) (W':PW),Ext W W'->(MdV 214 180 W' r (if Fc6 b n then Lm2 b n y f else Lp4))->K (.tuple ⟨[.agg ⟨r⟩,.bool (decide (Fc6 b n))]⟩) W'):
  Aa1 Tryz.prog W0 M 46 [.agg ⟨l⟩,.agg ⟨[s.v]⟩,.agg ⟨ly⟩] W K:=
 Mi4 (λ _ a=>Lt7 (c.ext a) (h.ext a) (d.ext a) e g j o) fun | _,W',a,⟨r,rfl,h⟩=>v r W' a h
def rkO (W0:PW) (b:Nat->Iv) (n:Int) (y:Nat->Mdl) (f:List Tm) (L:List PL) (W:PW):Prop:=match L with
 | [.val (.int .i64 i),_,.cells l]=>∃j:Nat,i=(j:Int)/\j<=f.length/\Ext W0 W/\Ll6 214 119 W l (Lm2 b n y (f.take j))
 | _=>False
def rkV (W0:PW) (b:Nat->Iv) (n:Int) (y:Nat->Mdl) (t:Tm) (L:List PL) (W:PW):Prop:=match L with
 | [.val (.int .i64 i),_,.cells l]=>∃v:Nat,i=(v:Int)/\v<=3/\Ext W0 W/\Ll6 214 119 W l (Me9 b n y t v)
 | _=>False
def rkR (W0:PW) (b:Nat->Iv) (n:Int) (x z:Mdl) (m:Nat) (L:List PL) (W:PW):Prop:=match L with
 | [.val (.int .i64 i),_,.cells l]=>∃v:Nat,i=(v:Int)/\v<=m/\Ext W0 W/\Ll6 214 119 W l (Md5 b n x z v)
 | _=>False
theorem Lo7 {n:Int}(hD:Ll5 214 W0 l b n)(h:Ag1 214 119 W0 s f)(Q:Me8 214 119 W0 ly y)(R: ∀t∈f,Sz 4000 t.2/\sex t 3<=4)(hl:f.length<=5)(g: ∀i,MOK 4 (y i))(c:Ln7 b):
  Aa0 Tryz.prog 51 [.agg ⟨l⟩,s.v,.agg ⟨ly⟩] W0 M λ v W'=>∃(r:List Value),v = .tuple ⟨[.agg ⟨r⟩,.bool (decide (Fc6 b n))]⟩/\Ll6 214 119 W' r (if Fc6 b n then Lm2 b n y f else Lp4):=by
 obtain⟨l',rfl,S⟩:=hD;have C:=S;obtain⟨b0,s0,t0,b1,s1,t1,b2,s2,t2,b3,s3,t3,b4,s4,t4,b5,s5,t5,rfl,_⟩:=S;have ae:=Q;obtain⟨p0,a0,aO,aP,aQ,u0,w0,p1,T,aU,aV,aW,u1,w1,p2,a2,a3,a4,a5,u2,w2,rfl,_⟩:=Q;apply Ln6;have z7: ∀i,IvS 7 (b i):=λ i=>(c.bd i).sz;have hn:=h.n;refine Ll2 (k:=7) (Ll5.mk C) z7 (by omega) λ W2 ag _=>⟨_,rfl,λ ah W4 ba=>?_,λ aj=>?_⟩
 ·have a:¬Fc6 b n:=by simpa using ah
  rw[decide_eq_false a,if_neg a];exact⟨_,rfl,Ll6.zero W4⟩
 have a:Fc6 b n:=by simpa using aj
 rw[decide_eq_true a,if_pos a];refine Lm8 λ r W6 al D=>D.Mf4 λ _ _ _ _ _ _ _ D _ _=>?_;have E6:=ag.trans al;refine⟨rkO W6 b n y f,cn1 f.length,⟨0,rfl,Nat.zero_le _,Ext.refl _,D⟩,?_⟩;rintro bb bc bd be bf bg bh bi bj bk bl bm bn bo i30 bp ⟨j,rfl,hj,U,E⟩;refine⟨λ bq=>?_,λ br bt ao=>⟨_,rfl,?_⟩⟩
 ·have o:j<f.length:=by omega
  have ap:=List.getElem_mem o;obtain⟨g1,g2⟩:=R _ ap;have F:=E6.trans U;have V:=h.ext F;obtain⟨G,c1,d1,c2,_,_,e3,hq⟩:=V.at (List.getElem?_eq_getElem o);refine⟨V.inB (by omega) (by omega),_,_,_,e3,Kf1 hq g1 (by omega) λ au bu w av=>⟨au,rfl,?_⟩⟩;obtain⟨aw,ax,bv⟩:=Mg4 g1;refine Ln1 (p:=cst f[j].2) (Ll5.mk (C.ext (F.trans w))) av aw c.bd c.ord (Nat.le_refl 7) ax (by omega) (by omega) (by omega) λ r ay H z=>z.out λ _ _ _ _ _ _ _ z _ _=>?_;rw[if_pos a] at z;refine⟨rkV ay b n y f[j],cn1 3,⟨0,rfl,Nat.zero_le _,Ext.refl _,z⟩,?_⟩;rintro bw bx bz bA bB bC bD bE bF bG bH bI bJ bK i64 az ⟨v,rfl,hv,A,X⟩;refine⟨λ bM=>?_,λ bN=>?_⟩
  ·have aA:v<3:=by omega
   have bO:mex f[j].1 v<=255:=by have:=Gq6 G v;have:=Dq6 G v;omega
   have aB:=Lv3 f[j] (show v+1<=3 by omega);rw[show sex f[j] (v+1)=sex f[j] v+mex f[j].1 v from rfl] at aB;refine⟨rkR az b n (Me9 b n y f[j] v) (y v) (mex f[j].1 v),cn1 (mex f[j].1 v),⟨0,rfl,Nat.zero_le _,Ext.refl _,X⟩,?_⟩;rintro bP bQ bR bS bT bU bV bW bX bY bZ b6 b7 b8 i82 aC ⟨k,rfl,hk,I,Y⟩;have J:=F.trans (w.trans (H.trans (A.trans I)));have Z:=h.ext J;have aa:Aa7 aC s 6 j (0+Int.toNat (v:Int)*1) [.int .u8 (An6 f[j].1 v)]:=by
    obtain⟨ys,L,T⟩:=Z;obtain⟨x,N,_,d,e,f,rfl,_⟩:=T.get (List.getElem?_eq_getElem o);rcases(by omega:v=0\/v=1\/v=2) with rfl | rfl | rfl
    ·exact L.part N 0 rfl
    ·exact L.part N 1 rfl
    ·exact L.part N 2 rfl
   rw[Dq6 G v] at aa;refine⟨Z.inB (by omega) (by omega),⟨by omega,by omega⟩,_,aa,by unfold I64;omega,λ b9=>?_,λ ca=>⟨by unfold I64;omega,⟨v+1,by push_cast;rfl,by omega,A.trans I,?_⟩,?_⟩⟩
   ·obtain⟨_,_,_,_,_,_,_,aD,aE⟩:=(ae.ext J).box aA
    have ab:=(MB.tm g1 g c a v).rep (g v) c a k;have O:sex f[j] v+k<=3:=by omega
    have p6:=Mh6 O;have r3:=Lv6 O;have cd:rB 3=794038:=by decide
    have k3:=Nat.mul_le_mul_right 24013 O;have yl:=(g v).len;have ml:=ab.len;refine⟨⟨by omega,by omega⟩,_,_,_,_,_,_,_,aD,?_⟩;refine Lq6 (Ll5.mk (C.ext J)) Y aE ab.b (g v).b c.bd c.ord (Nat.le_refl 7) (by omega) (by omega) (by omega) (by omega) (by omega) (by omega) (by omega) λ r ch aF B=>B.out λ _ _ _ _ _ _ _ B _ _=>⟨λ e=>absurd e (by simp[a]),λ _=>⟨by unfold I64;omega,⟨k+1,by push_cast;rfl,by omega,I.trans aF,?_⟩,?_⟩⟩
    ·rw[if_pos a] at B
     exact B
    ·show mex f[j].1 v-Int.toNat ((k:Int)+1)<mex f[j].1 v-Int.toNat (k:Int)
     omega
   ·have:k=mex f[j].1 v:=by omega
    subst this;exact Y
   ·show 3-Int.toNat ((v:Int)+1)<3-Int.toNat (v:Int)
    omega
  ·have:v=3:=by omega
   subst this;obtain⟨k1,k2⟩:=(MB.tm g1 g c a 3).small g2;obtain⟨c1,c2⟩:=Mb3 R g c a j hj;have cj:=Nat.mul_le_mul_right 100056 (show j<=5 by omega);have ck:=Nat.mul_le_mul_right 1806573 (show j<=5 by omega);have cl:=Nat.mul_le_mul_right 1296 (show j<=5 by omega);refine Ln2 (k:=600000) (r:=10000000) (E.ext (w.trans (H.trans A))) X c1.Aq3 (c1.bd.mono (by omega)) (k1.bd.mono (by omega)) (c1.rest.mono (by omega)).sz (k1.rest.mono (by omega)).sz (by omega) (by omega) (by omega) (by omega) λ r cm aG P=>P.Mf4 λ _ _ _ _ _ _ _ P _ _=>⟨by unfold I64;omega,⟨j+1,by push_cast;rfl,by omega,U.trans (w.trans (H.trans (A.trans aG))),?_⟩,?_⟩
   ·rw[List.take_succ_eq_append_getElem o,Lo3]
    exact P
   ·show f.length-Int.toNat ((j:Int)+1)<f.length-Int.toNat (j:Int)
    omega
 ·have:j=f.length:=by omega
  subst this;rw[List.take_length] at E;exact E.ext ao
theorem Ln9 {n:Int}(c:Ll5 214 W l b n)(h:Ag1 214 119 W s f)(d:Me8 214 119 W ly y)(e: ∀t∈f,Sz 4000 t.2/\sex t 3<=4)(g:f.length<=5)(j: ∀i,MOK 4 (y i))(o:Ln7 b)(v: ∀(r:List Value) (W':PW),Ext W W'->(Ll6 214 119 W' r (if Fc6 b n then Lm2 b n y f else Lp4))->K (.tuple ⟨[.agg ⟨r⟩,.bool (decide (Fc6 b n))]⟩) W'):
  Aa1 Tryz.prog W0 M 51 [.agg ⟨l⟩,s.v,.agg ⟨ly⟩] W K:=
 Mi4 (λ _ a=>Lo7 (c.ext a) (h.ext a) (d.ext a) e g j o) fun | _,W',a,⟨r,rfl,h⟩=>v r W' a h
end Go.Proofs.YtkgeopnakkcdoaaGreat
