import Derived.Test.YtkgeopnakkcdoaaGreatDoorW8
import Derived.Test.YtkgeopnakkcdoaaGreatDoorW6
import Derived.Test.YtkgeopnakkcdoaaGreatDoorLib4
import Derived.Test.YtkgeopnakkcdoaaGreatDoorW7
import Derived.Test.YtkgeopnakkcdoaaGreatDoorR8
import Derived.Test.YtkgeopnakkcdoaaGreatDoorR7
import Derived.Test.YtkgeopnakkcdoaaGreatDoorR6
import Derived.Test.YtkgeopnakkcdoaaGreatDoorLib5
set_option linter.unusedVariables false
set_option linter.unusedSimpArgs false
set_option maxRecDepth 100000
namespace Go.Proofs.YtkgeopnakkcdoaaGreatDoor
open Go Go.SX
end Go.Proofs.YtkgeopnakkcdoaaGreatDoor
namespace Go.Proofs.YtkgeopnakkcdoaaGreatDoor
open Go Go.SX
variable {M:Nat->Prop}{W0:PW}{b:Nat->Iv}{e k m:Nat}{l:List Value}{p:List Tm}{s:Sl}
theorem Dq6 {m:Mon}(h:m.ok)(k:Nat):An6 m k=((mex m k:Nat):Int):=by
 unfold Mon.ok at h;unfold An6 mex
 (repeat' split)<;>omega
def ovO (W0:PW) (p:List Tm) (b:Nat->Iv) (L:List PL) (W:PW):Prop:=match L with
 | [.val (.int .i64 i),.cells l]=>∃j:Nat,i=(j:Int)/\j<=p.length/\Ext W0 W/\SpV 257 W l (Aq8 b (p.take j))
 | _=>False
def ovI (W0:PW) (t:Tm) (b:Nat->Iv) (L:List PL) (W:PW):Prop:=match L with
 | [.val (.int .i64 i),.cells l]=>∃j:Nat,i=(j:Int)/\j<=3/\Ext W0 W/\SpV 257 W l (Ci9 b t j)
 | _=>False
theorem Fl7 (d:Bd k p)(hm: ∀i,BdI m (b i))(he: ∀t∈p,∀i,mex t.1 i<=e)(c:e<=255)(f:m<=1000)(hk:k<=200000000):
  (∀j,IvS 210000000 (Aq8 b (p.take j)))/\(∀t∈p,∀j,j<=3->IvS 210000000 (Ci9 b t j))/\(∀t∈p,∀j,IvS 210000000 (Ai3 (b j) (mex t.1 j)))/\∀j,IvS 1048576 (b j):=by
 have h:=Nat.mul_le_mul (show m+1<=1001 by omega) c;have n:=Nat.mul_le_mul f c;refine⟨λ j=>((Cv6 (d.take j) hm λ t a=>he t (List.mem_of_mem_take a)).mono (by omega)).sz,λ t a j g=>((Ef7 (d.sz t a) hm (he t a) j).mono ?_).sz,λ t a j=>(((hm j).pow (mex t.1 j)).mono ?_).sz,λ j=>((hm j).mono (by omega)).sz⟩
 ·have:=Nat.mul_le_mul g (show m*e+1<=1000*255+1 by omega)
  omega
 ·have:=Nat.mul_le_mul f (Nat.le_trans (he t a j) c)
  omega
theorem Cz2 (h:Ab0 257 169 W0 s p)(z:DmV 257 W0 l b)(G:Bd k p)(hm: ∀i,BdI m (b i))(he: ∀t∈p,∀i,mex t.1 i<=e)(H:e<=255)(I:m<=1000)(hk:k<=200000000)(hl:p.length<=1073741824):
  Aa0 Tryz.prog 85 [.agg ⟨[s.v]⟩,.agg ⟨l⟩] W0 M λ v W'=>∃(r:List Value),v = .agg ⟨r⟩/\SpV 257 W' r (Aq8 b p):=by
 obtain⟨J,z2,z3,z4⟩:=Fl7 G hm he H I hk;have K:=z;obtain⟨s0,b0,t0,s1,b1,t1,s2,b2,t2,s3,b3,t3,s4,b4,t4,s5,b5,t5,rfl,_⟩:=z;apply Bz6;obtain⟨xs,N,A⟩:=h;have ak:=A.len;refine Ba1 N (by omega) λ s3 d B ⟨_,hO⟩=>⟨s3,rfl,?_⟩;have C:Ab0 257 169 d s3 p:=⟨xs,hO.row,A.mono λ _ _ e=>e.ext B⟩;have hn:=C.n;refine⟨ovO d p b,cn1 p.length,⟨0,rfl,Nat.zero_le _,Ext.refl _,SpV.zero d⟩,?_⟩;rintro s6 b7 s8 s9 aq ar i12 au ⟨j,rfl,hj,f,g⟩;refine⟨λ aw=>?_,λ ax ay O=>⟨_,rfl,?_⟩⟩
 ·have n:j<p.length:=by omega
  have D:=C.ext f;have c:=List.getElem_mem n;obtain⟨P,c1,d1,c2,Q,_,_,R⟩:=D.at (List.getElem?_eq_getElem n);refine⟨D.inB (by omega) (by omega),_,_,_,c1,d1,c2,Q,De4 R λ r S o q=>q.out λ az aA aB aC aD aE q=>?_⟩;refine⟨ovI S p[j] b,cn1 3,⟨0,rfl,Nat.zero_le _,Ext.refl _,q⟩,?_⟩;rintro aF aG aH aI aJ aK i36 aL ⟨v,rfl,T,a,u⟩;refine⟨λ aM=>?_,λ aN=>?_⟩
  ·have E:v<3:=by omega
   have U:=(K.ext (B.trans (f.trans (o.trans a))));obtain⟨V,W,X,Y,Z,x4,ab,ac⟩:=U.box E;have aO:=he _ c v;refine⟨⟨by omega,by omega⟩,_,Cn5 p[j].1 E,?_⟩;rw[Dq6 P v];refine⟨λ aP=>⟨⟨by omega,by omega⟩,V,W,X,Y,Z,x4,ab,by unfold I64;omega,?_⟩,λ aQ=>⟨by unfold I64;omega,⟨v+1,by push_cast;rfl,by omega,a,?_⟩,?_⟩⟩
   ·refine Co8 ac (z4 v) (by omega) (by omega) λ r aR F w=>w.out λ aS aT aU aV aW aX w=>?_
    refine Cx4 (u.ext F) w (z2 _ c v T) (z3 _ c v) (by omega) λ r aY ad x=>x.out λ aZ a0 a1 a2 a3 a4 x=>⟨by unfold I64;omega,⟨v+1,by push_cast;rfl,by omega,a.trans (F.trans ad),?_⟩,?_⟩
    ·rw[Ci9,if_pos (by omega)]
     exact x
    ·show 3-Int.toNat ((v:Int)+1)<3-Int.toNat (v:Int)
     omega
   ·rw[Ci9,if_neg (by omega)]
    exact u
   ·show 3-Int.toNat ((v:Int)+1)<3-Int.toNat (v:Int)
    omega
  ·have:v=3:=by omega
   subst this;refine Cy0 (g.ext (o.trans a)) u (J j) (z2 _ c 3 (Nat.le_refl _)) (by omega) λ r a5 ae y=>y.out λ a6 a7 a8 a9 ba bb y=>⟨by unfold I64;omega,⟨j+1,by push_cast;rfl,by omega,f.trans (o.trans (a.trans ae)),?_⟩,?_⟩
   ·rw[List.take_succ_eq_append_getElem n,Bt2]
    exact y
   ·show p.length-Int.toNat ((j:Int)+1)<p.length-Int.toNat (j:Int)
    omega
 ·have:j=p.length:=by omega
  subst this;rw[List.take_length] at g;exact g.ext O
theorem Az5 {W:PW}{K:Value->PW->Prop}(h:Ab0 257 169 W s p)(c:DmV 257 W l b)(d:Bd k p)(hm: ∀i,BdI m (b i))(he: ∀t∈p,∀i,mex t.1 i<=e)(f:e<=255)(g:m<=1000)(hk:k<=200000000)(j:p.length<=1073741824)(n: ∀(r:List Value) (W':PW),Ext W W'->(SpV 257 W' r (Aq8 b p))->K (.agg ⟨r⟩) W'):
  Aa1 Tryz.prog W0 M 85 [.agg ⟨[s.v]⟩,.agg ⟨l⟩] W K:=
 Mi4 (λ _ a=>Cz2 (h.ext a) (c.ext a) d hm he f g hk j) fun | _,W',a,⟨r,rfl,h⟩=>n r W' a h
end Go.Proofs.YtkgeopnakkcdoaaGreatDoor
namespace Go.Proofs.YtkgeopnakkcdoaaGreatDoor
open Go Go.SX
variable {L:List (Mon×ByteArray)}{e:Int}{p:List Tm}
theorem Bp6.exp {a:Int}(h:Bp6 L a e)(c:Af1 L p): ∀t∈p,t.1.x<=e/\t.1.y<=e/\t.1.z<=e:=λ t d=>by
 obtain⟨u,hu,h1,_⟩:=Fa5 c.1 d;have:=(h.2 u hu).2;rw[h1];exact this
def Gk4 (e:Int) (p:List Tm):Prop:=∀t∈p,t.1.ok/\t.1.x<=e/\t.1.y<=e/\t.1.z<=e
theorem Ff1.exp (h:Ff1 L e p)(c:POk p):Gk4 e p:=λ t a=>⟨c t a,h.2.exp h.1 t a⟩
end Go.Proofs.YtkgeopnakkcdoaaGreatDoor
namespace Go.Proofs.YtkgeopnakkcdoaaGreatDoor
open Go Go.SX
end Go.Proofs.YtkgeopnakkcdoaaGreatDoor
namespace Go.Proofs.YtkgeopnakkcdoaaGreatDoor
open Go Go.SX
end Go.Proofs.YtkgeopnakkcdoaaGreatDoor
namespace Go.Proofs.YtkgeopnakkcdoaaGreatDoor
open Go Go.SX
end Go.Proofs.YtkgeopnakkcdoaaGreatDoor
namespace Go.Proofs.YtkgeopnakkcdoaaGreatDoor
open Go Go.SX
end Go.Proofs.YtkgeopnakkcdoaaGreatDoor
namespace Go.Proofs.YtkgeopnakkcdoaaGreatDoor
open Go Go.SX
variable {M:Nat->Prop}{W0:PW}{bs:List Iv}{k:Nat}{s:Sl}
def brI (W0:PW) (bs:List Iv) (L:List PL) (W:PW):Prop:=match L with
 | [.val (.int .i64 i)]=>∃j:Nat,i=(j:Int)/\j<=bs.length/\Ext W0 W/\∀x∈bs.take j,x.1<x.2
 | _=>False
theorem Ey3 {j:Nat}(c:j<bs.length)(h: ∀x∈bs.take j,x.1<x.2)(d:bs[j].1<bs[j].2): ∀x∈bs.take (j+1),x.1<x.2:=λ x a=>by
 rw[List.take_succ_eq_append_getElem c,List.mem_append,List.mem_singleton] at a;rcases a with a | rfl
 ·exact h x a
 ·exact d
theorem Dk1 (h:Bc3 257 W0 s bs)(hk: ∀x∈bs,IvS k x)(B:k<=1048576)(C:bs.length<=1048576):
  Aa0 Tryz.prog 136 [s.v] W0 M λ v W'=>v = .bool (decide (Cn7 bs))/\True:=by
 apply Ck4;have D:=h.n;refine⟨brI W0 bs,cn1 bs.length,⟨0,rfl,Nat.zero_le _,Ext.refl _,λ x c=>(by cases c)⟩,?_⟩;rintro i3 E ⟨j,rfl,F,f,d⟩;have g:=Bc3.ext h f;refine⟨λ G=>?_,λ H=>?_⟩
 ·have a:j<bs.length:=by omega
  obtain⟨x,c,o⟩:=g.at a;obtain⟨q,r,t,u,w,y,rfl,q1,z⟩:=c;have i:=hk _ (List.getElem_mem a);refine⟨g.inB (by omega) (by omega),q,r,t,u,w,y,o 0 rfl,Aj2 q1 z i.1 i.2 (by omega) (by omega) λ I A _=>⟨_,rfl,λ n J _=>⟨?_,trivial⟩,λ n=>⟨by unfold I64;omega,⟨j+1,by push_cast;rfl,by omega,f.trans A,Ey3 a d (At6.1 (by omega))⟩,?_⟩⟩⟩
  ·rw[decide_eq_false λ e=>Rat.not_lt.2 (El9.1 n) (e.2 _ (List.getElem_mem a))]
  ·show bs.length-Int.toNat ((j:Int)+1)<bs.length-Int.toNat (j:Int)
   omega
 ·have:j=bs.length:=by omega
  subst this;rw[List.take_length] at d;refine⟨λ h1 K _=>⟨?_,trivial⟩,λ h1 N _=>⟨?_,trivial⟩⟩
  ·congr 1
   rw[decide_eq_decide];exact⟨λ h=>⟨⟨by omega,by omega⟩,d⟩,λ h=>by have:=h.1.2;omega⟩
  ·rw[decide_eq_false λ e=>by have:=e.1.1;omega]
theorem Cm2 {W:PW}{K:Value->PW->Prop}(h:Bc3 257 W s bs)(hk: ∀x∈bs,IvS k x)(c:k<=1048576)(d:bs.length<=1048576)(f: ∀(W':PW),Ext W W'->(True)->K (.bool (decide (Cn7 bs))) W'):
  Aa1 Tryz.prog W0 M 136 [s.v] W K:=
 Mi4 (λ _ a=>Dk1 (h.ext a) hk c d) fun | _,W',a,⟨rfl,h⟩=>f W' a h
def Fj5 (l:List SqP) (bs:List Iv):Prop:=Cn7 bs/\∀s∈l,0<=s.g/\s.g<=(bs.length:Int)
instance (l:List SqP) (bs:List Iv):Decidable (Fj5 l bs):=by unfold Fj5;infer_instance
end Go.Proofs.YtkgeopnakkcdoaaGreatDoor
