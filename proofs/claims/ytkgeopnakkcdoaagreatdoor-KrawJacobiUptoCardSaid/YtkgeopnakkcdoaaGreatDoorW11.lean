import Derived.Test.YtkgeopnakkcdoaaGreatDoorW10
import Derived.Test.YtkgeopnakkcdoaaGreatDoorR9
import Derived.Test.YtkgeopnakkcdoaaGreatDoorR10
import Derived.Shelf.Spec.TrailingZeros
import Derived.Shelf.SlGeneric
import Derived.Test.YtkgeopnakkcdoaaGreatDoorProg
import Derived.Test.YtkgeopnakkcdoaaGreatDoorTt
import Derived.Test.YtkgeopnakkcdoaaGreatDoorLib1
import Derived.Test.YtkgeopnakkcdoaaGreatDoorW9
import Derived.Test.YtkgeopnakkcdoaaGreatDoorW7
import Derived.Test.YtkgeopnakkcdoaaGreatDoorLib3
import Derived.Test.YtkgeopnakkcdoaaGreatDoorRows
import Derived.WalkKit
import Derived.ProofKit
import Derived.OpenShut
import Derived.JoinedCond
import Derived.Carry
import Derived.Deep.Strs
import Derived.Deep.Slices
import Derived.Test.YtkgeopnakkcdoaaGreatDoorW3
import Derived.Test.YtkgeopnakkcdoaaGreatDoorW5
import Derived.Test.YtkgeopnakkcdoaaGreatDoorLib5
set_option linter.unusedVariables false
set_option linter.unusedSimpArgs false
set_option maxRecDepth 100000
namespace Go.Proofs.YtkgeopnakkcdoaaGreatDoor
open Go Go.SX
variable {K:Value->PW->Prop}{M:Nat->Prop}{W W' W0:PW}{bs:List Iv}{f:List (List Tm)}{i k l m r:Nat}{l2:List Value}{s sj sy:Sl}{x:Iv}{y:Nat->Nat->Rat}
theorem Mn0 {l1:List Value}{y:Iv}(h1:SpV 257 W0 l1 x)(c:SpV 257 W0 l2 y)(d:IvS k x)(g:IvS k y)(hk:k<=8589934592):
  Aa0 Tryz.prog 14 [.agg ⟨l1⟩,.agg ⟨l2⟩] W0 M λ v W'=>v = .bool (decide (Mr9 x y))/\True:=by
 obtain⟨s0,b0,t0,s1,b1,t1,rfl,h1,n⟩:=h1;obtain⟨s2,b2,t2,s3,p,t3,rfl,c,o⟩:=c;apply Ml1;refine Aj2 c h1 g.1 d.1 (by omega) (by omega) λ u j _=>⟨_,rfl,λ h=>Aj2 (n.ext j) (o.ext j) d.2 g.2 (by omega) (by omega) λ w A _=>⟨_,rfl,λ B C=>⟨?_,trivial⟩⟩,λ h D E=>⟨?_,trivial⟩⟩
 ·have h:=At6.1 h
  congr 1;rw[decide_eq_decide,At6];exact⟨λ e=>⟨h,e⟩,λ e=>e.2⟩
 ·rw[decide_eq_false λ e=>h (At6.2 e.1)]
theorem Mj5 {l1:List Value}{y:Iv}(h1:SpV 257 W l1 x)(d:SpV 257 W l2 y)(g:IvS k x)(j:IvS k y)(hk:k<=8589934592)(n: ∀(W':PW),Ext W W'->(True)->K (.bool (decide (Mr9 x y))) W'):
  Aa1 Tryz.prog W0 M 14 [.agg ⟨l1⟩,.agg ⟨l2⟩] W K:=
 Mi4 (λ _ c=>Mn0 (h1.ext c) (d.ext c) g j hk) fun | _,W',c,⟨rfl,h⟩=>n W' c h
theorem Mn4 {α:Type}{j:Nat}{Q:α->Prop}{l:List α}(d:j<l.length)(h: ∀x∈l.take j,Q x)(g:Q l[j]): ∀x∈l.take (j+1),Q x:=λ x c=>by
 rw[List.take_succ_eq_append_getElem d] at c;rcases List.mem_append.1 c with e | e
 ·exact h x e
 ·rw[List.mem_singleton.1 e]
  exact g
def kfI (W0:PW) (f:List (List Tm)) (bs:List Iv) (L:List PL) (W:PW):Prop:=match L with
 | [.val (.int .i64 i)]=>∃j:Nat,i=(j:Int)/\j<=f.length/\Ext W0 W/\∀p∈f.take j,An3 p bs
 | _=>False
theorem Mo9 {sb:Sl}(g:Ps W0 s f)(n:Bc3 257 W0 sb bs)(hk: ∀x∈bs,IvS k x)(w:k<=1048576)(A:bs.length<=1048576)(o: ∀p∈f,p.length<=1099511627776)(G:f.length<=1000):
  Aa0 Tryz.prog 57 [s.v,sb.v] W0 M λ v W'=>v = .bool (decide (Mk5 f bs))/\True:=by
 apply Mm5;have I:=g.n;have J:=n.n;refine⟨kfI W0 f bs,Kq0 f.length,⟨0,rfl,Nat.zero_le _,Ext.refl _,λ p o=>(by simp at o)⟩,?_⟩;rintro i3 L ⟨j,rfl,N,c,u⟩;have no:¬Mk5 f bs->Value.bool false = .bool (decide (Mk5 f bs))/\True:=λ B=>⟨by rw[decide_eq_false B],trivial⟩;refine⟨λ O=>?_,λ P=>⟨λ he=>?_,λ C W _=>no λ ok=>C (by have:=ok.2.1;omega)⟩⟩
 ·have d:j<f.length:=by omega
  obtain⟨x,D,E⟩:=(g.ext c).at d;refine⟨(g.ext c).inB (by omega) (by omega),x,D,?_⟩;refine Bv2 E (n.ext c) hk w A (o _ (List.getElem_mem d)) λ Q F _=>⟨_,rfl,λ b W _=>no λ ok=>?_,λ b=>⟨by unfold I64;omega,⟨j+1,by push_cast;rfl,by omega,c.trans F,Mn4 d u (by simpa using b)⟩,?_⟩⟩
  ·have:=ok.1 _ (List.getElem_mem d)
   simp[this] at b
  ·show f.length-Int.toNat ((j:Int)+1)<f.length-Int.toNat (j:Int)
   omega
 ·have:j=f.length:=by omega
  subst this;rw[List.take_length] at u;refine Cm2 (n.ext c) hk w A λ R S _=>⟨_,rfl,λ W T=>⟨?_,trivial⟩⟩;congr 1;rw[decide_eq_decide];exact⟨λ h=>⟨u,by omega,h⟩,λ h=>h.2.2⟩
theorem Mn1 {sb:Sl}(d:Ps W s f)(g:Bc3 257 W sb bs)(hk: ∀x∈bs,IvS k x)(j:k<=1048576)(n:bs.length<=1048576)(o: ∀p∈f,p.length<=1099511627776)(u:f.length<=1000)(v: ∀(W':PW),Ext W W'->(True)->K (.bool (decide (Mk5 f bs))) W'):
  Aa1 Tryz.prog W0 M 57 [s.v,sb.v] W K:=
 Mi4 (λ _ c=>Mo9 (d.ext c) (g.ext c) hk j n o u) fun | _,W',c,⟨rfl,h⟩=>v W' c h
theorem Mo4 {sb:Sl}(h:Bc3 257 W0 sb bs)(g:Cn7 bs)(hk: ∀x∈bs,IvS k x)(j:k<=1048576):
  Aa0 Tryz.prog 59 [sb.v] W0 M λ v W'=>∃(l:List Value),v = .agg ⟨l⟩/\NmV 257 W' l (Hb9 bs).get:=by
 apply Ml8;have J:=g.1.2;refine Hk9 h hk j (by omega) λ s3 n L hm=>⟨s3,rfl,?_⟩;rw[if_pos g] at hm;obtain⟨o,p,u⟩:=hm;have c:=Hn3 u;refine⟨o,p,c.shp,λ w A B C D E F G I he W d=>⟨_,rfl,?_⟩⟩;have c:NmV 257 n [w.v,.bool A,B.v,C.v,.bool D,E.v,F.v,.bool G,I.v] (λ i=>(Hq4 bs).getD i 0):=by rw[he];exact c
 obtain⟨g0,g1,g2⟩:=c.three;rw[Hl9 bs (by omega)] at g0 g1 g2;exact NmV.mk (g0.ext d) (g1.ext d) (g2.ext d)
theorem Ml9 {sb:Sl}(d:Bc3 257 W sb bs)(g:Cn7 bs)(hk: ∀x∈bs,IvS k x)(j:k<=1048576)(n: ∀(l:List Value) (W':PW),Ext W W'->(NmV 257 W' l (Hb9 bs).get)->K (.agg ⟨l⟩) W'):
  Aa1 Tryz.prog W0 M 59 [sb.v] W K:=
 Mi4 (λ _ c=>Mo4 (d.ext c) g hk j) fun | _,W',c,⟨l,rfl,h⟩=>n l W' c h
def Mr7 (W:PW) (l:List Value) (q:List (List Tm)):Prop:=∃s:Sl,l = [s.v]/\Ps W s q
theorem Mr7.ext {q:List (List Tm)}{l:List Value}(h:Mr7 W l q)(c:Ext W W'):Mr7 W' l q:=let⟨s,e,h⟩:=h;⟨s,e,h.ext c⟩
abbrev Ml6 (W:PW) (s:Sl) (J:List (List (List Tm))):Prop:=Dr1 Mr7 1 W s J
theorem Ml6.ext {J:List (List (List Tm))}(h:Ml6 W s J)(c:Ext W W'):Ml6 W' s J:=Dr1.ext (R:=Mr7) (λ h=>Mr7.ext h) h c
def Mp3 (p:List Tm) (n:Nat):List (List Tm):=(List.range n).map λ k:Nat=>Hc3 p (k:Int)
def Mq0 (f:List (List Tm)):List (List (List Tm)):=f.map λ p=>Mp3 p f.length
theorem Mm4 (p:List Tm)(n:Nat):(Mp3 p n).length=n:=by unfold Mp3;rw[List.length_map,List.length_range]
theorem Mq5 (p:List Tm)(n:Nat):Mp3 p (n+1)=Mp3 p n ++ [Hc3 p (n:Int)]:=by unfold Mp3;rw[List.range_succ,List.map_append];rfl
theorem Mr5 {p:List Tm}{n:Nat}(h:k<(Mp3 p n).length):(Mp3 p n)[k]=Hc3 p (k:Int):=by simp only[Mp3,List.getElem_map,List.getElem_range]
theorem Mn8 (f:List (List Tm)):(Mq0 f).length=f.length:=by unfold Mq0;rw[List.length_map]
theorem Mr6 (h:i<(Mq0 f).length)(c:i<f.length):(Mq0 f)[i]=Mp3 f[i] f.length:=by simp only[Mq0,List.getElem_map]
theorem Ms2 (h:Ml6 W s (Mq0 f))(hi:i<f.length): ∃x:Sl,Aa7 W s 1 i 0 [x.v]/\Ps W x (Mp3 f[i] f.length):=by
 obtain⟨x,⟨t,rfl,c⟩,d⟩:=h.at (i:=i) (by rw[Mn8];exact hi);rw[Mr6 _ hi] at c;exact⟨t,d 0 rfl,c⟩
theorem Mt3 (h:Ml6 W s (Mq0 f)):s.n=f.length:=by rw[h.n,Mn8]
theorem Mr8 (h:Ml6 W s (Mq0 f)){i:Int}(c:0<=i)(h1:i<(f.length:Int)):SX.inB s i:=h.inB c (by rw[Mn8];exact h1)
def kjO (W0:PW) (f:List (List Tm)) (L:List PL) (W:PW):Prop:=match L with
 | [.row l,.val (.int .i64 i)]=>∃j:Nat,i=(j:Int)/\j<=f.length/\Ext W0 W/\An5 (Mr7 W) l ((f.take j).map λ p=>Mp3 p f.length)
 | _=>False
def kjI (W0:PW) (p:List Tm) (n:Nat) (L:List PL) (W:PW):Prop:=match L with
 | [.row l,.val (.int .i64 i)]=>∃j:Nat,i=(j:Int)/\j<=n/\Ext W0 W/\An5 (Gx4 257 169 W) l (Mp3 p j)
 | _=>False
theorem Mm7 (g:Ps W0 s f)(T:f.length<=1000)(D: ∀p∈f,Bd k p/\p.length<=1073741824)(hk:k<=50000000):
  Aa0 Tryz.prog 17 [s.v] W0 M λ v W'=>∃(s':Sl),v=Sl.v s'/\Ml6 W' s' (if f.length<=3 then Mq0 f else[]):=by
 apply Mk8;have U:=g.n;refine⟨λ h E V=>⟨⟨none,0,0⟩,rfl,?_⟩,λ h=>?_⟩
 ·rw[if_neg (by omega)]
  exact Dr1.nil E
 rw[if_pos (by omega)];refine⟨kjO W0 f,cnB f.length,⟨0,rfl,Nat.zero_le _,Ext.refl _,trivial⟩,?_⟩;rintro F i5 G ⟨j,rfl,X,n,c⟩;have I:=c.len;rw[List.length_map,List.length_take] at I;refine⟨λ Y=>?_,λ Z J aa L hO _ W A=>⟨J,rfl,⟨F,⟨_,hO.row.ext A⟩,?_⟩⟩⟩
 ·have o:j<f.length:=by omega
  obtain⟨x,N,O⟩:=(g.ext n).at o;obtain⟨P,hl⟩:=D _ (List.getElem_mem o);refine⟨(g.ext n).inB (by omega) (by omega),x,N,?_⟩;refine⟨kjI G f[j] f.length,cnB f.length,⟨0,rfl,Nat.zero_le _,Ext.refl _,trivial⟩,?_⟩;rintro l10 i11 ac ⟨i,rfl,hi,d,u⟩;have Q:=u.len;rw[Mm4] at Q;refine⟨λ ad=>?_,λ ae R af w hO _=>⟨by simp only[List.length_cons,List.length_nil];omega,by unfold I64;omega,⟨j+1,by push_cast;rfl,by omega,n.trans (d.trans w),?_⟩,?_⟩⟩
  ·refine Hg6 (i:=(i:Int)) (O.ext d) P (by omega) (by omega) λ B ag C S=>⟨B,rfl,by simp only[List.length_cons,List.length_nil];omega,by unfold I64;omega,⟨i+1,by push_cast;rfl,by omega,d.trans C,?_⟩,?_⟩
   ·rw[Mq5]
    exact(u.mono λ _ _ h=>h.ext C).append ⟨⟨B,rfl,S⟩,trivial⟩
   ·show f.length-Int.toNat ((i:Int)+1)<f.length-Int.toNat (i:Int)
    omega
  ·have:i=f.length:=by omega
   subst this;rw[List.take_succ_eq_append_getElem o,List.map_append];exact(c.mono λ _ _ h=>h.ext (d.trans w)).append ⟨⟨R,rfl,⟨l10,⟨_,hO.row⟩,u.mono λ _ _ h=>h.ext w⟩⟩,trivial⟩
  ·show f.length-Int.toNat ((j:Int)+1)<f.length-Int.toNat (j:Int)
   omega
 ·have:j=f.length:=by omega
  subst this;rw[List.take_length] at c;exact c.mono λ _ _ h=>h.ext (L.trans A)
theorem Mk9 (d:Ps W s f)(g:f.length<=1000)(j: ∀p∈f,Bd k p/\p.length<=1073741824)(hk:k<=50000000)(n: ∀(s':Sl) (W':PW),Ext W W'->(Ml6 W' s' (if f.length<=3 then Mq0 f else[]))->K (Sl.v s') W'):
  Aa1 Tryz.prog W0 M 17 [s.v] W K:=
 Mi4 (λ _ c=>Mm7 (d.ext c) g j hk) fun | _,W',c,⟨s',rfl,h⟩=>n s' W' c h
def kvI (W0:PW) (n:Nat) (g:Nat->Iv) (L:List PL) (W:PW):Prop:=match L with
 | [.val (.int .i64 i),.cells l]=>∃j:Nat,i=(j:Int)/\j<=n/\Ext W0 W/\SpV 257 W l (g j)
 | _=>False
def kqI (W0:PW) (n:Nat) (g:Nat->Rat) (L:List PL) (W:PW):Prop:=match L with
 | [.val (.int .i64 i),.cells l]=>∃j:Nat,i=(j:Int)/\j<=n/\Ext W0 W/\QtV 257 W l (g j)
 | _=>False
def cnC (n:Nat) (L:List PL) (_:PW):Nat:=match L with
 | [.val (.int .i64 z),_]=>n-z.toNat
 | _=>0
theorem QtV.get {t:Sl}{b:Bool}{q:Rat}(h:QtV 257 W [s.v,.bool b,t.v] q):Ab3 257 W s b t q:=by
 obtain⟨s',b',c,e,h⟩:=h;simp only[List.cons.injEq,Value.bool.injEq,and_true] at e;rw[Sl.Ck0 e.1,e.2.1,Sl.Ck0 e.2.2];exact h
theorem Mo2 {sb:Sl}{c:Nat->Nat}{q:Nat}(G:Ml6 W0 sj (Mq0 f))(I:Gf9 257 50 84 W0 sy f.length c y)(J:Bc3 257 W0 sb bs)(hc: ∀a,a<f.length->c a=f.length)(h:KrB k m l f y bs)(hF:Mk5 f bs)(hg: ∀p∈f,POk p)(hi:i<f.length)(L:q<f.length):
  Aa0 Tryz.prog 65 [sj.v,sy.v,sb.v,.int .i64 (i:Int),.int .i64 (q:Int)] W0 M λ v W'=>∃(r:List Value),v = .agg ⟨r⟩/\SpV 257 W' r (krS f y bs i q f.length):=by
 apply Mm2;have aL:=h.n;have N:=h.l1;have ad:=I.n;have aM:=Mt3 G;have aN:=J.n;have ae:Gf6 W0.w.heap.size W0:=Nat.le_refl _;rw[ad];refine Mj8 ae (by omega) (by omega) λ s3 W2 ag j=>⟨s3,rfl,?_⟩;have j:=j.mat;obtain⟨s4,e4,g4⟩:=j.at (i:=i) hi;obtain⟨O,P,Q,e5,g5⟩:=g4.at (i:=q) L;refine⟨j.inB (by omega) (by omega),s4,e4,g4.inB (by omega) (by omega),O,P,Q,e5,?_⟩;have g5:Ab3 257 W2 O P Q (if i=q then 1 else 0):=g5;refine De4 g5 λ l9 W9 ak u=>u.out λ aP aQ aR aS aT aU u=>?_;refine⟨kvI W9 f.length (krS f y bs i q),cnC f.length,⟨0,rfl,Nat.zero_le _,Ext.refl _,u⟩,?_⟩;rintro aV aW aX aY aZ a0 i24 a1 ⟨n,rfl,hn,R,S⟩;have w:=ag.trans (ak.trans R);refine⟨λ a2=>?_,λ a3 W hE=>⟨_,rfl,?_⟩⟩
 ·have d:n<f.length:=by omega
  have T:=G.ext w;obtain⟨an,ao,U⟩:=Ms2 T d;obtain⟨ap,aq,V⟩:=U.at (i:=q) (by rw[Mm4];exact L);rw[Mr5] at V;have g:=h.p _ (List.getElem_mem d);have ar:=hF.1 _ (List.getElem_mem d);have A:=hg _ (List.getElem_mem d);have au:=Mp8 ar A (k:=q) (by omega);have z1:=g.n.m1;have z2:=g.len;have z3:=g.k1;have z4:=g.bl;have a4:=Hj1 f[n] (q:Int);have aw:BxN (k+1) m (Hc3 f[n] (q:Int)) bs:=⟨Hg1 g.n.bd A _,g.n.sd,Hh5 A _,by omega,by omega,z1,by omega⟩;refine⟨Mr8 T (by omega) (by omega),an,ao,U.inB (by omega) (by rw[Mm4];omega),ap,aq,?_⟩;refine Bi4 V (J.ext w) aw λ a5 a6 B o=>?_;rw[if_pos au] at o;obtain⟨ax,ay,az,aA,aB,aC,rfl,v1,v2⟩:=o;have o:=SpV.mk v1 v2;refine⟨ax,ay,az,aA,aB,aC,_,rfl,?_⟩;have X:=I.ext (w.trans B);obtain⟨aD,aE,C⟩:=X.at (i:=i) hi;rw[hc i hi] at C;obtain⟨aF,aG,aH,aI,aJ⟩:=C.at (i:=n) d;refine⟨X.inB (by omega) (by omega),aD,aE,C.inB (by omega) (by omega),aF,aG,aH,aI,?_⟩;have Y:IvS 460000 (Aq8 (Bm3 bs) (Hc3 f[n] (q:Int))):=(g.Hp1 (q:Int)).sz;have Z:=h.y i n hi d;refine Hu2 o aJ (IvS.mono Y (show 460000<=100000000 by omega)) (Z.mono N) (by omega) λ a7 a8 D E=>E.out λ a9 ba bb bc bd be E=>⟨D,?_⟩;have zs:=h.S3 hi q (n:=n) hn;have zc:IvS (100000000+100000000) (De8 (Aq8 (Bm3 bs) (Hc3 f[n] (q:Int))) (y i n)):=IvS.scale (IvS.mono Y (by omega)) (Z.mono N);refine Hi9 (S.ext (B.trans D)) E zs (IvS.mono zc (by omega)) (by omega) λ bf bg aa F=>F.out λ bh bi bj bk bl bm F=>⟨aa,by unfold I64;omega,⟨n+1,by push_cast;rfl,by omega,R.trans (B.trans (D.trans aa)),?_⟩,?_⟩
  ·rw[krS,Mq1 d]
   exact F
  ·show f.length-Int.toNat ((n:Int)+1)<f.length-Int.toNat (n:Int)
   omega
 ·have:n=f.length:=by omega
  subst this;exact S.ext hE
theorem Ml4 {sb:Sl}{c:Nat->Nat}{q:Nat}(g:Ml6 W sj (Mq0 f))(j:Gf9 257 50 84 W sy f.length c y)(n:Bc3 257 W sb bs)(o: ∀a,a<f.length->c a=f.length)(u:KrB k m l f y bs)(hF:Mk5 f bs)(v: ∀p∈f,POk p)(hi:i<f.length)(w:q<f.length)(A: ∀(r:List Value) (W':PW),Ext W W'->(SpV 257 W' r (krS f y bs i q f.length))->K (.agg ⟨r⟩) W'):
  Aa1 Tryz.prog W0 M 65 [sj.v,sy.v,sb.v,.int .i64 (i:Int),.int .i64 (q:Int)] W K:=
 Mi4 (λ _ d=>Mo2 (g.ext d) (j.ext d) (n.ext d) o u hF v hi w) fun | _,W',d,⟨r,rfl,h⟩=>A r W' d h
def Mn5 (f:List (List Tm)) (r:Nat) (c:Nat->Nat) (bs:List Iv):Prop:=Mk5 f bs/\Gf8 r c/\r=bs.length/\c 0=bs.length
instance (r:Nat) (c:Nat->Nat):Decidable (Gf8 r c):=by unfold Gf8;infer_instance
instance (f:List (List Tm)) (r:Nat) (c:Nat->Nat) (bs:List Iv):Decidable (Mn5 f r c bs):=by unfold Mn5;infer_instance
structure KrN (k m l:Nat) (f:List (List Tm)) (r:Nat) (c:Nat->Nat) (y:Nat->Nat->Rat) (bs:List Iv):Prop where
 p: ∀q∈f,Bd k q/\q.length<=30/\POk q
 n:f.length<=1000
 k1:k<=300000
 s: ∀x∈bs,IvS m x
 m1:m<=100
 b:bs.length<=1000
 y: ∀i j,i<r->j<c i->Sz l (y i j)
 l1:l<=100000000
 r1:r<=1000
theorem KrN.B {c:Nat->Nat}(h:KrN k m l f r c y bs)(ok:Mn5 f r c bs):KrB k m l f y bs:=by
 have h1:=ok.1.2.1;have g:=ok.1.2.2.1.2;have n:=ok.2.2.1;have o:=ok.2.2.2;have k1:=h.k1;refine⟨λ q d=>?_,by omega,λ i j hi p=>h.y i j (by omega) ?_,h.l1⟩
 ·obtain⟨a,b,c⟩:=h.p q d
  exact⟨⟨a,h.s,c,by omega,by omega,h.m1,by omega⟩,b,h.k1,by omega⟩
 ·have:=ok.2.1.1 i (by omega)
  omega
def kaI (W0:PW) (f:List (List Tm)) (y:Nat->Nat->Rat) (bs:List Iv) (L:List PL) (W:PW):Prop:=match L with
 | [.row l,.val (.int .i64 i)]=>∃j:Nat,i=(j:Int)/\j<=bs.length/\Ext W0 W/\An5 (SpV 257 W) l ((List.range j).map λ i=>krR f y bs i bs.length)
 | _=>False
theorem Mo0 {sb:Sl}{c:Nat->Nat}(D:Ps W0 s f)(I:Gf9 257 50 84 W0 sy r c y)(J:Bc3 257 W0 sb bs)(d:KrN k m l f r c y bs):
  Aa0 Tryz.prog 13 [s.v,sy.v,sb.v] W0 M λ v W'=>∃(s':Sl),v = .tuple ⟨[Sl.v s',.bool (decide (Mn5 f r c bs))]⟩/\Bc3 257 W' s' (if Mn5 f r c bs then krK f y bs else[]):=by
 apply Ml5;have bT:=D.n;have bU:=I.n;have bV:=J.n;have n1:=d.m1;have n2:=d.b;have n3:=d.n;have n4:=d.k1;have n5:=d.r1;have no:¬Mn5 f r c bs->∀W:PW,∃s':Sl,(Value.tuple ⟨[.slice none 0 0,.bool false]⟩) = .tuple ⟨[Sl.v s',.bool (decide (Mn5 f r c bs))]⟩/\Bc3 257 W s' (if Mn5 f r c bs then krK f y bs else[]):=λ ai W=>⟨⟨none,0,0⟩,by rw[decide_eq_false ai],by rw[if_neg ai];exact Dr1.nil W⟩;refine Mn1 D J d.s (by omega) (by omega) (λ p w=>by have:=(d.p p w).2.1;omega) n3 λ W2 aj _=>⟨_,rfl,λ b W _=>no (λ ok=>by simp[ok.1] at b) W,λ b=>?_⟩;have hF:Mk5 f bs:=by simpa using b
 refine Gn0 (I.ext aj) (by omega) λ b7 W6 aL ak=>⟨b7,rfl,λ e W _=>no (λ ok=>by rw[ak.2 ok.2.1] at e;cases e) W,λ e=>?_⟩;have hR:Gf8 r c:=ak.1 (by simpa using e);refine⟨λ Q W _=>no (λ ok=>Q (by have:=ok.2.2.1;omega)) W,λ heq=>?_⟩;have aM:r=bs.length:=by omega
 have R:=hF.2.2;have b1:=hF.2.1;have b2:=R.1.1;have b3:=R.1.2;have S:=aj.trans aL;have am:=I.ext S;obtain⟨aN,aO,g10⟩:=am.at (i:=0) (by omega);have b4:=g10.n;refine⟨am.inB (by omega) (by omega),aN,aO,λ Q W _=>no (λ ok=>Q (by have:=ok.2.2.2;omega)) W,λ b5=>?_⟩;have ok:Mn5 f r c bs:=⟨hF,hR,aM,by omega⟩;have g:=d.B ok;have b6:=d.l1;have aP: ∀p∈f,POk p:=λ p w=>(d.p p w).2.2;have hc: ∀a,a<f.length->c a=f.length:=λ a L=>by have:=hR.1 a (by omega);omega
 have aQ:Gf9 257 50 84 W0 sy f.length c y:=by
  have e:f.length=r:=by omega
  rw[e];exact I
 refine Ml9 (J.ext S) R d.s (by omega) λ lp b8 aR hm=>?_;obtain⟨aS,aT,aU,aV,aW,aX,aY,aZ,a0,rfl,m0,m1,m2⟩:=hm;have hm:=NmV.mk (q:=(Hb9 bs).get) m0 m1 m2;refine⟨aS,aT,aU,aV,aW,aX,aY,aZ,a0,rfl,?_⟩;have ao:=S.trans aR;refine Mk9 (k:=k) (D.ext ao) n3 (λ p w=>⟨(d.p p w).1,by have:=(d.p p w).2.1;omega⟩) (by omega) λ a1 a2 ap hJ=>⟨a1,rfl,?_⟩;rw[if_pos (by omega)] at hJ;have a3:=ao.trans ap;rw[if_pos ok,decide_eq_true ok];refine⟨kaI a2 f y bs,cnB bs.length,⟨0,rfl,Nat.zero_le _,Ext.refl _,trivial⟩,?_⟩;rintro a4 i29 a5 ⟨i,rfl,hi,N,L⟩;have a6:=L.len;rw[List.length_map,List.length_range] at a6;refine⟨λ b9=>?_,λ ca a7 cb a8 hO _ W hE=>⟨a7,rfl,⟨a4,⟨_,hO.row.ext hE⟩,?_⟩⟩⟩
 rotate_left
 ·have:i=bs.length:=by omega
  subst this;exact L.mono λ _ _ h=>h.ext (a8.trans hE)
 have cc:i<bs.length:=by omega
 have o:i<f.length:=by omega
 have T:=a3.trans N;have U:=aQ.ext T;obtain⟨a9,ba,au⟩:=U.at (i:=i) o;rw[hc i o] at au;refine⟨U.inB (by omega) (by omega),a9,ba,⟨by omega,by omega⟩,?_⟩;have V:=hm.ext (ap.trans N);obtain⟨av,aw,ax,bb,hq⟩:=V.box (j:=i) (by omega);refine⟨av,aw,ax,bb,kqI a5 f.length (krA f y bs i),cnC f.length,⟨0,rfl,Nat.zero_le _,Ext.refl _,av,aw,ax,rfl,hq⟩,?_⟩;rintro cd ce cf i40 cg ⟨n,rfl,hn,E,O⟩;have O:=QtV.get O;refine⟨λ ch=>?_,λ ci=>?_⟩
 ·have A:n<f.length:=by omega
  have ay:=T.trans E;obtain⟨be,bf,bg⟩:=(D.ext ay).at A;have az:=au.ext E;obtain⟨bh,bi,bj,bk,bl⟩:=az.at (i:=n) A;refine⟨(D.ext ay).inB (by omega) (by omega),be,bf,az.inB (by omega) (by omega),bh,bi,bj,bk,?_⟩;have B:=g.p _ (List.getElem_mem A);have X:=(V.ext E).three;refine Gr5 (u:=Hb9 bs) (l:=404) bg X.1 X.2.1 X.2.2 B.n.bd.sz (Hc8 B) (by omega) (Nat.le_trans (Hh1 B.len B.k1) (by omega)) (by omega) λ bm bn bo cj P bp=>⟨bm,bn,bo,rfl,P,?_⟩;refine Ak9 (bl.ext P) bp (g.y i n o A) B.Hs2 (by omega) (by omega) λ bq br bt ck aA bu=>⟨bq,br,bt,rfl,?_⟩;refine Gr0 (O.ext (P.trans aA)) bu (g.A3 o hn) ((g.y i n o A).mul B.Hs2) (by omega) (by omega) λ aB aC aD cl bv bw=>⟨aB,aC,aD,rfl,by unfold I64;omega,⟨n+1,by push_cast;rfl,by omega,E.trans (P.trans (aA.trans bv)),aB,aC,aD,rfl,?_⟩,?_⟩
  ·rw[krA,Mq1 A]
   exact bw
  ·show f.length-Int.toNat ((n:Int)+1)<f.length-Int.toNat (n:Int)
   omega
 have bx:n=f.length:=by omega
 subst bx;refine De4 O λ cm bz bA Y=>Y.out λ cn co cp cq cr cs Y=>?_;refine⟨kvI bz bs.length (krR f y bs i),cnC bs.length,⟨0,rfl,Nat.zero_le _,Ext.refl _,Y⟩,?_⟩;rintro ct cu cv cw cx cy i77 cz ⟨q,rfl,cA,aE,aF⟩;have C:=E.trans (bA.trans aE);refine⟨λ cB=>?_,λ cC=>⟨by simp only[List.length_cons,List.length_nil];omega,by unfold I64;omega,⟨i+1,by push_cast;rfl,by omega,N.trans C,?_⟩,?_⟩⟩
 ·have Z:q<bs.length:=by omega
  have bB:q<f.length:=by omega
  have bC:=T.trans C;have aa:=J.ext bC;obtain⟨x,⟨bD,bE,bF,bG,bH,bI,rfl,v1,v2⟩,bJ⟩:=aa.at Z;refine⟨aa.inB (by omega) (by omega),bD,bE,bF,bG,bH,bI,bJ 0 rfl,⟨by omega,by omega⟩,?_⟩;obtain⟨bK,bL,bM,bN,bO⟩:=(V.ext C).box (j:=q) (by omega);refine⟨bK,bL,bM,bN,?_⟩;refine Ml4 (i:=i) (q:=q) (hJ.ext (N.trans C)) (U.ext C) aa hc g hF aP o bB λ cD cE F ab=>ab.out λ cF cG cH cI cJ cK ab=>?_;refine De4 (bO.ext F) λ cL cM G ac=>ac.out λ cN cO cP cQ cR cS ac=>?_;have zm:=g.mid (by omega) q;have aH:=Fi1 Z;have zb:=d.s _ (List.getElem_mem Z);refine Hi9 (x:=Bm3 bs q) (k:=404) (aH ▸ SpV.mk (v1.ext (F.trans G)) (v2.ext (F.trans G))) ac (aH ▸ IvS.mono zb (by omega)) ⟨zm,zm⟩ (by omega) λ cT cU ad ae=>ae.out λ cV cW cX cY cZ c0 ae=>?_;have zd:=g.Hr8 (by omega) q;have zs:=g.S3 o q (Nat.le_refl _);refine Cx4 (k:=302000000) (ab.ext (G.trans ad)) ae zs (IvS.mono zd (by omega)) (by omega) λ c1 c2 aJ af=>af.out λ c3 c4 c5 c6 c7 c8 af=>?_;have zr:=g.R3 o (n:=q) (by omega);refine Cy0 (k:=1300000000) (aF.ext (F.trans (G.trans (ad.trans aJ)))) af zr (IvS.mono (IvS.mul zs zd) (by omega)) (by omega) λ c9 da bR ag=>ag.out λ db dc dd de df dg ag=>⟨by unfold I64;omega,⟨q+1,by push_cast;rfl,by omega,aE.trans (F.trans (G.trans (ad.trans (aJ.trans bR)))),ag⟩,?_⟩;show bs.length-Int.toNat ((q:Int)+1)<bs.length-Int.toNat (q:Int);omega
 ·have bS:q=bs.length:=by omega
  subst bS;rw[List.range_succ,List.map_append];exact(L.mono λ _ _ h=>h.ext C).append ⟨aF,trivial⟩
 ·show bs.length-Int.toNat ((i:Int)+1)<bs.length-Int.toNat (i:Int)
  omega
theorem Mj7 {sb:Sl}{c:Nat->Nat}(g:Ps W s f)(j:Gf9 257 50 84 W sy r c y)(n:Bc3 257 W sb bs)(o:KrN k m l f r c y bs)(p: ∀(s':Sl) (W':PW),Ext W W'->(Bc3 257 W' s' (if Mn5 f r c bs then krK f y bs else[]))->K (.tuple ⟨[Sl.v s',.bool (decide (Mn5 f r c bs))]⟩) W'):
  Aa1 Tryz.prog W0 M 13 [s.v,sy.v,sb.v] W K:=
 Mi4 (λ _ d=>Mo0 (g.ext d) (j.ext d) (n.ext d) o) fun | _,W',d,⟨s',rfl,h⟩=>p s' W' d h
def kpI (W0:PW) (f:List (List Tm)) (y:Nat->Nat->Rat) (bs:List Iv) (n:Nat) (L:List PL) (W:PW):Prop:=match L with
 | [.val (.int .i64 i)]=>∃j:Nat,i=(j:Int)/\j<=n/\Ext W0 W/\∀i,i<j->Mr9 (krR f y bs i bs.length) (Bm3 bs i)
 | _=>False
instance (f:List (List Tm)) (y:Nat->Nat->Rat) (bs:List Iv):Decidable (Mq8 f y bs):=by unfold Mq8;infer_instance
theorem Mr4 (h:KrB k m l f y bs)(hF:Mk5 f bs)(hi:i<bs.length):IvS 1300000000 (krR f y bs i bs.length):=by
 have:=hF.2.1;exact h.R3 (by omega) (by omega)
theorem Mm8 {sb:Sl}{c:Nat->Nat}(E:Ps W0 s f)(F:Gf9 257 50 84 W0 sy r c y)(p:Bc3 257 W0 sb bs)(g:KrN k m l f r c y bs):
  Aa0 Tryz.prog 16 [s.v,sy.v,sb.v] W0 M λ v W'=>v = .bool (decide (Mn5 f r c bs/\Mq8 f y bs))/\True:=by
 apply Ml0;have ah:=p.n;have n1:=g.m1;have n2:=g.b;refine Mj7 E F p g λ s3 w G n=>⟨s3,_,rfl,?_⟩
 by_cases ok:Mn5 f r c bs
 ·rw[if_pos ok] at n
  have I:=g.B ok;have u:=n.n;rw[Mk0] at u;refine⟨kpI w f y bs bs.length,Kq0 bs.length,⟨0,rfl,Nat.zero_le _,Ext.refl _,λ i h=>by omega⟩,?_⟩;rintro i7 J ⟨j,rfl,hj,o,A⟩;refine⟨λ N=>?_,λ O W _=>⟨?_,trivial⟩⟩
  ·have d:j<bs.length:=by omega
   have B:=n.ext o;obtain⟨x,⟨P,Q,R,S,T,U,rfl,v1,v2⟩,V⟩:=B.at (i:=j) (by rw[Mk0];exact d);rw[Mr2] at v1 v2;have C:=p.ext (G.trans o);obtain⟨x',⟨X,Y,Z,aa,ab,ac,rfl,u1,u2⟩,af⟩:=C.at d;refine⟨B.inB (by omega) (by rw[Mk0];omega),P,Q,R,S,T,U,V 0 rfl,C.inB (by omega) (by omega),X,Y,Z,aa,ab,ac,af 0 rfl,?_⟩;have D:=Fi1 d;refine Mj5 (x:=krR f y bs j bs.length) (y:=Bm3 bs j) (k:=1300000000) (SpV.mk v1 v2) (D ▸ SpV.mk u1 u2) (Mr4 I ok.1 d) (D ▸ IvS.mono (g.s _ (List.getElem_mem d)) (by omega)) (by omega) λ am ag _=>⟨_,rfl,λ b W _=>⟨?_,trivial⟩,λ b=>⟨by unfold I64;omega,⟨j+1,by push_cast;rfl,by omega,o.trans ag,λ i hi=>?_⟩,?_⟩⟩
   ·rw[decide_eq_false λ e=>by simp[e.2 j d] at b]
   ·by_cases e:i=j
    ·subst e
     simpa using b
    ·exact A i (by omega)
   ·show bs.length-Int.toNat ((j:Int)+1)<bs.length-Int.toNat (j:Int)
    omega
  ·have:j=bs.length:=by omega
   subst this;rw[decide_eq_true ok,decide_eq_true ⟨ok,A⟩]
 ·rw[if_neg ok] at n
  have u:=n.n;refine⟨λ L W=>match L with | [.val (.int .i64 i)]=>i=0/\Ext w W | _=>False,λ _ _=>0,⟨rfl,Ext.refl _⟩,?_⟩;rintro i7 J ⟨rfl,o⟩;refine⟨λ N=>?_,λ O W _=>⟨?_,trivial⟩⟩
  ·have:s3.n=0:=u
   omega
  ·rw[decide_eq_false ok,decide_eq_false λ e=>ok e.1]
theorem Mj3 {sb:Sl}{c:Nat->Nat}(g:Ps W s f)(j:Gf9 257 50 84 W sy r c y)(n:Bc3 257 W sb bs)(o:KrN k m l f r c y bs)(p: ∀(W':PW),Ext W W'->(True)->K (.bool (decide (Mn5 f r c bs/\Mq8 f y bs))) W'):
  Aa1 Tryz.prog W0 M 16 [s.v,sy.v,sb.v] W K:=
 Mi4 (λ _ d=>Mm8 (g.ext d) (j.ext d) (n.ext d) o) fun | _,W',d,⟨rfl,h⟩=>p W' d h
end Go.Proofs.YtkgeopnakkcdoaaGreatDoor
namespace Go.Proofs.YtkgeopnakkcdoaaGreatDoor
open Go Go.Shelf Go.Proofs
def Dm9:Go.Shelf.Ren:=⟨fun | 28=>264 | n=>n,fun | 27=>257 | 3=>3 | 4=>4 | 25=>290 | 53=>351 | 0=>0 | 5=>5 | n=>n,fun | 0=>1 | n=>n⟩
theorem Ff9:Go.Proofs.Lays7.n28 Tryz.prog Dm9 where
 mixed:=by kernel_rfl
 f28:=Tryz.func264.trans (congrArg some (by kernel_rfl))
 t0:=Tryz.underlying0
 a0:=Tryz.isAgg0
 z0:=Tryz.sizeOf0
 v0:=Tryz.zeroValue0
 i0:=by kernel_rfl
 t3:=Tryz.underlying3
 a3:=Tryz.isAgg3
 z3:=Tryz.sizeOf3
 v3:=Tryz.zeroValue3
 i3:=by kernel_rfl
 t4:=Tryz.underlying4
 a4:=Tryz.isAgg4
 z4:=Tryz.sizeOf4
 v4:=Tryz.zeroValue4
 i4:=by kernel_rfl
 t5:=Tryz.underlying5
 a5:=Tryz.isAgg5
 z5:=Tryz.sizeOf5
 v5:=Tryz.zeroValue5
 i5:=by kernel_rfl
 t25:=Tryz.underlying290
 a25:=Tryz.isAgg290
 z25:=Tryz.sizeOf290
 v25:=Tryz.zeroValue290
 i25:=by kernel_rfl
 t27:=Tryz.underlying257
 a27:=Tryz.isAgg257
 z27:=Tryz.sizeOf257
 v27:=Tryz.zeroValue257
 i27:=by kernel_rfl
 t53:=Tryz.underlying351
 a53:=Tryz.isAgg351
 z53:=Tryz.sizeOf351
 v53:=Tryz.zeroValue351
 i53:=by kernel_rfl
 g0:=by kernel_rfl
end Go.Proofs.YtkgeopnakkcdoaaGreatDoor
namespace Go.Proofs.YtkgeopnakkcdoaaGreatDoor
open Go Go.SX
variable {M:Nat->Prop}{W W0:PW}{x:Nat}
def Ac6 (W:PW):Prop:=(∀j,j<32->W.w.cell? ⟨1,j,none⟩=some (.int .u8 ((Go.Lib.deBruijn32tab.getD j 0:Nat):Int)))/\1<W.w.heap.size/\¬W.S 1
theorem Ac6.ext {W':PW}(h:Ac6 W)(c:Ext W W'):Ac6 W':=by
 have hk:=c.Ai1 _ h.2.1 h.2.2;refine⟨λ j d=>?_,Nat.lt_of_lt_of_le h.2.1 c.size,hk.2⟩;have:=h.1 j d;unfold World.cell? at this⊢;dsimp only at this⊢;rw[hk.1];exact this
theorem Fh2 (d:Ac6 W0)(g:x<4294967296):
  Aa0 Tryz.prog 264 [.int .u32 (x:Int)] W0 M λ v W'=>v = .int .i64 ((Go.Lib.ctz 32 x:Nat):Int)/\True:=by
 refine⟨⟨_,Tryz.func264,by kernel_rfl,by kernel_rfl⟩,λ n=>?_⟩;have c:=Proofs.Any7.bits_TrailingZeros32 Ff9 x g W0.w λ _ j h=>d.1 j h
 change Calls Tryz.prog 264 _ _ _ at c
 refine Calls.mono c ?_;rintro e w' ⟨rfl,rfl⟩;exact⟨_,rfl,Am7.refl _ _,rfl,trivial⟩
theorem El3 {K:Value->PW->Prop}(d:Ac6 W)(g:x<4294967296)(j: ∀(W':PW),Ext W W'->(True)->K (.int .i64 ((Go.Lib.ctz 32 x:Nat):Int)) W'):
  Aa1 Tryz.prog W0 M 264 [.int .u32 (x:Int)] W K:=
 Mi4 (λ _ c=>Fh2 (d.ext c) g) fun | _,W',c,⟨rfl,h⟩=>j W' c h
end Go.Proofs.YtkgeopnakkcdoaaGreatDoor
namespace Go.Proofs.YtkgeopnakkcdoaaGreatDoor
open Go Go.SX
variable {M:Nat->Prop}{W0:PW}{a b:ByteArray}
def spP (a b:ByteArray):Option Iv:=match Ab7 a,Ab7 b with
 | some p,some q=>if p<=q then some (p,q) else none
 | _,_=>none
theorem Dp3 {x:Iv}(h:spP a b=some x):Ab7 a=some x.1/\Ab7 b=some x.2/\x.1<=x.2:=by
 unfold spP at h
 cases c:Ab7 a with
 | none=>rw[c] at h;cases h
 | some p=>
  cases d:Ab7 b with
  | none=>rw[c,d] at h;cases h
  | some q=>
   rw[c,d] at h;dsimp only at h;split at h
   ·cases h;exact⟨rfl,rfl,by assumption⟩
   ·cases h
theorem Bg2 {α:Type}{o:Option α}:er o=0↔o.isSome=true:=by
 unfold er;cases o<;>simp
theorem At4:Sz 4000 ((Ab7 a).getD 0):=by
 cases h:Ab7 a with
 | none=>exact Sz.zero (by omega)
 | some q=>exact(Aw6 h).1
theorem Cq2 (C:a.size<=1099511627776)(D:b.size<=1099511627776):
  Aa0 Tryz.prog 181 [.agg ⟨[.string a,.string b]⟩] W0 M λ v W'=>∃(l:List Value),∃(e:Int),v = .tuple ⟨[.agg ⟨l⟩,.int .i64 e]⟩/\SpV 257 W' l ((spP a b).getD (0,0))/\(e=0↔(spP a b).isSome=true):=by
 apply Bz8;refine As8 C λ s3 E F W2 ad G=>⟨s3,E,F,_,rfl,λ j I ae=>?_,λ heq=>?_⟩
 ·have d:Ab7 a=none:=by
   cases h:Ab7 a with
   | none=>rfl
   | some q=>exact absurd (Bg2.2 (by rw[h];rfl)) j
  have c:spP a b=none:=by unfold spP;rw[d]
  refine⟨_,_,rfl,by rw[c];exact SpV.zero I,?_⟩;rw[c,Bg2,d];simp
 ·have h1:=Bg2.1 (Decidable.not_not.1 heq)
  obtain⟨p,n⟩:=Option.isSome_iff_exists.1 h1;refine As8 D λ J L N W9 O P=>⟨J,L,N,_,rfl,λ j Q ag=>?_,λ R=>?_⟩
  ·have d:Ab7 b=none:=by
    cases h:Ab7 b with
    | none=>rfl
    | some q=>exact absurd (Bg2.2 (by rw[h];rfl)) j
   have c:spP a b=none:=by unfold spP;rw[n,d]
   refine⟨_,_,rfl,by rw[c];exact SpV.zero Q,?_⟩;rw[c,Bg2,d];simp
  ·have S:=Bg2.1 (Decidable.not_not.1 R)
   obtain⟨q,w⟩:=Option.isSome_iff_exists.1 S;have T:=At4 (a:=a);have z2:=At4 (a:=b);refine Cq7 (G.ext O) P T z2 (by omega) λ l ah ai o=>?_;rw[n,w] at o⊢;simp only[Option.getD_some] at o⊢;have c:spP a b=if p<=q then some (p,q) else none:=by unfold spP;rw[n,w]
   obtain⟨U,V,X,Y,Z,aa,rfl,k1,A⟩:=o;refine⟨U,V,X,Y,Z,aa,_,rfl,λ u ab aj=>?_,λ g ak B=>?_⟩
   ·have u:¬p<=q:=by simpa using u
    rw[c,if_neg u];exact⟨_,_,rfl,SpV.zero ab,by decide⟩
   ·have g:p<=q:=by simpa using g
    rw[if_pos g] at k1 A;rw[c,if_pos g];exact⟨_,_,rfl,SpV.mk (x:=(p,q)) (k1.ext B) (A.ext B),by simp⟩
theorem Az3 {W:PW}{K:Value->PW->Prop}(d:a.size<=1099511627776)(g:b.size<=1099511627776)(j: ∀(l:List Value) (e:Int) (W':PW),Ext W W'->(SpV 257 W' l ((spP a b).getD (0,0))/\(e=0↔(spP a b).isSome=true))->K (.tuple ⟨[.agg ⟨l⟩,.int .i64 e]⟩) W'):
  Aa1 Tryz.prog W0 M 181 [.agg ⟨[.string a,.string b]⟩] W K:=
 Mi4 (λ _ c=>Cq2 d g) fun | _,W',c,⟨l,e,rfl,h⟩=>j l e W' c h
end Go.Proofs.YtkgeopnakkcdoaaGreatDoor
namespace Go.Proofs.YtkgeopnakkcdoaaGreatDoor
open Go Go.SX Go.ChangeShapes Go.WideShapes Go.ChangeAt Go.RowKit Go.Deep
variable {H:Type}{W:World}{a:Addr}
theorem Cp9:ownKnob Tryz.prog.godebug=none:=by kernel_rfl
theorem laidOut:laidOutB Tryz.prog=true:=by kernel_rfl
theorem Ct5:Tryz.prog.cellsOf 9=1:=by kernel_rfl
theorem Cf4 {b:Nat}{o:Nat}{v:Value}(h:W.cell? ⟨b,o,none⟩=some v): ∃cs t c,W.heap[b]?=some (.cells cs t c)/\cs[o]?=some v:=by
 unfold World.cell? at h
 cases e:W.heap[b]? with
 | none=>simp[e] at h
 | some d=>
  cases d with
  | cells cs t c=>exact⟨cs,t,c,rfl,by simpa[e] using h⟩
  | _=>simp[e] at h
theorem Ev9 (d:DataW H):1<=Rows.uptoBulk d:=by
 cases d with
 | lit l=>cases l<;>simp[Rows.uptoBulk]
 | nil=>simp[Rows.uptoBulk]
 | ptr d=>simp[Rows.uptoBulk]
 | slice elems spare=>simp[Rows.uptoBulk]
 | agg parts=>simp[Rows.uptoBulk]
 | iface t d=>simp[Rows.uptoBulk]
 | map entries=>simp[Rows.uptoBulk]
 | held h=>simp[Rows.uptoBulk]
theorem Eo6 {d:DataW H}{l:List (DataW H)}(h:d∈l):Rows.uptoBulk d<=Rows.uptoBulkAll l:=by
 induction l with
 | nil=>cases h
 | cons x r ih=>
  simp only[Rows.uptoBulkAll]
  cases List.mem_cons.1 h with
  | inl e=>subst e;omega
  | inr e=>have:=ih e;omega
theorem Dj1 (l:List (DataW H)):l.length<=Rows.uptoBulkAll l:=by
 induction l with
 | nil=>simp[Rows.uptoBulkAll]
 | cons x r ih=>have:=Ev9 x;simp only[Rows.uptoBulkAll,List.length_cons];omega
theorem Bz7 {V:Nat->List Value}{n c sz:Nat}(h: ∀j,j<n->∀i v,(V j)[i]?=some v->W.cell? (a.add (j*sz+i))=some v)(p: ∀j,j<n->(V j).length=sz)(A:0<sz)(I:n<=c)(B:c<=maxLen)(h1: ∀j,j<n->∀u∈V j,u.oneCell'=true):
  Bf9 ⟨W,λ _=>False⟩ sz ⟨some a,n,c⟩ ((List.range n).map V):=by
 have o: ∀x∈(List.range n).map V,x.length=sz/\∀u∈x,u.oneCell'=true:=by
  intro x d;obtain⟨j,g,rfl⟩:=List.mem_map.1 d;exact⟨p j (List.mem_range.1 g),h1 j (List.mem_range.1 g)⟩
 by_cases J:n=0
 ·subst J
  exact⟨0,rfl,Nat.zero_le _,B,o,.inl rfl⟩
 ·obtain⟨b,off,sp⟩:=a
  have Q:=p 0 (by omega);obtain⟨v0,L⟩: ∃v,(V 0)[0]?=some v:=⟨_,List.getElem?_eq_getElem (by omega)⟩;have C:=h 0 (by omega) 0 v0 L;have N:sp=none:=by simpa[Addr.add] using World.cell?_spot C
  subst N;obtain⟨cs,t,O,D,_⟩:=Cf4 (by rw[<-add_plain];exact C);refine⟨t,by simp,I,B,o,.inr ⟨b,off,cs,O,rfl,id,D,λ j v g=>?_⟩⟩;have w:=(List.getElem?_eq_some_iff.1 g).1;rw[Ac0 (sz:=sz) (λ x d=>(o x d).1)] at w;simp only[List.length_map,List.length_range] at w;have hi:j/sz<n:=(Nat.div_lt_iff_lt_mul A).2 w;have hm:j%sz<sz:=Nat.mod_lt _ A;have e:j/sz*sz+j%sz=j:=by rw[Nat.mul_comm];exact Nat.div_add_mod j sz
  have d:((List.range n).map V)[j/sz]?=some (V (j/sz)):=by simp[hi]
  have R:=p _ hi;have E:=Ao8 (sz:=sz) (λ x d=>(o x d).1) d (j:=j%sz) (v:=(V (j/sz))[j%sz]'(by omega)) (List.getElem?_eq_getElem (by omega));rw[e,g] at E;have F:=h _ hi (j%sz) v (by rw[E];exact List.getElem?_eq_getElem (by omega));rw[e,add_plain] at F;obtain⟨S,T,U,G,P⟩:=Cf4 F;rw[D] at G;cases G;exact P
theorem Ig6 {n c:Nat}{V:Nat->Value}(h: ∀j,j<n->W.cell? (a.add j)=some (V j))(C:n<=c)(g:c<=maxLen)(h1: ∀j,j<n->(V j).oneCell'=true):Bf9 ⟨W,λ _=>False⟩ 1 ⟨some a,n,c⟩ ((List.range n).map λ j=>[V j]):=by
 have o: ∀x∈(List.range n).map (λ j=>[V j]),x.length=1/\∀u∈x,u.oneCell'=true:=by
  intro x D;obtain⟨j,d,rfl⟩:=List.mem_map.1 D;exact⟨rfl,λ u hu=>by rw[List.mem_singleton.1 hu];exact h1 j (List.mem_range.1 d)⟩
 by_cases E:n=0
 ·subst E
  exact⟨0,rfl,Nat.zero_le _,g,o,.inl rfl⟩
 ·obtain⟨b,off,sp⟩:=a
  have F:sp=none:=by simpa[Addr.add] using World.cell?_spot (h 0 (by omega))
  subst F;have p: ∀j,j<n->W.cell? ⟨b,off+j,none⟩=some (V j):=λ j d=>by rw[<-add_plain];exact h j d
  obtain⟨cs,t,G,w,_⟩:=Cf4 (p 0 (by omega));refine⟨t,by simp,C,g,o,.inr ⟨b,off,cs,G,rfl,id,w,λ j v d=>?_⟩⟩;have e:((List.range n).map λ j=>[V j]).flatten=(List.range n).map V:=by
   rw[<-List.flatMap_def];generalize List.range n=l
   induction l with
   | nil=>rfl
   | cons y r ih=>simp[List.flatMap_cons,ih]
  rw[e] at d;have A:j<n:=by
   have:=(List.getElem?_eq_some_iff.1 d).1
   simpa using this
  obtain⟨J,L,N,B,I⟩:=Cf4 (p j A);rw[w] at B;cases B;simp[A] at d;rw[<-d];exact I
end Go.Proofs.YtkgeopnakkcdoaaGreatDoor
namespace Go.Proofs.YtkgeopnakkcdoaaGreatDoor
open Go Go.SX Go.ChangeShapes Go.WideShapes Go.ChangeAt Go.RowKit Go.Deep
def prc (t:ByteArray×ByteArray):List Value:=[.string t.1,.string t.2]
def Bs7 (W:PW) (s:Sl) (L:List (ByteArray×ByteArray)):Prop:=Bf9 W 2 s (L.map prc)
end Go.Proofs.YtkgeopnakkcdoaaGreatDoor
namespace Go.Proofs.YtkgeopnakkcdoaaGreatDoor
open Go Go.SX
variable {K:Value->PW->Prop}{M:Nat->Prop}{W W0:PW}{b:Bool}{e z:Int}{q:Rat}{s t:Sl}{x:Nat}
theorem Fl1 (h:0<(dg 1).length):(dg 1)[0]=1:=by
 have e:dg 1 = [1]:=by rw[Bk2 (by decide),show 1/B=0 by decide,Ae8];rfl
 simp[e]
theorem Dk9 (B:Ac6 W0)(h:Aa6 257 W0 s x)(C:nl x<=30000):
  Aa0 Tryz.prog 244 [.agg ⟨[s.v]⟩] W0 M λ v W'=>∃(i:Int),v = .int .i64 i/\(0<=i/\i<=960032)/\(x=1->i=0):=by
 apply Bi6;have D:=h.n;refine⟨λ L W=>match L with | [.val (.int .i64 z)]=>∃j:Nat,z=(j:Int)/\j<=nl x/\Ext W0 W/\(x=1->j=0) | _=>False,(λ L _=>match L with | [.val (.int .i64 z)]=>nl x-z.toNat | _=>0),⟨0,rfl,Nat.zero_le _,Ext.refl _,λ _=>rfl⟩,?_⟩;rintro i3 E ⟨j,rfl,F,d,g⟩;refine⟨λ G=>?_,λ I J _=>⟨0,rfl,⟨by omega,by omega⟩,λ _=>rfl⟩⟩;have o:j<nl x:=by omega
 have p:=h.ext d;have N:(dg x).length=nl x:=rfl;have u:(dg x)[j]<4294967296:=Ad8 x _ (List.getElem_mem (l:=dg x) (n:=j) o);have w:x=1->(dg x)[j]=1:=λ e=>by
  have:=g e;subst this;subst e;exact Fl1 _
 refine⟨Ad4.inB p (by omega) (by omega),_,Ad4.at p o,λ O=>⟨by unfold I64;omega,?_⟩,λ heq=>⟨by unfold I64;omega,⟨j+1,by push_cast;rfl,by omega,d,λ e=>by have:=w e;omega⟩,?_⟩⟩
 ·refine El3 (B.ext d) u λ P Q _=>⟨_,rfl,?_⟩
  have R:Go.Lib.ctz 32 (dg x)[j]<=32:=by
   by_cases A:(dg x)[j]=0
   ·unfold Go.Lib.ctz;rw[if_pos A];exact Nat.le_refl _
   ·exact Nat.le_of_lt (Go.Lib.lowest_bit 32 _ A u).2
  refine⟨by unfold I64;omega,λ S T=>⟨_,rfl,⟨by omega,by omega⟩,λ e=>?_⟩⟩;have c:Go.Lib.ctz 32 (dg x)[j]=0:=by rw[w e];decide
  have:=g e;omega
 ·show nl x-Int.toNat ((j:Int)+1)<nl x-Int.toNat (j:Int)
  omega
theorem At1 (d:Ac6 W)(h:Aa6 257 W s x)(g:nl x<=30000)(j: ∀(i:Int) (W':PW),Ext W W'->((0<=i/\i<=960032)/\(x=1->i=0))->K (.int .i64 i) W'):
  Aa1 Tryz.prog W0 M 244 [.agg ⟨[s.v]⟩] W K:=
 Mi4 (λ _ c=>Dk9 (d.ext c) (h.ext c) g) fun | _,W',c,⟨i,rfl,h⟩=>j i W' c h
theorem En5 (h:Ab3 257 W0 s b t q):
  Aa0 Tryz.prog 246 [.agg ⟨[s.v,.bool b,t.v]⟩] W0 M λ v W'=>v = .agg ⟨[Sl.v s,.bool b]⟩/\True:=by
 apply Bs9;exact λ c _=>⟨rfl,trivial⟩
theorem De2 (h:Ab3 257 W s b t q)(d: ∀(W':PW),Ext W W'->(True)->K (.agg ⟨[Sl.v s,.bool b]⟩) W'):
  Aa1 Tryz.prog W0 M 246 [.agg ⟨[s.v,.bool b,t.v]⟩] W K:=
 Mi4 (λ _ c=>En5 (h.ext c)) fun | _,W',c,⟨rfl,h⟩=>d W' c h
theorem Eb2 (p:Ac6 W0)(h:Ab5 257 W0 s b z)(d:nl z.natAbs<=30000)(he: -10000000<=e/\e<=10000000):
  Aa0 Tryz.prog 245 [.agg ⟨[s.v,.bool b]⟩,.int .i64 e] W0 M λ v W'=>∃(s':Sl),∃(b':Bool),∃(i:Int),v = .agg ⟨[Sl.v s',.bool b',.int .i64 i]⟩/\True:=by
 apply Da4;refine Ai5 h (by omega) λ G c _=>⟨_,rfl,λ _ I _=>⟨⟨none,0,0⟩,false,0,rfl,trivial⟩,λ _=>?_⟩;refine Ag5 (h.ext c) λ u J g w=>⟨u,rfl,?_⟩;refine At1 (p.ext (c.trans g)) w d λ i10 L A ⟨hi,_⟩=>⟨i10,rfl,by unfold I64;omega,?_⟩;have j:=c.trans (g.trans A);refine Ai5 (h.ext j) (by omega) λ N B _=>⟨_,rfl,?_⟩;refine Ag5 (h.ext (j.trans B)) λ C O P D=>⟨C,rfl,?_⟩;obtain⟨k,rfl⟩:=Int.eq_ofNat_of_zero_le hi.1;refine Br2 D (by omega) (by omega) λ E Q R F=>⟨E,rfl,?_⟩;have S:nl (z.natAbs/2^k)<=30000:=Nat.le_trans (Ad1 (Nat.div_le_self _ _)) d;refine Ad6 F (by omega) λ n o T U V=>⟨n,o,rfl,λ X _=>⟨n,o,_,rfl,trivial⟩⟩
theorem Cu2 (d:Ac6 W)(h:Ab5 257 W s b z)(g:nl z.natAbs<=30000)(he: -10000000<=e/\e<=10000000)(j: ∀(s':Sl) (b':Bool) (i:Int) (W':PW),Ext W W'->(True)->K (.agg ⟨[Sl.v s',.bool b',.int .i64 i]⟩) W'):
  Aa1 Tryz.prog W0 M 245 [.agg ⟨[s.v,.bool b]⟩,.int .i64 e] W K:=
 Mi4 (λ _ c=>Eb2 (d.ext c) (h.ext c) g he) fun | _,W',c,⟨s',b',i,rfl,h⟩=>j s' b' i W' c h
theorem Ej8 (j:Ac6 W0)(h:Ab3 257 W0 s b t q)(n:Sz 4000 q):
  Aa0 Tryz.prog 197 [.agg ⟨[s.v,.bool b,t.v]⟩] W0 M λ v W'=>∃(s':Sl),∃(b':Bool),∃(i:Int),∃(ok:Bool),v = .tuple ⟨[.agg ⟨[Sl.v s',.bool b',.int .i64 i]⟩,.bool ok]⟩/\(q.den=1->ok=true):=by
 apply Dg7;have L:nl q.den<=4000:=n.2;refine Bc0 h n (by omega) λ s3 C N D E=>⟨s3,C,rfl,?_⟩;refine Ag5 E λ F O G c=>⟨F,rfl,?_⟩;rw[Int.natAbs_natCast] at c;have p:=D.trans G;refine At1 (j.ext p) c (by omega) λ i10 P o ⟨hi,I⟩=>⟨i10,rfl,?_⟩;refine Ac9 (c.ext o) (by omega) λ Q u _=>⟨_,rfl,?_⟩;have R:=Dm3 q.den;refine⟨by unfold I64;omega,λ J S _=>⟨⟨none,0,0⟩,false,0,false,rfl,λ e=>absurd (by rw[I e,e];decide) J⟩,λ _=>?_⟩;have d:=p.trans (o.trans u);refine De2 (h.ext d) λ T g _=>⟨s,b,rfl,?_⟩;refine At1 (j.ext (d.trans g)) (c.ext (o.trans (u.trans g))) (by omega) λ i21 U w ⟨V,_⟩=>⟨i21,rfl,by unfold I64;omega,?_⟩;refine Cu2 (j.ext (d.trans (g.trans w))) (h.ext (d.trans (g.trans w))).1 (by have:=n.1;omega) (by omega) λ A B i26 X Y _=>⟨A,B,i26,rfl,λ Z _=>⟨A,B,i26,true,rfl,λ _=>rfl⟩⟩
theorem Bx3 (d:Ac6 W)(h:Ab3 257 W s b t q)(g:Sz 4000 q)(j: ∀(s':Sl) (b':Bool) (i:Int) (ok:Bool) (W':PW),Ext W W'->((q.den=1->ok=true))->K (.tuple ⟨[.agg ⟨[Sl.v s',.bool b',.int .i64 i]⟩,.bool ok]⟩) W'):
  Aa1 Tryz.prog W0 M 197 [.agg ⟨[s.v,.bool b,t.v]⟩] W K:=
 Mi4 (λ _ c=>Ej8 (d.ext c) (h.ext c) g) fun | _,W',c,⟨s',b',i,ok,rfl,h⟩=>j s' b' i ok W' c h
end Go.Proofs.YtkgeopnakkcdoaaGreatDoor
