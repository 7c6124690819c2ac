import Derived.Test.YtkgeopnakkcdoaaGreatDoorW11
import Derived.Test.YtkgeopnakkcdoaaGreatDoorR10
import Derived.Test.YtkgeopnakkcdoaaGreatDoorLib5
import Derived.Test.YtkgeopnakkcdoaaGreatDoorR9
set_option linter.unusedVariables false
set_option linter.unusedSimpArgs false
set_option maxRecDepth 100000
namespace Go.Proofs.YtkgeopnakkcdoaaGreatDoor
open Go Go.SX
variable {K:Value->PW->Prop}{M:Nat->Prop}{W W' W0:PW}{bs:List Iv}{f:List (List Tm)}{i k l m r:Nat}{l2:List Value}{s sj sy:Sl}{x:Iv}{y:Nat->Nat->Rat}
theorem Mn0 {l1:List Value}{y:Iv}(h1:SpV 257 W0 l1 x)(a:SpV 257 W0 l2 y)(c:IvS k x)(d:IvS k y)(hk:k<=8589934592):
  Aa0 Tryz.prog 14 [.agg ⟨l1⟩,.agg ⟨l2⟩] W0 M λ v W'=>v = .bool (decide (Mr9 x y))/\True:=by
 obtain⟨s0,b0,t0,s1,b1,t1,rfl,h1,o⟩:=h1;obtain⟨s2,b2,t2,s3,w,t3,rfl,a,u⟩:=a;apply Ml1;refine Aj2 a h1 d.1 c.1 (by omega) (by omega) λ z n _=>⟨_,rfl,λ h=>Aj2 (o.ext n) (u.ext n) c.2 d.2 (by omega) (by omega) λ A B _=>⟨_,rfl,λ C D=>⟨?_,trivial⟩⟩,λ h E F=>⟨?_,trivial⟩⟩
 ·have h:=At6.1 h
  congr 1;rw[decide_eq_decide,At6];exact⟨λ e=>⟨h,e⟩,λ e=>e.2⟩
 ·rw[decide_eq_false λ e=>h (At6.2 e.1)]
theorem Mj5 {l1:List Value}{y:Iv}(h1:SpV 257 W l1 x)(c:SpV 257 W l2 y)(d:IvS k x)(e:IvS k y)(hk:k<=8589934592)(n: ∀(W':PW),Ext W W'->(True)->K (.bool (decide (Mr9 x y))) W'):
  Aa1 Tryz.prog W0 M 14 [.agg ⟨l1⟩,.agg ⟨l2⟩] W K:=
 Mi4 (λ _ a=>Mn0 (h1.ext a) (c.ext a) d e hk) fun | _,W',a,⟨rfl,h⟩=>n W' a h
theorem Mn4 {α:Type}{j:Nat}{Q:α->Prop}{l:List α}(c:j<l.length)(h: ∀x∈l.take j,Q x)(d:Q l[j]): ∀x∈l.take (j+1),Q x:=λ x a=>by
 rw[List.take_succ_eq_append_getElem c] at a;rcases List.mem_append.1 a with e | e
 ·exact h x e
 ·rw[List.mem_singleton.1 e]
  exact d
def kfI (W0:PW) (f:List (List Tm)) (bs:List Iv) (L:List PL) (W:PW):Prop:=match L with
 | [.val (.int .i64 i)]=>∃j:Nat,i=(j:Int)/\j<=f.length/\Ext W0 W/\∀p∈f.take j,An3 p bs
 | _=>False
theorem Mo9 {sb:Sl}(d:Ps W0 s f)(e:Bc3 257 W0 sb bs)(hk: ∀x∈bs,IvS k x)(u:k<=1048576)(w:bs.length<=1048576)(n: ∀p∈f,p.length<=1099511627776)(E:f.length<=1000):
  Aa0 Tryz.prog 57 [s.v,sb.v] W0 M λ v W'=>v = .bool (decide (Mk5 f bs))/\True:=by
 apply Mm5;have F:=d.n;have G:=e.n;refine⟨kfI W0 f bs,Kq0 f.length,⟨0,rfl,Nat.zero_le _,Ext.refl _,λ p n=>(by simp at n)⟩,?_⟩;rintro i3 H ⟨j,rfl,I,a,o⟩;have no:¬Mk5 f bs->Value.bool false = .bool (decide (Mk5 f bs))/\True:=λ z=>⟨by rw[decide_eq_false z],trivial⟩;refine⟨λ J=>?_,λ L=>⟨λ he=>?_,λ A W _=>no λ ok=>A (by have:=ok.2.1;omega)⟩⟩
 ·have c:j<f.length:=by omega
  obtain⟨x,B,C⟩:=(d.ext a).at c;refine⟨(d.ext a).inB (by omega) (by omega),x,B,?_⟩;refine Bv2 C (e.ext a) hk u w (n _ (List.getElem_mem c)) λ N D _=>⟨_,rfl,λ b W _=>no λ ok=>?_,λ b=>⟨by unfold I64;omega,⟨j+1,by push_cast;rfl,by omega,a.trans D,Mn4 c o (by simpa using b)⟩,?_⟩⟩
  ·have:=ok.1 _ (List.getElem_mem c)
   simp[this] at b
  ·show f.length-Int.toNat ((j:Int)+1)<f.length-Int.toNat (j:Int)
   omega
 ·have:j=f.length:=by omega
  subst this;rw[List.take_length] at o;refine Cm2 (e.ext a) hk u w λ O P _=>⟨_,rfl,λ W Q=>⟨?_,trivial⟩⟩;congr 1;rw[decide_eq_decide];exact⟨λ h=>⟨o,by omega,h⟩,λ h=>h.2.2⟩
theorem Mn1 {sb:Sl}(c:Ps W s f)(d:Bc3 257 W sb bs)(hk: ∀x∈bs,IvS k x)(e:k<=1048576)(n:bs.length<=1048576)(o: ∀p∈f,p.length<=1099511627776)(u:f.length<=1000)(v: ∀(W':PW),Ext W W'->(True)->K (.bool (decide (Mk5 f bs))) W'):
  Aa1 Tryz.prog W0 M 57 [s.v,sb.v] W K:=
 Mi4 (λ _ a=>Mo9 (c.ext a) (d.ext a) hk e n o u) fun | _,W',a,⟨rfl,h⟩=>v W' a h
theorem Mo4 {sb:Sl}(e:Bc3 257 W0 sb bs)(d:Cn7 bs)(hk: ∀x∈bs,IvS k x)(h:k<=1048576):
  Aa0 Tryz.prog 59 [sb.v] W0 M λ v W'=>∃(l:List Value),v = .agg ⟨l⟩/\NmV 257 W' l (Hb9 bs).get:=by
 apply Ml8;have I:=d.1.2;refine Hk9 e hk h (by omega) λ s3 n J hm=>⟨s3,rfl,?_⟩;rw[if_pos d] at hm;obtain⟨o,u,w⟩:=hm;have a:=Hn3 w;refine⟨o,u,a.shp,λ z A B C D E F G H he W c=>⟨_,rfl,?_⟩⟩;have a:NmV 257 n [z.v,.bool A,B.v,C.v,.bool D,E.v,F.v,.bool G,H.v] (λ i=>(Hq4 bs).getD i 0):=by rw[he];exact a
 obtain⟨g0,g1,g2⟩:=a.three;rw[Hl9 bs (by omega)] at g0 g1 g2;exact NmV.mk (g0.ext c) (g1.ext c) (g2.ext c)
theorem Ml9 {sb:Sl}(c:Bc3 257 W sb bs)(d:Cn7 bs)(hk: ∀x∈bs,IvS k x)(e:k<=1048576)(n: ∀(l:List Value) (W':PW),Ext W W'->(NmV 257 W' l (Hb9 bs).get)->K (.agg ⟨l⟩) W'):
  Aa1 Tryz.prog W0 M 59 [sb.v] W K:=
 Mi4 (λ _ a=>Mo4 (c.ext a) d hk e) fun | _,W',a,⟨l,rfl,h⟩=>n l W' a h
def Mr7 (W:PW) (l:List Value) (q:List (List Tm)):Prop:=∃s:Sl,l = [s.v]/\Ps W s q
theorem Mr7.ext {q:List (List Tm)}{l:List Value}(h:Mr7 W l q)(a:Ext W W'):Mr7 W' l q:=let⟨s,e,h⟩:=h;⟨s,e,h.ext a⟩
abbrev Ml6 (W:PW) (s:Sl) (J:List (List (List Tm))):Prop:=Dr1 Mr7 1 W s J
theorem Ml6.ext {J:List (List (List Tm))}(h:Ml6 W s J)(a:Ext W W'):Ml6 W' s J:=Dr1.ext (R:=Mr7) (λ h=>Mr7.ext h) h a
def Mp3 (p:List Tm) (n:Nat):List (List Tm):=(List.range n).map λ k:Nat=>Hc3 p (k:Int)
def Mq0 (f:List (List Tm)):List (List (List Tm)):=f.map λ p=>Mp3 p f.length
theorem Mm4 (p:List Tm)(n:Nat):(Mp3 p n).length=n:=by unfold Mp3;rw[List.length_map,List.length_range]
theorem Mq5 (p:List Tm)(n:Nat):Mp3 p (n+1)=Mp3 p n ++ [Hc3 p (n:Int)]:=by unfold Mp3;rw[List.range_succ,List.map_append];rfl
theorem Mr5 {p:List Tm}{n:Nat}(h:k<(Mp3 p n).length):(Mp3 p n)[k]=Hc3 p (k:Int):=by simp only[Mp3,List.getElem_map,List.getElem_range]
theorem Mn8 (f:List (List Tm)):(Mq0 f).length=f.length:=by unfold Mq0;rw[List.length_map]
theorem Mr6 (h:i<(Mq0 f).length)(a:i<f.length):(Mq0 f)[i]=Mp3 f[i] f.length:=by simp only[Mq0,List.getElem_map]
theorem Ms2 (h:Ml6 W s (Mq0 f))(hi:i<f.length): ∃x:Sl,Aa7 W s 1 i 0 [x.v]/\Ps W x (Mp3 f[i] f.length):=by
 obtain⟨x,⟨t,rfl,a⟩,c⟩:=h.at (i:=i) (by rw[Mn8];exact hi);rw[Mr6 _ hi] at a;exact⟨t,c 0 rfl,a⟩
theorem Mt3 (h:Ml6 W s (Mq0 f)):s.n=f.length:=by rw[h.n,Mn8]
theorem Mr8 (h:Ml6 W s (Mq0 f)){i:Int}(a:0<=i)(h1:i<(f.length:Int)):SX.inB s i:=h.inB a (by rw[Mn8];exact h1)
def kjO (W0:PW) (f:List (List Tm)) (L:List PL) (W:PW):Prop:=match L with
 | [.row l,.val (.int .i64 i)]=>∃j:Nat,i=(j:Int)/\j<=f.length/\Ext W0 W/\An5 (Mr7 W) l ((f.take j).map λ p=>Mp3 p f.length)
 | _=>False
def kjI (W0:PW) (p:List Tm) (n:Nat) (L:List PL) (W:PW):Prop:=match L with
 | [.row l,.val (.int .i64 i)]=>∃j:Nat,i=(j:Int)/\j<=n/\Ext W0 W/\An5 (Gx4 257 169 W) l (Mp3 p j)
 | _=>False
theorem Mm7 (d:Ps W0 s f)(Q:f.length<=1000)(B: ∀p∈f,Bd k p/\p.length<=1073741824)(hk:k<=50000000):
  Aa0 Tryz.prog 17 [s.v] W0 M λ v W'=>∃(s':Sl),v=Sl.v s'/\Ml6 W' s' (if f.length<=3 then Mq0 f else[]):=by
 apply Mk8;have R:=d.n;refine⟨λ h C S=>⟨⟨none,0,0⟩,rfl,?_⟩,λ h=>?_⟩
 ·rw[if_neg (by omega)]
  exact Dr1.nil C
 rw[if_pos (by omega)];refine⟨kjO W0 f,cnB f.length,⟨0,rfl,Nat.zero_le _,Ext.refl _,trivial⟩,?_⟩;rintro D i5 E ⟨j,rfl,T,e,a⟩;have F:=a.len;rw[List.length_map,List.length_take] at F;refine⟨λ U=>?_,λ V G X H hO _ W w=>⟨G,rfl,⟨D,⟨_,hO.row.ext w⟩,?_⟩⟩⟩
 ·have n:j<f.length:=by omega
  obtain⟨x,I,J⟩:=(d.ext e).at n;obtain⟨L,Y⟩:=B _ (List.getElem_mem n);refine⟨(d.ext e).inB (by omega) (by omega),x,I,?_⟩;refine⟨kjI E f[j] f.length,cnB f.length,⟨0,rfl,Nat.zero_le _,Ext.refl _,trivial⟩,?_⟩;rintro l10 i11 Z ⟨i,rfl,hi,c,o⟩;have N:=o.len;rw[Mm4] at N;refine⟨λ aa=>?_,λ ab O ac u hO _=>⟨by simp only[List.length_cons,List.length_nil];omega,by unfold I64;omega,⟨j+1,by push_cast;rfl,by omega,e.trans (c.trans u),?_⟩,?_⟩⟩
  ·refine Hg6 (i:=(i:Int)) (J.ext c) L (by omega) (by omega) λ z ad A P=>⟨z,rfl,by simp only[List.length_cons,List.length_nil];omega,by unfold I64;omega,⟨i+1,by push_cast;rfl,by omega,c.trans A,?_⟩,?_⟩
   ·rw[Mq5]
    exact(o.mono λ _ _ h=>h.ext A).append ⟨⟨z,rfl,P⟩,trivial⟩
   ·show f.length-Int.toNat ((i:Int)+1)<f.length-Int.toNat (i:Int)
    omega
  ·have:i=f.length:=by omega
   subst this;rw[List.take_succ_eq_append_getElem n,List.map_append];exact(a.mono λ _ _ h=>h.ext (c.trans u)).append ⟨⟨O,rfl,⟨l10,⟨_,hO.row⟩,o.mono λ _ _ h=>h.ext u⟩⟩,trivial⟩
  ·show f.length-Int.toNat ((j:Int)+1)<f.length-Int.toNat (j:Int)
   omega
 ·have:j=f.length:=by omega
  subst this;rw[List.take_length] at a;exact a.mono λ _ _ h=>h.ext (H.trans w)
theorem Mk9 (c:Ps W s f)(d:f.length<=1000)(e: ∀p∈f,Bd k p/\p.length<=1073741824)(hk:k<=50000000)(n: ∀(s':Sl) (W':PW),Ext W W'->(Ml6 W' s' (if f.length<=3 then Mq0 f else[]))->K (Sl.v s') W'):
  Aa1 Tryz.prog W0 M 17 [s.v] W K:=
 Mi4 (λ _ a=>Mm7 (c.ext a) d e hk) fun | _,W',a,⟨s',rfl,h⟩=>n s' W' a h
def kvI (W0:PW) (n:Nat) (g:Nat->Iv) (L:List PL) (W:PW):Prop:=match L with
 | [.val (.int .i64 i),.cells l]=>∃j:Nat,i=(j:Int)/\j<=n/\Ext W0 W/\SpV 257 W l (g j)
 | _=>False
def kqI (W0:PW) (n:Nat) (g:Nat->Rat) (L:List PL) (W:PW):Prop:=match L with
 | [.val (.int .i64 i),.cells l]=>∃j:Nat,i=(j:Int)/\j<=n/\Ext W0 W/\QtV 257 W l (g j)
 | _=>False
def cnC (n:Nat) (L:List PL) (_:PW):Nat:=match L with
 | [.val (.int .i64 z),_]=>n-z.toNat
 | _=>0
theorem QtV.get {t:Sl}{b:Bool}{q:Rat}(h:QtV 257 W [s.v,.bool b,t.v] q):Ab3 257 W s b t q:=by
 obtain⟨s',b',t',e,h⟩:=h;simp only[List.cons.injEq,Value.bool.injEq,and_true] at e;rw[Sl.Ck0 e.1,e.2.1,Sl.Ck0 e.2.2];exact h
theorem Mo2 {sb:Sl}{c:Nat->Nat}{q:Nat}(G:Ml6 W0 sj (Mq0 f))(H:Gf9 257 50 84 W0 sy f.length c y)(I:Bc3 257 W0 sb bs)(hc: ∀a,a<f.length->c a=f.length)(h:KrB k m l f y bs)(hF:Mk5 f bs)(hg: ∀p∈f,POk p)(hi:i<f.length)(J:q<f.length):
  Aa0 Tryz.prog 65 [sj.v,sy.v,sb.v,.int .i64 (i:Int),.int .i64 (q:Int)] W0 M λ v W'=>∃(r:List Value),v = .agg ⟨r⟩/\SpV 257 W' r (krS f y bs i q f.length):=by
 apply Mm2;have aK:=h.n;have L:=h.l1;have ac:=H.n;have aL:=Mt3 G;have aM:=I.n;have ad:Gf6 W0.w.heap.size W0:=Nat.le_refl _;rw[ac];refine Mj8 ad (by omega) (by omega) λ s3 W2 af o=>⟨s3,rfl,?_⟩;have o:=o.mat;obtain⟨s4,e4,g4⟩:=o.at (i:=i) hi;obtain⟨N,O,P,e5,g5⟩:=g4.at (i:=q) J;refine⟨o.inB (by omega) (by omega),s4,e4,g4.inB (by omega) (by omega),N,O,P,e5,?_⟩;have g5:Ab3 257 W2 N O P (if i=q then 1 else 0):=g5;refine De4 g5 λ l9 W9 aj w=>w.out λ aO aP aQ aR aS aT w=>?_;refine⟨kvI W9 f.length (krS f y bs i q),cnC f.length,⟨0,rfl,Nat.zero_le _,Ext.refl _,w⟩,?_⟩;rintro aU aV aW aX aY aZ i24 a0 ⟨n,rfl,hn,Q,R⟩;have z:=af.trans (aj.trans Q);refine⟨λ a1=>?_,λ a2 W hE=>⟨_,rfl,?_⟩⟩
 ·have d:n<f.length:=by omega
  have S:=G.ext z;obtain⟨am,an,T⟩:=Ms2 S d;obtain⟨ao,ap,U⟩:=T.at (i:=q) (by rw[Mm4];exact J);rw[Mr5] at U;have e:=h.p _ (List.getElem_mem d);have aq:=hF.1 _ (List.getElem_mem d);have A:=hg _ (List.getElem_mem d);have ar:=Mp8 aq A (k:=q) (by omega);have z1:=e.n.m1;have z2:=e.len;have z3:=e.k1;have z4:=e.bl;have a3:=Hj1 f[n] (q:Int);have av:BxN (k+1) m (Hc3 f[n] (q:Int)) bs:=⟨Hg1 e.n.bd A _,e.n.sd,Hh5 A _,by omega,by omega,z1,by omega⟩;refine⟨Mr8 S (by omega) (by omega),am,an,T.inB (by omega) (by rw[Mm4];omega),ao,ap,?_⟩;refine Bi4 U (I.ext z) av λ a4 a5 B u=>?_;rw[if_pos ar] at u;obtain⟨aw,ax,ay,az,aA,aB,rfl,v1,v2⟩:=u;have u:=SpV.mk v1 v2;refine⟨aw,ax,ay,az,aA,aB,_,rfl,?_⟩;have V:=H.ext (z.trans B);obtain⟨aC,aD,C⟩:=V.at (i:=i) hi;rw[hc i hi] at C;obtain⟨aE,aF,aG,aH,aI⟩:=C.at (i:=n) d;refine⟨V.inB (by omega) (by omega),aC,aD,C.inB (by omega) (by omega),aE,aF,aG,aH,?_⟩;have X:IvS 460000 (Aq8 (Bm3 bs) (Hc3 f[n] (q:Int))):=(e.Hp1 (q:Int)).sz;have Y:=h.y i n hi d;refine Hu2 u aI (IvS.mono X (show 460000<=100000000 by omega)) (Y.mono L) (by omega) λ a6 a7 D E=>E.out λ a8 a9 ba bb bc bd E=>⟨D,?_⟩;have zs:=h.S3 hi q (n:=n) hn;have zc:IvS (100000000+100000000) (De8 (Aq8 (Bm3 bs) (Hc3 f[n] (q:Int))) (y i n)):=IvS.scale (IvS.mono X (by omega)) (Y.mono L);refine Hi9 (R.ext (B.trans D)) E zs (IvS.mono zc (by omega)) (by omega) λ be bf Z F=>F.out λ bg bh bi bj bk bl F=>⟨Z,by unfold I64;omega,⟨n+1,by push_cast;rfl,by omega,Q.trans (B.trans (D.trans Z)),?_⟩,?_⟩
  ·rw[krS,Mq1 d]
   exact F
  ·show f.length-Int.toNat ((n:Int)+1)<f.length-Int.toNat (n:Int)
   omega
 ·have:n=f.length:=by omega
  subst this;exact R.ext hE
theorem Ml4 {sb:Sl}{c:Nat->Nat}{q:Nat}(e:Ml6 W sj (Mq0 f))(n:Gf9 257 50 84 W sy f.length c y)(o:Bc3 257 W sb bs)(u: ∀a,a<f.length->c a=f.length)(v:KrB k m l f y bs)(hF:Mk5 f bs)(w: ∀p∈f,POk p)(hi:i<f.length)(z:q<f.length)(A: ∀(r:List Value) (W':PW),Ext W W'->(SpV 257 W' r (krS f y bs i q f.length))->K (.agg ⟨r⟩) W'):
  Aa1 Tryz.prog W0 M 65 [sj.v,sy.v,sb.v,.int .i64 (i:Int),.int .i64 (q:Int)] W K:=
 Mi4 (λ _ d=>Mo2 (e.ext d) (n.ext d) (o.ext d) u v hF w hi z) fun | _,W',d,⟨r,rfl,h⟩=>A r W' d h
def Mn5 (f:List (List Tm)) (r:Nat) (c:Nat->Nat) (bs:List Iv):Prop:=Mk5 f bs/\Gf8 r c/\r=bs.length/\c 0=bs.length
instance (r:Nat) (c:Nat->Nat):Decidable (Gf8 r c):=by unfold Gf8;infer_instance
instance (f:List (List Tm)) (r:Nat) (c:Nat->Nat) (bs:List Iv):Decidable (Mn5 f r c bs):=by unfold Mn5;infer_instance
structure KrN (k m l:Nat) (f:List (List Tm)) (r:Nat) (c:Nat->Nat) (y:Nat->Nat->Rat) (bs:List Iv):Prop where
 p: ∀q∈f,Bd k q/\q.length<=30/\POk q
 n:f.length<=1000
 k1:k<=300000
 s: ∀x∈bs,IvS m x
 m1:m<=100
 b:bs.length<=1000
 y: ∀i j,i<r->j<c i->Sz l (y i j)
 l1:l<=100000000
 r1:r<=1000
theorem KrN.B {c:Nat->Nat}(h:KrN k m l f r c y bs)(ok:Mn5 f r c bs):KrB k m l f y bs:=by
 have h1:=ok.1.2.1;have e:=ok.1.2.2.1.2;have n:=ok.2.2.1;have o:=ok.2.2.2;have k1:=h.k1;refine⟨λ q d=>?_,by omega,λ i j hi u=>h.y i j (by omega) ?_,h.l1⟩
 ·obtain⟨a,b,c⟩:=h.p q d
  exact⟨⟨a,h.s,c,by omega,by omega,h.m1,by omega⟩,b,h.k1,by omega⟩
 ·have:=ok.2.1.1 i (by omega)
  omega
def kaI (W0:PW) (f:List (List Tm)) (y:Nat->Nat->Rat) (bs:List Iv) (L:List PL) (W:PW):Prop:=match L with
 | [.row l,.val (.int .i64 i)]=>∃j:Nat,i=(j:Int)/\j<=bs.length/\Ext W0 W/\An5 (SpV 257 W) l ((List.range j).map λ i=>krR f y bs i bs.length)
 | _=>False
theorem Mo0 {sb:Sl}{c:Nat->Nat}(D:Ps W0 s f)(H:Gf9 257 50 84 W0 sy r c y)(I:Bc3 257 W0 sb bs)(d:KrN k m l f r c y bs):
  Aa0 Tryz.prog 13 [s.v,sy.v,sb.v] W0 M λ v W'=>∃(s':Sl),v = .tuple ⟨[Sl.v s',.bool (decide (Mn5 f r c bs))]⟩/\Bc3 257 W' s' (if Mn5 f r c bs then krK f y bs else[]):=by
 apply Ml5;have bS:=D.n;have bT:=H.n;have bU:=I.n;have n1:=d.m1;have n2:=d.b;have n3:=d.n;have n4:=d.k1;have n5:=d.r1;have no:¬Mn5 f r c bs->∀W:PW,∃s':Sl,(Value.tuple ⟨[.slice none 0 0,.bool false]⟩) = .tuple ⟨[Sl.v s',.bool (decide (Mn5 f r c bs))]⟩/\Bc3 257 W s' (if Mn5 f r c bs then krK f y bs else[]):=λ ah W=>⟨⟨none,0,0⟩,by rw[decide_eq_false ah],by rw[if_neg ah];exact Dr1.nil W⟩;refine Mn1 D I d.s (by omega) (by omega) (λ p z=>by have:=(d.p p z).2.1;omega) n3 λ W2 ai _=>⟨_,rfl,λ b W _=>no (λ ok=>by simp[ok.1] at b) W,λ b=>?_⟩;have hF:Mk5 f bs:=by simpa using b
 refine Gn0 (H.ext ai) (by omega) λ b7 W6 aK aj=>⟨b7,rfl,λ e W _=>no (λ ok=>by rw[aj.2 ok.2.1] at e;cases e) W,λ e=>?_⟩;have hR:Gf8 r c:=aj.1 (by simpa using e);refine⟨λ P W _=>no (λ ok=>P (by have:=ok.2.2.1;omega)) W,λ heq=>?_⟩;have aL:r=bs.length:=by omega
 have Q:=hF.2.2;have b0:=hF.2.1;have b1:=Q.1.1;have b2:=Q.1.2;have R:=ai.trans aK;have al:=H.ext R;obtain⟨aM,aN,g10⟩:=al.at (i:=0) (by omega);have b3:=g10.n;refine⟨al.inB (by omega) (by omega),aM,aN,λ P W _=>no (λ ok=>P (by have:=ok.2.2.2;omega)) W,λ b4=>?_⟩;have ok:Mn5 f r c bs:=⟨hF,hR,aL,by omega⟩;have o:=d.B ok;have b5:=d.l1;have aO: ∀p∈f,POk p:=λ p z=>(d.p p z).2.2;have hc: ∀a,a<f.length->c a=f.length:=λ a J=>by have:=hR.1 a (by omega);omega
 have aP:Gf9 257 50 84 W0 sy f.length c y:=by
  have e:f.length=r:=by omega
  rw[e];exact H
 refine Ml9 (I.ext R) Q d.s (by omega) λ lp b6 aQ hm=>?_;obtain⟨aR,aS,aT,aU,aV,aW,aX,aY,aZ,rfl,m0,m1,m2⟩:=hm;have hm:=NmV.mk (q:=(Hb9 bs).get) m0 m1 m2;refine⟨aR,aS,aT,aU,aV,aW,aX,aY,aZ,rfl,?_⟩;have an:=R.trans aQ;refine Mk9 (k:=k) (D.ext an) n3 (λ p z=>⟨(d.p p z).1,by have:=(d.p p z).2.1;omega⟩) (by omega) λ a0 a1 ao hJ=>⟨a0,rfl,?_⟩;rw[if_pos (by omega)] at hJ;have a2:=an.trans ao;rw[if_pos ok,decide_eq_true ok];refine⟨kaI a1 f y bs,cnB bs.length,⟨0,rfl,Nat.zero_le _,Ext.refl _,trivial⟩,?_⟩;rintro a3 i29 a4 ⟨i,rfl,hi,L,J⟩;have a5:=J.len;rw[List.length_map,List.length_range] at a5;refine⟨λ b8=>?_,λ b9 a6 ca a7 hO _ W hE=>⟨a6,rfl,⟨a3,⟨_,hO.row.ext hE⟩,?_⟩⟩⟩
 rotate_left
 ·have:i=bs.length:=by omega
  subst this;exact J.mono λ _ _ h=>h.ext (a7.trans hE)
 have cb:i<bs.length:=by omega
 have w:i<f.length:=by omega
 have S:=a2.trans L;have T:=aP.ext S;obtain⟨a8,a9,ar⟩:=T.at (i:=i) w;rw[hc i w] at ar;refine⟨T.inB (by omega) (by omega),a8,a9,⟨by omega,by omega⟩,?_⟩;have U:=hm.ext (ao.trans L);obtain⟨au,av,aw,ba,hq⟩:=U.box (j:=i) (by omega);refine⟨au,av,aw,ba,kqI a4 f.length (krA f y bs i),cnC f.length,⟨0,rfl,Nat.zero_le _,Ext.refl _,au,av,aw,rfl,hq⟩,?_⟩;rintro cc cd ce i40 cf ⟨n,rfl,hn,E,N⟩;have N:=QtV.get N;refine⟨λ cg=>?_,λ ch=>?_⟩
 ·have A:n<f.length:=by omega
  have ax:=S.trans E;obtain⟨bd,be,bf⟩:=(D.ext ax).at A;have ay:=ar.ext E;obtain⟨bg,bh,bi,bj,bk⟩:=ay.at (i:=n) A;refine⟨(D.ext ax).inB (by omega) (by omega),bd,be,ay.inB (by omega) (by omega),bg,bh,bi,bj,?_⟩;have B:=o.p _ (List.getElem_mem A);have V:=(U.ext E).three;refine Gr5 (u:=Hb9 bs) (l:=404) bf V.1 V.2.1 V.2.2 B.n.bd.sz (Hc8 B) (by omega) (Nat.le_trans (Hh1 B.len B.k1) (by omega)) (by omega) λ bl bm bn ci O bo=>⟨bl,bm,bn,rfl,O,?_⟩;refine Ak9 (bk.ext O) bo (o.y i n w A) B.Hs2 (by omega) (by omega) λ bp bq br cj az bt=>⟨bp,bq,br,rfl,?_⟩;refine Gr0 (N.ext (O.trans az)) bt (o.A3 w hn) ((o.y i n w A).mul B.Hs2) (by omega) (by omega) λ aA aB aC ck bu bv=>⟨aA,aB,aC,rfl,by unfold I64;omega,⟨n+1,by push_cast;rfl,by omega,E.trans (O.trans (az.trans bu)),aA,aB,aC,rfl,?_⟩,?_⟩
  ·rw[krA,Mq1 A]
   exact bv
  ·show f.length-Int.toNat ((n:Int)+1)<f.length-Int.toNat (n:Int)
   omega
 have bw:n=f.length:=by omega
 subst bw;refine De4 N λ cl bx bz X=>X.out λ cm cn co cp cq cr X=>?_;refine⟨kvI bx bs.length (krR f y bs i),cnC bs.length,⟨0,rfl,Nat.zero_le _,Ext.refl _,X⟩,?_⟩;rintro cs ct cu cv cw cx i77 cy ⟨q,rfl,cz,aD,aE⟩;have C:=E.trans (bz.trans aD);refine⟨λ cA=>?_,λ cB=>⟨by simp only[List.length_cons,List.length_nil];omega,by unfold I64;omega,⟨i+1,by push_cast;rfl,by omega,L.trans C,?_⟩,?_⟩⟩
 ·have Y:q<bs.length:=by omega
  have bA:q<f.length:=by omega
  have bB:=S.trans C;have Z:=I.ext bB;obtain⟨x,⟨bC,bD,bE,bF,bG,bH,rfl,v1,v2⟩,bI⟩:=Z.at Y;refine⟨Z.inB (by omega) (by omega),bC,bD,bE,bF,bG,bH,bI 0 rfl,⟨by omega,by omega⟩,?_⟩;obtain⟨bJ,bK,bL,bM,bN⟩:=(U.ext C).box (j:=q) (by omega);refine⟨bJ,bK,bL,bM,?_⟩;refine Ml4 (i:=i) (q:=q) (hJ.ext (L.trans C)) (T.ext C) Z hc o hF aO w bA λ cC cD F aa=>aa.out λ cE cF cG cH cI cJ aa=>?_;refine De4 (bN.ext F) λ cK cL G ab=>ab.out λ cM cN cO cP cQ cR ab=>?_;have zm:=o.mid (by omega) q;have aG:=Fi1 Y;have zb:=d.s _ (List.getElem_mem Y);refine Hi9 (x:=Bm3 bs q) (k:=404) (aG ▸ SpV.mk (v1.ext (F.trans G)) (v2.ext (F.trans G))) ab (aG ▸ IvS.mono zb (by omega)) ⟨zm,zm⟩ (by omega) λ cS cT ac ad=>ad.out λ cU cV cW cX cY cZ ad=>?_;have zd:=o.Hr8 (by omega) q;have zs:=o.S3 w q (Nat.le_refl _);refine Cx4 (k:=302000000) (aa.ext (G.trans ac)) ad zs (IvS.mono zd (by omega)) (by omega) λ c0 c1 aI ae=>ae.out λ c2 c3 c4 c5 c6 c7 ae=>?_;have zr:=o.R3 w (n:=q) (by omega);refine Cy0 (k:=1300000000) (aE.ext (F.trans (G.trans (ac.trans aI)))) ae zr (IvS.mono (IvS.mul zs zd) (by omega)) (by omega) λ c8 c9 bQ af=>af.out λ da db dc dd de df af=>⟨by unfold I64;omega,⟨q+1,by push_cast;rfl,by omega,aD.trans (F.trans (G.trans (ac.trans (aI.trans bQ)))),af⟩,?_⟩;show bs.length-Int.toNat ((q:Int)+1)<bs.length-Int.toNat (q:Int);omega
 ·have bR:q=bs.length:=by omega
  subst bR;rw[List.range_succ,List.map_append];exact(J.mono λ _ _ h=>h.ext C).append ⟨aE,trivial⟩
 ·show bs.length-Int.toNat ((i:Int)+1)<bs.length-Int.toNat (i:Int)
  omega
theorem Mj7 {sb:Sl}{c:Nat->Nat}(d:Ps W s f)(e:Gf9 257 50 84 W sy r c y)(n:Bc3 257 W sb bs)(o:KrN k m l f r c y bs)(u: ∀(s':Sl) (W':PW),Ext W W'->(Bc3 257 W' s' (if Mn5 f r c bs then krK f y bs else[]))->K (.tuple ⟨[Sl.v s',.bool (decide (Mn5 f r c bs))]⟩) W'):
  Aa1 Tryz.prog W0 M 13 [s.v,sy.v,sb.v] W K:=
 Mi4 (λ _ a=>Mo0 (d.ext a) (e.ext a) (n.ext a) o) fun | _,W',a,⟨s',rfl,h⟩=>u s' W' a h
def kpI (W0:PW) (f:List (List Tm)) (y:Nat->Nat->Rat) (bs:List Iv) (n:Nat) (L:List PL) (W:PW):Prop:=match L with
 | [.val (.int .i64 i)]=>∃j:Nat,i=(j:Int)/\j<=n/\Ext W0 W/\∀i,i<j->Mr9 (krR f y bs i bs.length) (Bm3 bs i)
 | _=>False
instance (f:List (List Tm)) (y:Nat->Nat->Rat) (bs:List Iv):Decidable (Mq8 f y bs):=by unfold Mq8;infer_instance
theorem Mr4 (h:KrB k m l f y bs)(hF:Mk5 f bs)(hi:i<bs.length):IvS 1300000000 (krR f y bs i bs.length):=by
 have:=hF.2.1;exact h.R3 (by omega) (by omega)
theorem Mm8 {sb:Sl}{c:Nat->Nat}(E:Ps W0 s f)(F:Gf9 257 50 84 W0 sy r c y)(u:Bc3 257 W0 sb bs)(d:KrN k m l f r c y bs):
  Aa0 Tryz.prog 16 [s.v,sy.v,sb.v] W0 M λ v W'=>v = .bool (decide (Mn5 f r c bs/\Mq8 f y bs))/\True:=by
 apply Ml0;have ag:=u.n;have n1:=d.m1;have n2:=d.b;refine Mj7 E F u d λ s3 z G n=>⟨s3,_,rfl,?_⟩
 by_cases ok:Mn5 f r c bs
 ·rw[if_pos ok] at n
  have H:=d.B ok;have w:=n.n;rw[Mk0] at w;refine⟨kpI z f y bs bs.length,Kq0 bs.length,⟨0,rfl,Nat.zero_le _,Ext.refl _,λ i h=>by omega⟩,?_⟩;rintro i7 I ⟨j,rfl,hj,o,A⟩;refine⟨λ J=>?_,λ N W _=>⟨?_,trivial⟩⟩
  ·have a:j<bs.length:=by omega
   have B:=n.ext o;obtain⟨x,⟨O,P,Q,R,S,T,rfl,v1,v2⟩,U⟩:=B.at (i:=j) (by rw[Mk0];exact a);rw[Mr2] at v1 v2;have C:=u.ext (G.trans o);obtain⟨x',⟨V,X,Y,Z,aa,ab,rfl,u1,u2⟩,ae⟩:=C.at a;refine⟨B.inB (by omega) (by rw[Mk0];omega),O,P,Q,R,S,T,U 0 rfl,C.inB (by omega) (by omega),V,X,Y,Z,aa,ab,ae 0 rfl,?_⟩;have D:=Fi1 a;refine Mj5 (x:=krR f y bs j bs.length) (y:=Bm3 bs j) (k:=1300000000) (SpV.mk v1 v2) (D ▸ SpV.mk u1 u2) (Mr4 H ok.1 a) (D ▸ IvS.mono (d.s _ (List.getElem_mem a)) (by omega)) (by omega) λ al af _=>⟨_,rfl,λ b W _=>⟨?_,trivial⟩,λ b=>⟨by unfold I64;omega,⟨j+1,by push_cast;rfl,by omega,o.trans af,λ i hi=>?_⟩,?_⟩⟩
   ·rw[decide_eq_false λ e=>by simp[e.2 j a] at b]
   ·by_cases e:i=j
    ·subst e
     simpa using b
    ·exact A i (by omega)
   ·show bs.length-Int.toNat ((j:Int)+1)<bs.length-Int.toNat (j:Int)
    omega
  ·have:j=bs.length:=by omega
   subst this;rw[decide_eq_true ok,decide_eq_true ⟨ok,A⟩]
 ·rw[if_neg ok] at n
  have w:=n.n;refine⟨λ L W=>match L with | [.val (.int .i64 i)]=>i=0/\Ext z W | _=>False,λ _ _=>0,⟨rfl,Ext.refl _⟩,?_⟩;rintro i7 I ⟨rfl,o⟩;refine⟨λ J=>?_,λ N W _=>⟨?_,trivial⟩⟩
  ·have:s3.n=0:=w
   omega
  ·rw[decide_eq_false ok,decide_eq_false λ e=>ok e.1]
theorem Mj3 {sb:Sl}{c:Nat->Nat}(d:Ps W s f)(e:Gf9 257 50 84 W sy r c y)(n:Bc3 257 W sb bs)(o:KrN k m l f r c y bs)(u: ∀(W':PW),Ext W W'->(True)->K (.bool (decide (Mn5 f r c bs/\Mq8 f y bs))) W'):
  Aa1 Tryz.prog W0 M 16 [s.v,sy.v,sb.v] W K:=
 Mi4 (λ _ a=>Mm8 (d.ext a) (e.ext a) (n.ext a) o) fun | _,W',a,⟨rfl,h⟩=>u W' a h
end Go.Proofs.YtkgeopnakkcdoaaGreatDoor
namespace Go.Proofs.YtkgeopnakkcdoaaGreatDoor
open Go Go.SX
variable {M:Nat->Prop}{W0:PW}{c':Nat->Nat}{k l n0 r r':Nat}{m m':Nat->Nat->Rat}{s t:Sl}
theorem Ni0 {f:Nat->Rat}{K:Nat}: ∀{j:Nat} (_: ∀t,t<j->Sz K (f t)),Sz (j*(K+1)+1) (Mu5 f j)
 | 0,_=>Sz.zero (by omega)
 | j+1,h=>by
  have h1:=Ni0 (j:=j) (λ t a=>h t (by omega));have:=h1.add (h j (by omega));exact this.mono (by rw[Nat.succ_mul];omega)
theorem Nj9 {c:Nat->Nat}(hn:Gf6 n0 W0)(h1:Gf9 257 50 84 W0 s r c m)(P:Gf9 257 50 84 W0 t r' c' m')(hr:r<=1099511627776)(aB:r'<=1099511627776)(Z: ∀i j,i<r->j<c i->Sz k (m i j))(aa: ∀i j,i<r'->j<c' i->Sz l (m' i j))(hk:k<=100000000)(hl:l<=100000000):
  Aa0 Tryz.prog 38 [s.v,t.v] W0 M λ v W'=>∃(s':Sl),∃(b:Bool),v = .tuple #[Sl.v s',.bool b]/\((b=true↔Gf8 r c/\Gf8 r' c'/\c 0=r')/\(Gf8 r c/\Gf8 r' c'/\c 0=r'->Gl4 257 50 84 (n0<=·) W' s' r (c' 0) (Nl0 m m' r'))):=by
 apply Ni6;have aC:=h1.n;have bc:=P.n;have bad:¬(Gf8 r c/\Gf8 r' c'/\c 0=r')->∀W':PW,∃(s':Sl) (b:Bool),(Value.tuple #[.slice none 0 0,.bool false]) = .tuple #[Sl.v s',.bool b]/\((b=true↔Gf8 r c/\Gf8 r' c'/\c 0=r')/\(Gf8 r c/\Gf8 r' c'/\c 0=r'->Gl4 257 50 84 (n0<=·) W' s' r (c' 0) (Nl0 m m' r'))):=
  λ h W'=>⟨⟨none,0,0⟩,false,rfl,⟨λ h=>(by cases h),λ Q=>absurd Q h⟩,λ Q=>absurd Q h⟩
 refine⟨λ _ W=>Ext W0 W/\Gf8 r c/\Gf8 r' c'/\c 0=r',?_,?_⟩
 ·refine Gn0 h1 hr λ b W3 R A=>⟨b,rfl,λ E W5 _=>bad (λ h=>?_) W5,λ ht=>?_⟩
  ·rw[A.2 h.1] at E;cases E
  have F:=A.1 (by simpa using ht);refine Gn0 (P.ext R) aB λ b' W9 ac ad=>⟨b',rfl,λ E aE _=>bad (λ h=>?_) aE,λ aF=>?_⟩
  ·rw[ad.2 h.2.1] at E;cases E
  have J:=ad.1 (by simpa using aF);have h9:=(h1.ext R).ext ac;have aG:=F.2.1;obtain⟨y,f1,f2⟩:=h9.at (i:=0) (by omega);have ny:=f2.n;refine⟨h9.inB (by omega) (by omega),y,f1,λ bf aH _=>bad (λ h=>?_) aH,λ heq=>⟨R.trans ac,F,J,by omega⟩⟩;have:=h.2.2;omega
 rintro B ⟨L,F,J,aI⟩;have aJ:Gf8 r c/\Gf8 r' c'/\c 0=r':=⟨F,J,aI⟩;obtain⟨hc,aG,bg,bh,bi⟩:=F;obtain⟨ag,bj,bk,bl,bm⟩:=J;have ah:=h1.ext L;have N:=P.ext L;obtain⟨y,f1,f2⟩:=N.at (i:=0) (by omega);have ny:=f2.n;refine⟨N.inB (by omega) (by omega),y,f1,?_⟩
 try dsimp only
 rw[ny,aC];obtain⟨d,bn⟩: ∃d,B.w.heap.size=d:=⟨_,rfl⟩;have hle:B.w.heap.size<=d:=by omega
 have aL:Gf6 d B:=by unfold Gf6;omega
 have aM:W0.w.heap.size<=d:=Nat.le_trans L.size hle;refine Gp0 aL (by omega) (by omega) λ G bo aN aO=>⟨G,rfl,?_⟩;refine⟨λ l W=>match l with | [.val (.int .i64 i)]=>∃p:Nat,i=(p:Int)/\p<=r/\Eo1 d B W/\Gl4 257 50 84 (d<=·) W G r (c' 0) (λ a b=>if a<p then Nl0 m m' r' a b else 0) | _=>False,λ l _=>match l with | [.val (.int .i64 i)]=>r-i.toNat | _=>0,⟨0,rfl,Nat.zero_le _,aN.toM _,aO.congr λ i j _ _=>by simp⟩,?_⟩;rintro i21 bp ⟨p,rfl,hp,S,ai⟩;refine⟨λ br=>?_,λ bt bu aP=>⟨G,true,rfl,⟨λ _=>aJ,λ _=>rfl⟩,λ _=>?_⟩⟩
 ·have C:p<r:=by omega
  obtain⟨x,u,n⟩:=ah.at (i:=p) C;have nx:=n.n;have bv:=hc p C;refine⟨(ah.new S hle).inB (by omega) (by omega),x,u.new S hle,?_⟩;refine⟨λ l W=>match l with | [.val (.int .i64 i)]=>∃q:Nat,i=(q:Int)/\q<=r'/\Eo1 d B W/\Gl4 257 50 84 (d<=·) W G r (c' 0) (λ a b=>if a<p then Nl0 m m' r' a b else if a=p then Mu5 (λ t=>m a t*m' t b) q else 0) | _=>False,λ l _=>match l with | [.val (.int .i64 i)]=>r'-i.toNat | _=>0,⟨0,rfl,Nat.zero_le _,S,ai.congr λ i j _ _=>by simp[Mu5]⟩,?_⟩;rintro i26 bw ⟨q,rfl,hq,H,ak⟩;refine⟨λ bx=>?_,λ bz=>⟨by unfold I64;omega,⟨p+1,by push_cast;rfl,by omega,H,ak.congr λ a b T A=>?_⟩,?_⟩⟩
  ·have U:q<r':=by omega
   have al:=n.new H hle;obtain⟨am,an,ao,g1,g2⟩:=al.at (i:=q) (by omega);obtain⟨z,z1,z2⟩:=N.at (i:=q) U;have nz:=z2.n;have bA:=ag q U;refine⟨al.inB (by omega) (by omega),am,an,ao,g1,(N.new H hle).inB (by omega) (by omega),z,z1.new H hle,?_⟩;refine⟨λ l W=>match l with | [.val (.int .i64 i)]=>∃v:Nat,i=(v:Int)/\v<=c' 0/\Eo1 d B W/\Ab3 257 W am an ao (m p q)/\Gl4 257 50 84 (d<=·) W G r (c' 0) (λ a b=>if a<p then Nl0 m m' r' a b else if a=p then Mu5 (λ t=>m a t*m' t b) (if b<v then q+1 else q) else 0) | _=>False,λ l _=>match l with | [.val (.int .i64 i)]=>c' 0-i.toNat | _=>0,⟨0,rfl,Nat.zero_le _,H,g2,ak.congr λ i j _ _=>by simp⟩,?_⟩;rintro i34 bB ⟨v,rfl,hv,V,ap,O⟩;refine⟨λ bD=>?_,λ bE=>⟨by unfold I64;omega,⟨q+1,by push_cast;rfl,by omega,V,O.congr λ a b T A=>?_⟩,?_⟩⟩
   ·have aq:v<c' 0:=by omega
    have z35:=z2.new V hle;obtain⟨aR,aS,aT,w1,w2⟩:=z35.at (i:=v) (by omega);obtain⟨o,X,Y⟩:=O.mat.at (i:=p) C;obtain⟨aW,aX,aY,u1,u2⟩:=Y.at (i:=v) aq;have au:=O.mat.inB (i:=(p:Int)) (by omega) (by omega);have a0:=Y.inB (i:=(v:Int)) (by omega) (by omega);rw[if_neg (by omega),if_pos rfl,if_neg (by omega)] at u2;have av:=Z p q C (by omega);have aw:=aa q v U (by omega);have a1:Sz (q*(k+l+1)+1) (Mu5 (λ t=>m p t*m' t v) q):=Ni0 λ t ht=>(Z p t C (by omega)).mul (aa t v (by omega) (by have:=ag t (by omega);omega));have bF:q*(k+l+1)<=12*(k+l+1):=Nat.mul_le_mul_right _ (by omega);refine⟨z35.inB (by omega) (by omega),aR,aS,aT,w1,au,o,X,au,o,X,a0,aW,aX,aY,u1,?_⟩;refine Ak9 ap w2 av aw (by omega) (by omega) λ a2 a3 a4 bG w a5=>⟨a2,a3,a4,rfl,w,?_⟩;refine At2 (u2.ext w) a5 a1 (av.mul aw) (by omega) (by omega) λ a6 a7 a8 bH D a9=>⟨a6,a7,a8,rfl,D,((Y.ext w).ext D).inB (by omega) (by omega),?_⟩;refine((O.ext w).ext D).store (j:=v) ((X.ext w).ext D) C aq a9 (by decide) (by decide) (λ g I=>.inr (Nat.le_trans aM I)) λ bI ax ba=>⟨by unfold I64;omega,⟨v+1,by push_cast;rfl,by omega,((V.trans (w.toM _)).trans (D.toM _)).trans (ax.Fi8 λ g I=>I),ax.rat ((ap.ext w).ext D) (by decide),ba.congr λ a b T A=>?_⟩,?_⟩
    ·unfold Ha2
     by_cases e:a=p/\b=v
     ·obtain⟨rfl,rfl⟩:=e
      rw[if_pos ⟨rfl,rfl⟩,if_neg (by omega),if_pos rfl,if_pos (by omega)];rfl
     ·rw[if_neg e]
      dsimp only
      by_cases u:a<p
      ·rw[if_pos u,if_pos u]
      ·rw[if_neg u,if_neg u]
       by_cases n:a=p
       ·rw[if_pos n,if_pos n]
        by_cases e3:b<v
        ·rw[if_pos e3,if_pos (by omega)]
        ·rw[if_neg e3,if_neg (by omega)]
       ·rw[if_neg n,if_neg n]
    ·show c' 0-Int.toNat ((v:Int)+1)<c' 0-Int.toNat (v:Int)
     omega
   ·rw[if_pos (show b<v by omega)]
   ·show r'-Int.toNat ((q:Int)+1)<r'-Int.toNat (q:Int)
    omega
  ·have hq:q=r':=by omega
   subst hq
   by_cases u:a<p
   ·rw[if_pos u,if_pos (by omega)]
   ·rw[if_neg u]
    by_cases n:a=p
    ·rw[if_pos n,if_pos (by omega)];rfl
    ·rw[if_neg n,if_neg (by omega)]
  ·show r-Int.toNat ((p:Int)+1)<r-Int.toNat (p:Int)
   omega
 ·refine((ai.ext aP).mono λ g I=>Nat.le_trans (hn.ext L) (Nat.le_trans hle I)).congr λ a b T A=>?_
  rw[if_pos (by omega)]
theorem Ni7 {W:PW}{K:Value->PW->Prop}{c:Nat->Nat}(d:Gf6 n0 W)(h1:Gf9 257 50 84 W s r c m)(e:Gf9 257 50 84 W t r' c' m')(n:r<=1099511627776)(o:r'<=1099511627776)(u: ∀i j,i<r->j<c i->Sz k (m i j))(v: ∀i j,i<r'->j<c' i->Sz l (m' i j))(hk:k<=100000000)(w:l<=100000000)(z: ∀(s':Sl) (b:Bool) (W':PW),Ext W W'->(((b=true↔Gf8 r c/\Gf8 r' c'/\c 0=r')/\(Gf8 r c/\Gf8 r' c'/\c 0=r'->Gl4 257 50 84 (n0<=·) W' s' r (c' 0) (Nl0 m m' r'))))->K (.tuple #[Sl.v s',.bool b]) W'):
  Aa1 Tryz.prog W0 M 38 [s.v,t.v] W K:=
 Mi4 (λ _ a=>Nj9 (d.ext a) (h1.ext a) (e.ext a) n o u v hk w) fun | _,W',a,⟨s',b,rfl,h⟩=>z s' b W' a h
end Go.Proofs.YtkgeopnakkcdoaaGreatDoor
namespace Go.Proofs.YtkgeopnakkcdoaaGreatDoor
open Go Go.SX
variable {K:Value->PW->Prop}{M:Nat->Prop}{W W0:PW}{b b':Bool}{c':Nat->Nat}{f g:Nat->Rat}{k n' r r':Nat}{m m':Nat->Nat->Rat}{p q:Rat}{s s' t t':Sl}
theorem Nj2 (h1:Ab3 257 W0 s b t p)(a:Ab3 257 W0 s' b' t' q)(c:Sz k p)(d:Sz k q)(hk:k<=34359738368):
  Aa0 Tryz.prog 109 [.agg #[s.v,.bool b,t.v],.agg #[s'.v,.bool b',t'.v]] W0 M λ v W'=>∃(e:Bool),v = .bool e/\(e=true↔p=q):=by
 apply Ng6;refine Aj2 h1 a c d hk hk λ h n _=>⟨_,rfl,λ o u=>⟨_,rfl,?_⟩⟩;rw[decide_eq_true_iff];exact Be6 p q
theorem Nh8 (h1:Ab3 257 W s b t p)(c:Ab3 257 W s' b' t' q)(d:Sz k p)(n:Sz k q)(hk:k<=34359738368)(o: ∀(e:Bool) (W':PW),Ext W W'->((e=true↔p=q))->K (.bool e) W'):
  Aa1 Tryz.prog W0 M 109 [.agg #[s.v,.bool b,t.v],.agg #[s'.v,.bool b',t'.v]] W K:=
 Mi4 (λ _ a=>Nj2 (h1.ext a) (c.ext a) d n hk) fun | _,W',a,⟨e,rfl,h⟩=>o e W' a h
theorem Nk0 {n:Nat}(h1:Gv6 257 50 W0 s n f)(d:Gv6 257 50 W0 t n' g)(O:n<=1099511627776)(z: ∀i,i<n->Sz k (f i))(A: ∀i,i<n'->Sz k (g i))(hk:k<=34359738368):
  Aa0 Tryz.prog 108 [s.v,t.v,.func (.func 109) #[] #[]] W0 M λ v W'=>∃(e:Bool),v = .bool e/\(e=true↔n=n'/\∀i,i<n->f i=g i):=by
 apply Ng2;have P:=h1.n;have Q:=d.n;refine⟨λ a R _=>⟨false,rfl,λ h=>(by cases h),λ h=>?_⟩,λ heq=>?_⟩
 ·have:=h.1
  omega
 have B:n=n':=by omega
 subst B;refine⟨λ l W=>match l with | [.val (.int .i64 i)]=>Ext W0 W/\∃k:Nat,i=(k:Int)/\k<=n/\∀i,i<k->f i=g i | _=>False,λ l _=>match l with | [.val (.int .i64 i)]=>n-i.toNat | _=>0,⟨Ext.refl _,0,rfl,Nat.zero_le _,λ i h=>(by omega)⟩,?_⟩;rintro i4 S ⟨c,j,rfl,T,o⟩;have a5:=h1.ext c;have u:=d.ext c;refine⟨λ U=>?_,λ V X _=>⟨true,rfl,λ _=>⟨rfl,λ i hi=>o i (by omega)⟩,λ _=>rfl⟩⟩;obtain⟨C,D,E,F,G⟩:=a5.at (i:=j) (by omega);obtain⟨H,I,J,f1,f2⟩:=u.at (i:=j) (by omega);refine⟨a5.inB (by omega) (by omega),C,D,E,F,u.inB (by omega) (by omega),H,I,J,f1,?_⟩;refine Nh8 G f2 (z j (by omega)) (A j (by omega)) hk λ L Y N w=>⟨L,rfl,λ a Z _=>⟨false,rfl,λ h=>(by cases h),λ h=>?_⟩,λ heq=>⟨by unfold I64;omega,⟨c.trans N,j+1,by push_cast;rfl,by omega,λ i hi=>?_⟩,?_⟩⟩
 ·rw[w.2 (h.2 j (by omega))] at a
  cases a
 ·by_cases e:i=j
  ·subst e
   exact w.1 (by simpa using heq)
  ·exact o i (by omega)
 ·show n-Int.toNat ((j:Int)+1)<n-Int.toNat (j:Int)
  omega
theorem Ni1 {n:Nat}(h1:Gv6 257 50 W s n f)(c:Gv6 257 50 W t n' g)(d:n<=1099511627776)(o: ∀i,i<n->Sz k (f i))(u: ∀i,i<n'->Sz k (g i))(hk:k<=34359738368)(v: ∀(e:Bool) (W':PW),Ext W W'->((e=true↔n=n'/\∀i,i<n->f i=g i))->K (.bool e) W'):
  Aa1 Tryz.prog W0 M 108 [s.v,t.v,.func (.func 109) #[] #[]] W K:=
 Mi4 (λ _ a=>Nk0 (h1.ext a) (c.ext a) d o u hk) fun | _,W',a,⟨e,rfl,h⟩=>v e W' a h
theorem Nj4 {n:Nat}(h1:Gv6 257 50 W0 s n f)(a:Gv6 257 50 W0 t n' g)(c:n<=1099511627776)(d: ∀i,i<n->Sz k (f i))(h: ∀i,i<n'->Sz k (g i))(hk:k<=34359738368):
  Aa0 Tryz.prog 107 [s.v,t.v] W0 M λ v W'=>∃(e:Bool),v = .bool e/\(e=true↔n=n'/\∀i,i<n->f i=g i):=by
 apply Nh0;exact Ni1 h1 a c d h hk λ b u w o=>⟨b,rfl,λ z A=>⟨b,rfl,o⟩⟩
theorem Nh7 {n:Nat}(h1:Gv6 257 50 W s n f)(c:Gv6 257 50 W t n' g)(d:n<=1099511627776)(o: ∀i,i<n->Sz k (f i))(u: ∀i,i<n'->Sz k (g i))(hk:k<=34359738368)(v: ∀(e:Bool) (W':PW),Ext W W'->((e=true↔n=n'/\∀i,i<n->f i=g i))->K (.bool e) W'):
  Aa1 Tryz.prog W0 M 107 [s.v,t.v] W K:=
 Mi4 (λ _ a=>Nj4 (h1.ext a) (c.ext a) d o u hk) fun | _,W',a,⟨e,rfl,h⟩=>v e W' a h
def Nk3 (r r':Nat) (c c':Nat->Nat) (m m':Nat->Nat->Rat):Prop:=r=r'/\∀i,i<r->c i=c' i/\∀j,j<c i->m i j=m' i j
theorem Nk1 {c:Nat->Nat}(h1:Gf9 257 50 84 W0 s r c m)(n:Gf9 257 50 84 W0 t r' c' m')(H:r<=1099511627776)(z: ∀i,i<r->c i<=1099511627776)(A: ∀i j,i<r->j<c i->Sz k (m i j))(B: ∀i j,i<r'->j<c' i->Sz k (m' i j))(hk:k<=34359738368):
  Aa0 Tryz.prog 106 [s.v,t.v,.func (.func 107) #[] #[]] W0 M λ v W'=>∃(e:Bool),v = .bool e/\(e=true↔Nk3 r r' c c' m m'):=by
 apply Ng3;have I:=h1.n;have J:=n.n;refine⟨λ a L _=>⟨false,rfl,λ h=>(by cases h),λ h=>?_⟩,λ heq=>?_⟩
 ·have:=h.1
  omega
 have C:r=r':=by omega
 subst C;refine⟨λ l W=>match l with | [.val (.int .i64 i)]=>Ext W0 W/\∃k:Nat,i=(k:Int)/\k<=r/\∀i,i<k->c i=c' i/\∀j,j<c i->m i j=m' i j | _=>False,λ l _=>match l with | [.val (.int .i64 i)]=>r-i.toNat | _=>0,⟨Ext.refl _,0,rfl,Nat.zero_le _,λ i h=>(by omega)⟩,?_⟩;rintro i4 N ⟨d,j,rfl,O,o⟩;have a5:=h1.ext d;have u:=n.ext d;refine⟨λ P=>?_,λ Q R _=>⟨true,rfl,λ _=>⟨rfl,λ i hi=>o i (by omega)⟩,λ _=>rfl⟩⟩;obtain⟨x,D,E⟩:=a5.at (i:=j) (by omega);obtain⟨y,f1,f2⟩:=u.at (i:=j) (by omega);refine⟨a5.inB (by omega) (by omega),x,D,u.inB (by omega) (by omega),y,f1,?_⟩;refine Nh7 E f2 (z j (by omega)) (λ i hi=>A j i (by omega) hi) (λ i hi=>B j i (by omega) hi) hk λ F S G w=>⟨F,rfl,λ a T _=>⟨false,rfl,λ h=>(by cases h),λ h=>?_⟩,λ heq=>⟨by unfold I64;omega,⟨d.trans G,j+1,by push_cast;rfl,by omega,λ i hi=>?_⟩,?_⟩⟩
 ·rw[w.2 (h.2 j (by omega))] at a
  cases a
 ·by_cases e:i=j
  ·subst e
   exact w.1 (by simpa using heq)
  ·exact o i (by omega)
 ·show r-Int.toNat ((j:Int)+1)<r-Int.toNat (j:Int)
  omega
theorem Ni2 {c:Nat->Nat}(h1:Gf9 257 50 84 W s r c m)(d:Gf9 257 50 84 W t r' c' m')(n:r<=1099511627776)(o: ∀i,i<r->c i<=1099511627776)(u: ∀i j,i<r->j<c i->Sz k (m i j))(v: ∀i j,i<r'->j<c' i->Sz k (m' i j))(hk:k<=34359738368)(w: ∀(e:Bool) (W':PW),Ext W W'->((e=true↔Nk3 r r' c c' m m'))->K (.bool e) W'):
  Aa1 Tryz.prog W0 M 106 [s.v,t.v,.func (.func 107) #[] #[]] W K:=
 Mi4 (λ _ a=>Nk1 (h1.ext a) (d.ext a) n o u v hk) fun | _,W',a,⟨e,rfl,h⟩=>w e W' a h
theorem Nj1 {c:Nat->Nat}(h1:Gf9 257 50 84 W0 s r c m)(o:Gf9 257 50 84 W0 t r' c' m')(u:r<=1099511627776)(D:r'<=1099511627776)(a: ∀i j,i<r->j<c i->Sz k (m i j))(E: ∀i j,i<r'->j<c' i->Sz k (m' i j))(hk:k<=34359738368):
  Aa0 Tryz.prog 40 [s.v,t.v] W0 M λ v W'=>∃(e:Bool),v = .bool e/\(e=true↔Gf8 r c/\Gf8 r' c'/\Nk3 r r' c c' m m'):=by
 apply Nh5;refine Gn0 h1 u λ b J d w=>⟨b,rfl,λ F=>?_,λ a L _=>⟨false,rfl,λ h=>(by cases h),λ h=>?_⟩⟩
 ·have n:=w.1 F
  refine Gn0 (o.ext d) D λ b' N z A=>⟨b',rfl,λ G=>?_,λ B O _=>⟨false,rfl,λ h=>(by cases h),λ h=>?_⟩⟩
  ·have H:=A.1 G
   refine Ni2 ((h1.ext d).ext z) ((o.ext d).ext z) u (λ i hi=>by have:=n.1 i hi;have:=n.2.2.2.2;omega) a E hk λ C P Q I=>⟨C,rfl,λ R _=>⟨C,rfl,?_⟩⟩;rw[I];exact⟨λ h=>⟨n,H,h⟩,λ h=>h.2.2⟩
  ·rw[A.2 h.2.1] at B
   cases B
 ·rw[w.2 h.1] at a
  cases a
theorem Nh6 {c:Nat->Nat}(h1:Gf9 257 50 84 W s r c m)(d:Gf9 257 50 84 W t r' c' m')(n:r<=1099511627776)(o:r'<=1099511627776)(u: ∀i j,i<r->j<c i->Sz k (m i j))(v: ∀i j,i<r'->j<c' i->Sz k (m' i j))(hk:k<=34359738368)(w: ∀(e:Bool) (W':PW),Ext W W'->((e=true↔Gf8 r c/\Gf8 r' c'/\Nk3 r r' c c' m m'))->K (.bool e) W'):
  Aa1 Tryz.prog W0 M 40 [s.v,t.v] W K:=
 Mi4 (λ _ a=>Nj1 (h1.ext a) (d.ext a) n o u v hk) fun | _,W',a,⟨e,rfl,h⟩=>w e W' a h
end Go.Proofs.YtkgeopnakkcdoaaGreatDoor
namespace Go.Proofs.YtkgeopnakkcdoaaGreatDoor
open Go Go.SX
variable {K:Value->PW->Prop}{M:Nat->Prop}{W W0:PW}{f:Nat->Rat}{i j k:Nat}{m:Nat->Nat->Rat}{s:Sl}{ss:List Sl}
abbrev OM (W:PW) (s:Sl) (ss:List Sl) (c:Nat) (m:Nat->Nat->Rat):Prop:=OwM 257 50 84 W s ss c m
def Mz6 (m:Nat->Nat->Rat) (j i:Nat):Nat->Nat->Rat:=λ a b=>if a=j/\i<=b then m j b-m j i/m i i*m i b else m a b
def clI (W0:PW) (s:Sl) (ss:List Sl) (c:Nat) (m:Nat->Nat->Rat) (N:Nat->Prop) (i j:Nat) (s1:Sl) (b:Bool) (s2:Sl) (L:List PL) (W:PW):Prop:=match L with
 | [.val (.int .i64 z)]=>∃p:Nat,z=(p:Int)/\i<=p/\p<=c/\Au9 N W0 W/\Ab3 257 W s1 b s2 (m j i/m i i)/\OM W s ss c (λ a b=>if a=j/\i<=b/\b<p then m j b-m j i/m i i*m i b else m a b)
 | _=>False
theorem Na0 {c:Nat}(h:OM W0 s ss c m)(hi:i<ss.length)(d:j<ss.length)(aD:j≠i)(u:i<c)(hl:ss.length<=1048576)(hc:c<=1048576)(o: ∀a b,a<ss.length->b<c->Sz k (m a b))(hk:k<=1000000)(I:1<=k):
  Aa0 Tryz.prog 92 [s.v,.int .i64 (j:Int),.int .i64 (i:Int)] W0 (λ g=>ss[j].v.ownBlock=some g) λ v W'=>v = .tuple ⟨[]⟩/\OM W' s ss c (Mz6 m j i):=by
 apply My5;obtain⟨s2,U,s4,V,q1⟩:=h.at (i:=j) (j:=i) d u;obtain⟨X,Y,Z,e2,q2⟩:=h.at (i:=i) (j:=i) hi u;have aG:=h.rn d;refine⟨h.inB (by omega) (by omega),ss[j],h.elem d,h.Ne8 d (by omega) (by omega),s2,U,s4,V,h.inB (by omega) (by omega),ss[i],h.elem hi,h.Ne8 hi (by omega) (by omega),X,Y,Z,e2,?_⟩;have D:=(o j i d u).div (o i i hi u) I;refine Gb1 q1 q2 (o j i d u) (o i i hi u) (by omega) (by omega) I λ J N O aH F ac=>⟨J,N,O,_,rfl,F,?_⟩;refine⟨clI W0 s ss c m (λ g=>ss[j].v.ownBlock=some g) i j J N O,λ L _=>match L with | [.val (.int .i64 z)]=>c-z.toNat | _=>0,⟨i,rfl,Nat.le_refl _,by omega,F.toM _,ac,(h.ext F).congr λ a b _ _=>by rw[if_neg (by omega)]⟩,?_⟩;rintro i17 aI ⟨p,rfl,aJ,aK,ad,G,A⟩;refine⟨A.inB (by omega) (by omega),ss[j],A.elem d,λ aL=>?_,λ aM aN ae=>⟨rfl,(A.ext ae).congr λ a b _ P=>?_⟩⟩
 ·have w:p<c:=by omega
  refine Bk6 G D (by omega) λ aO B _=>⟨_,rfl,λ aP=>?_,λ heq aQ af=>⟨rfl,(A.ext (B.trans af)).congr λ a b _ P=>?_⟩⟩
  ·have n:=A.ext B
   obtain⟨ag,ah,ai,e3,Q⟩:=n.at (i:=j) (j:=p) d w;obtain⟨ak,al,am,e4,R⟩:=n.at (i:=i) (j:=p) hi w;rw[if_neg (by omega)] at Q R;have S:=n.inB (i:=(j:Int)) (by omega) (by omega);refine⟨S,ss[j],n.elem d,S,ss[j],n.elem d,n.Ne8 d (by omega) (by omega),ag,ah,ai,e3,n.inB (by omega) (by omega),ss[i],n.elem hi,n.Ne8 hi (by omega) (by omega),ak,al,am,e4,?_⟩;refine Ak9 (G.ext B) R D (o i p hi w) (by omega) (by omega) λ ao ap aq aR H ar=>⟨ao,ap,aq,rfl,H,?_⟩;refine Gr0 (Q.ext H) ar (o j p d w) (D.mul (o i p hi w)) (by omega) (by omega) λ au av aw aS T ax=>⟨au,av,aw,rfl,T,n.Ne8 d (by omega) (by omega),?_⟩;have E:=H.trans T;refine(n.ext E).store (j:=p) d w ax (by decide) (by decide) (λ g hg=>.inl hg) λ aT hX hp aB=>⟨by unfold I64;omega,⟨p+1,by push_cast;rfl,by omega,by omega,(ad.trans ((B.trans E).toM _)).trans hX,hp.rat (G.ext (B.trans E)) (by decide),aB.congr λ a b ha P=>?_⟩,?_⟩
   ·unfold Ha2
    by_cases e:a=j/\b=p
    ·rw[if_pos e,if_pos (by omega),e.2]
    ·rw[if_neg e]
     dsimp only
     by_cases C:a=j/\i<=b/\b<p
     ·rw[if_pos C,if_pos (by omega)]
     ·rw[if_neg C,if_neg (by omega)]
   ·show c-Int.toNat ((p:Int)+1)<c-Int.toNat (p:Int)
    omega
  ·have h0:m j i/m i i=0:=(Be6 _ 0).1 (by omega)
   unfold Mz6;rw[h0]
   by_cases e:a=j/\i<=b
   ·rw[if_pos e]
    by_cases C:a=j/\i<=b/\b<p
    ·rw[if_pos C]
    ·rw[if_neg C,e.1];grind
   ·rw[if_neg e,if_neg (by omega)]
 ·unfold Mz6
  by_cases e:a=j/\i<=b
  ·rw[if_pos e,if_pos (by omega)]
  ·rw[if_neg e,if_neg (by omega)]
theorem My8 {c:Nat}(h:OM W s ss c m)(hi:i<ss.length)(e:j<ss.length)(w:j≠i)(z:i<c)(A:ss.length<=1048576)(B:c<=1048576)(C: ∀a b,a<ss.length->b<c->Sz k (m a b))(hk:k<=1000000)(D:1<=k)(E: ∀g,ss[j].v.ownBlock=some g->may W0 M g)(F: ∀W' d,Ext W W'->Au9 (λ g=>ss[j].v.ownBlock=some g) W' d->OM d s ss c (Mz6 m j i)->K (.tuple ⟨[]⟩) d):
  Aa1 Tryz.prog W0 M 92 [s.v,.int .i64 (j:Int),.int .i64 (i:Int)] W K:=λ W' n=>by
 have o:=h.ext n;refine⟨_,_,Na0 o hi e w z A B C hk D,λ g u=>⟨?_,E g u⟩,λ v d G H=>?_⟩
 ·obtain⟨xs,k1,_⟩:=o.2.1 j e
  exact(k1.block u).2
 ·obtain⟨rfl,I⟩:=H
  exact F W' d n G I
theorem Mz7 {n:Nat}(h:Gv6 257 50 W0 s n f)(A:n<=1099511627776):
  Aa0 Tryz.prog 170 [s.v] W0 M λ v W'=>∃(s':Sl),∃(xs:List (List Value)),v=Sl.v s'/\Aq4 W0 s'/\Go.SX.Own W' 50 3 s' xs/\Qs 257 W' xs n f:=by
 apply Mu7;obtain⟨xs,h,c⟩:=h;have B:=c.1;refine⟨λ d C o=>?_,λ d=>⟨xs,⟨_,h⟩,by omega,λ s3 D u hO w E e=>⟨s3,xs,rfl,λ g a=>(w g a).1,by rw[List.nil_append] at hO;exact hO.ext e,c.ext (u.trans e)⟩⟩⟩;have:xs = []:=Classical.byContradiction λ z=>by
  have:=h.some z;rw[d] at this;cases this
 subst this;exact⟨⟨none,0,0⟩,[],rfl,λ g a=>by simp[Sl.v,Value.ownBlock] at a,⟨⟨by simp,rfl,.inl ⟨rfl,rfl⟩⟩,λ g a=>by simp[Sl.v,Value.ownBlock] at a⟩,c.ext o⟩
theorem My3 {n:Nat}(h:Gv6 257 50 W s n f)(c:n<=1099511627776)(d: ∀(s':Sl) (xs:List (List Value)) (W':PW),Ext W W'->(Aq4 W s'/\Go.SX.Own W' 50 3 s' xs/\Qs 257 W' xs n f)->K (Sl.v s') W'):
  Aa1 Tryz.prog W0 M 170 [s.v] W K:=
 Aa2 (λ W' a=>Mz7 (h.ext a) c) fun | W',_,e,a,o,⟨s',xs,rfl,u,h⟩=>d s' xs e (a.trans o) ⟨u.back a,h⟩
end Go.Proofs.YtkgeopnakkcdoaaGreatDoor
