import Derived.Test.YtkgeopnakkcdoaaGreatDoorW10
import Derived.Test.YtkgeopnakkcdoaaGreatDoorR10
import Derived.Test.YtkgeopnakkcdoaaGreatDoorLib5
import Derived.Test.YtkgeopnakkcdoaaGreatDoorR9
set_option linter.unusedVariables false
set_option linter.unusedSimpArgs false
set_option maxRecDepth 100000
namespace Go.Proofs.YtkgeopnakkcdoaaGreatDoor
open Go Go.SX
variable {K:Value->PW->Prop}{M:Nat->Prop}{W W' W0:PW}{bs:List Iv}{f:List (List Tm)}{i k l m r:Nat}{l2:List Value}{s sj sy:Sl}{x:Iv}{y:Nat->Nat->Rat}
theorem Mn0 {l1:List Value}{y:Iv}(h1:SpV 257 W0 l1 x)(a:SpV 257 W0 l2 y)(b:IvS k x)(c:IvS k y)(hk:k<=8589934592):
  Aa0 Tryz.prog 14 [.agg ⟨l1⟩,.agg ⟨l2⟩] W0 M λ v W'=>v = .bool (decide (Mr9 x y))/\True:=by
 obtain⟨s0,b0,t0,s1,b1,t1,rfl,h1,g⟩:=h1;obtain⟨s2,b2,t2,s3,o,t3,rfl,a,n⟩:=a;apply Ml1;refine Aj2 a h1 c.1 b.1 (by omega) (by omega) λ p d _=>⟨_,rfl,λ h=>Aj2 (g.ext d) (n.ext d) b.2 c.2 (by omega) (by omega) λ q t _=>⟨_,rfl,λ u w=>⟨?_,trivial⟩⟩,λ h z A=>⟨?_,trivial⟩⟩
 ·have h:=At6.1 h
  congr 1;rw[decide_eq_decide,At6];exact⟨λ e=>⟨h,e⟩,λ e=>e.2⟩
 ·rw[decide_eq_false λ e=>h (At6.2 e.1)]
theorem Mj5 {l1:List Value}{y:Iv}(h1:SpV 257 W l1 x)(b:SpV 257 W l2 y)(c:IvS k x)(d:IvS k y)(hk:k<=8589934592)(e: ∀(W':PW),Ext W W'->(True)->K (.bool (decide (Mr9 x y))) W'):
  Aa1 Tryz.prog W0 M 14 [.agg ⟨l1⟩,.agg ⟨l2⟩] W K:=
 Mi4 (λ _ a=>Mn0 (h1.ext a) (b.ext a) c d hk) fun | _,W',a,⟨rfl,h⟩=>e W' a h
theorem Mn4 {α:Type}{j:Nat}{Q:α->Prop}{l:List α}(b:j<l.length)(h: ∀x∈l.take j,Q x)(c:Q l[j]): ∀x∈l.take (j+1),Q x:=λ x a=>by
 rw[List.take_succ_eq_append_getElem b] at a;rcases List.mem_append.1 a with e | e
 ·exact h x e
 ·rw[List.mem_singleton.1 e]
  exact c
def kfI (W0:PW) (f:List (List Tm)) (bs:List Iv) (L:List PL) (W:PW):Prop:=match L with
 | [.val (.int .i64 i)]=>∃j:Nat,i=(j:Int)/\j<=f.length/\Ext W0 W/\∀p∈f.take j,An3 p bs
 | _=>False
theorem Mo9 {sb:Sl}(d:Ps W0 s f)(e:Bc3 257 W0 sb bs)(hk: ∀x∈bs,IvS k x)(o:k<=1048576)(q:bs.length<=1048576)(g: ∀p∈f,p.length<=1099511627776)(B:f.length<=1000):
  Aa0 Tryz.prog 57 [s.v,sb.v] W0 M λ v W'=>v = .bool (decide (Mk5 f bs))/\True:=by
 apply Mm5;have C:=d.n;have D:=e.n;refine⟨kfI W0 f bs,Kq0 f.length,⟨0,rfl,Nat.zero_le _,Ext.refl _,λ p g=>(by simp at g)⟩,?_⟩;rintro i3 E ⟨j,rfl,F,a,n⟩;have no:¬Mk5 f bs->Value.bool false = .bool (decide (Mk5 f bs))/\True:=λ t=>⟨by rw[decide_eq_false t],trivial⟩;refine⟨λ G=>?_,λ H=>⟨λ he=>?_,λ u W _=>no λ ok=>u (by have:=ok.2.1;omega)⟩⟩
 ·have c:j<f.length:=by omega
  obtain⟨x,w,z⟩:=(d.ext a).at c;refine⟨(d.ext a).inB (by omega) (by omega),x,w,?_⟩;refine Bv2 z (e.ext a) hk o q (g _ (List.getElem_mem c)) λ I A _=>⟨_,rfl,λ b W _=>no λ ok=>?_,λ b=>⟨by unfold I64;omega,⟨j+1,by push_cast;rfl,by omega,a.trans A,Mn4 c n (by simpa using b)⟩,?_⟩⟩
  ·have:=ok.1 _ (List.getElem_mem c)
   simp[this] at b
  ·show f.length-Int.toNat ((j:Int)+1)<f.length-Int.toNat (j:Int)
   omega
 ·have:j=f.length:=by omega
  subst this;rw[List.take_length] at n;refine Cm2 (e.ext a) hk o q λ J L _=>⟨_,rfl,λ W N=>⟨?_,trivial⟩⟩;congr 1;rw[decide_eq_decide];exact⟨λ h=>⟨n,by omega,h⟩,λ h=>h.2.2⟩
theorem Mn1 {sb:Sl}(b:Ps W s f)(c:Bc3 257 W sb bs)(hk: ∀x∈bs,IvS k x)(d:k<=1048576)(e:bs.length<=1048576)(g: ∀p∈f,p.length<=1099511627776)(n:f.length<=1000)(o: ∀(W':PW),Ext W W'->(True)->K (.bool (decide (Mk5 f bs))) W'):
  Aa1 Tryz.prog W0 M 57 [s.v,sb.v] W K:=
 Mi4 (λ _ a=>Mo9 (b.ext a) (c.ext a) hk d e g n) fun | _,W',a,⟨rfl,h⟩=>o W' a h
theorem Mo4 {sb:Sl}(d:Bc3 257 W0 sb bs)(c:Cn7 bs)(hk: ∀x∈bs,IvS k x)(e:k<=1048576):
  Aa0 Tryz.prog 59 [sb.v] W0 M λ v W'=>∃(l:List Value),v = .agg ⟨l⟩/\NmV 257 W' l (Hb9 bs).get:=by
 apply Ml8;have D:=c.1.2;refine Hk9 d hk e (by omega) λ s3 g E hm=>⟨s3,rfl,?_⟩;rw[if_pos c] at hm;obtain⟨h,n,o⟩:=hm;have a:=Hn3 o;refine⟨h,n,a.shp,λ p q t u w z A B C he W b=>⟨_,rfl,?_⟩⟩;have a:NmV 257 g [p.v,.bool q,t.v,u.v,.bool w,z.v,A.v,.bool B,C.v] (λ i=>(Hq4 bs).getD i 0):=by rw[he];exact a
 obtain⟨g0,g1,g2⟩:=a.three;rw[Hl9 bs (by omega)] at g0 g1 g2;exact NmV.mk (g0.ext b) (g1.ext b) (g2.ext b)
theorem Ml9 {sb:Sl}(b:Bc3 257 W sb bs)(c:Cn7 bs)(hk: ∀x∈bs,IvS k x)(d:k<=1048576)(e: ∀(l:List Value) (W':PW),Ext W W'->(NmV 257 W' l (Hb9 bs).get)->K (.agg ⟨l⟩) W'):
  Aa1 Tryz.prog W0 M 59 [sb.v] W K:=
 Mi4 (λ _ a=>Mo4 (b.ext a) c hk d) fun | _,W',a,⟨l,rfl,h⟩=>e l W' a h
def Mr7 (W:PW) (l:List Value) (q:List (List Tm)):Prop:=∃s:Sl,l = [s.v]/\Ps W s q
theorem Mr7.ext {q:List (List Tm)}{l:List Value}(h:Mr7 W l q)(a:Ext W W'):Mr7 W' l q:=let⟨s,e,h⟩:=h;⟨s,e,h.ext a⟩
abbrev Ml6 (W:PW) (s:Sl) (J:List (List (List Tm))):Prop:=Dr1 Mr7 1 W s J
theorem Ml6.ext {J:List (List (List Tm))}(h:Ml6 W s J)(a:Ext W W'):Ml6 W' s J:=Dr1.ext (R:=Mr7) (λ h=>Mr7.ext h) h a
def Mp3 (p:List Tm) (n:Nat):List (List Tm):=(List.range n).map λ k:Nat=>Hc3 p (k:Int)
def Mq0 (f:List (List Tm)):List (List (List Tm)):=f.map λ p=>Mp3 p f.length
theorem Mm4 (p:List Tm)(n:Nat):(Mp3 p n).length=n:=by unfold Mp3;rw[List.length_map,List.length_range]
theorem Mq5 (p:List Tm)(n:Nat):Mp3 p (n+1)=Mp3 p n ++ [Hc3 p (n:Int)]:=by unfold Mp3;rw[List.range_succ,List.map_append];rfl
theorem Mr5 {p:List Tm}{n:Nat}(h:k<(Mp3 p n).length):(Mp3 p n)[k]=Hc3 p (k:Int):=by simp only[Mp3,List.getElem_map,List.getElem_range]
theorem Mn8 (f:List (List Tm)):(Mq0 f).length=f.length:=by unfold Mq0;rw[List.length_map]
theorem Mr6 (h:i<(Mq0 f).length)(a:i<f.length):(Mq0 f)[i]=Mp3 f[i] f.length:=by simp only[Mq0,List.getElem_map]
theorem Ms2 (h:Ml6 W s (Mq0 f))(hi:i<f.length): ∃x:Sl,Aa7 W s 1 i 0 [x.v]/\Ps W x (Mp3 f[i] f.length):=by
 obtain⟨x,⟨t,rfl,a⟩,b⟩:=h.at (i:=i) (by rw[Mn8];exact hi);rw[Mr6 _ hi] at a;exact⟨t,b 0 rfl,a⟩
theorem Mt3 (h:Ml6 W s (Mq0 f)):s.n=f.length:=by rw[h.n,Mn8]
theorem Mr8 (h:Ml6 W s (Mq0 f)){i:Int}(a:0<=i)(h1:i<(f.length:Int)):SX.inB s i:=h.inB a (by rw[Mn8];exact h1)
def kjO (W0:PW) (f:List (List Tm)) (L:List PL) (W:PW):Prop:=match L with
 | [.row l,.val (.int .i64 i)]=>∃j:Nat,i=(j:Int)/\j<=f.length/\Ext W0 W/\An5 (Mr7 W) l ((f.take j).map λ p=>Mp3 p f.length)
 | _=>False
def kjI (W0:PW) (p:List Tm) (n:Nat) (L:List PL) (W:PW):Prop:=match L with
 | [.row l,.val (.int .i64 i)]=>∃j:Nat,i=(j:Int)/\j<=n/\Ext W0 W/\An5 (Gx4 257 169 W) l (Mp3 p j)
 | _=>False
theorem Mm7 (c:Ps W0 s f)(L:f.length<=1000)(u: ∀p∈f,Bd k p/\p.length<=1073741824)(hk:k<=50000000):
  Aa0 Tryz.prog 17 [s.v] W0 M λ v W'=>∃(s':Sl),v=Sl.v s'/\Ml6 W' s' (if f.length<=3 then Mq0 f else[]):=by
 apply Mk8;have N:=c.n;refine⟨λ h w O=>⟨⟨none,0,0⟩,rfl,?_⟩,λ h=>?_⟩
 ·rw[if_neg (by omega)]
  exact Dr1.nil w
 rw[if_pos (by omega)];refine⟨kjO W0 f,cnB f.length,⟨0,rfl,Nat.zero_le _,Ext.refl _,trivial⟩,?_⟩;rintro z i5 A ⟨j,rfl,P,d,a⟩;have B:=a.len;rw[List.length_map,List.length_take] at B;refine⟨λ Q=>?_,λ R C S D hO _ W o=>⟨C,rfl,⟨z,⟨_,hO.row.ext o⟩,?_⟩⟩⟩
 ·have e:j<f.length:=by omega
  obtain⟨x,E,F⟩:=(c.ext d).at e;obtain⟨G,T⟩:=u _ (List.getElem_mem e);refine⟨(c.ext d).inB (by omega) (by omega),x,E,?_⟩;refine⟨kjI A f[j] f.length,cnB f.length,⟨0,rfl,Nat.zero_le _,Ext.refl _,trivial⟩,?_⟩;rintro l10 i11 U ⟨i,rfl,hi,b,g⟩;have H:=g.len;rw[Mm4] at H;refine⟨λ V=>?_,λ X I Y n hO _=>⟨by simp only[List.length_cons,List.length_nil];omega,by unfold I64;omega,⟨j+1,by push_cast;rfl,by omega,d.trans (b.trans n),?_⟩,?_⟩⟩
  ·refine Hg6 (i:=(i:Int)) (F.ext b) G (by omega) (by omega) λ q Z t J=>⟨q,rfl,by simp only[List.length_cons,List.length_nil];omega,by unfold I64;omega,⟨i+1,by push_cast;rfl,by omega,b.trans t,?_⟩,?_⟩
   ·rw[Mq5]
    exact(g.mono λ _ _ h=>h.ext t).append ⟨⟨q,rfl,J⟩,trivial⟩
   ·show f.length-Int.toNat ((i:Int)+1)<f.length-Int.toNat (i:Int)
    omega
  ·have:i=f.length:=by omega
   subst this;rw[List.take_succ_eq_append_getElem e,List.map_append];exact(a.mono λ _ _ h=>h.ext (b.trans n)).append ⟨⟨I,rfl,⟨l10,⟨_,hO.row⟩,g.mono λ _ _ h=>h.ext n⟩⟩,trivial⟩
  ·show f.length-Int.toNat ((j:Int)+1)<f.length-Int.toNat (j:Int)
   omega
 ·have:j=f.length:=by omega
  subst this;rw[List.take_length] at a;exact a.mono λ _ _ h=>h.ext (D.trans o)
theorem Mk9 (b:Ps W s f)(c:f.length<=1000)(d: ∀p∈f,Bd k p/\p.length<=1073741824)(hk:k<=50000000)(e: ∀(s':Sl) (W':PW),Ext W W'->(Ml6 W' s' (if f.length<=3 then Mq0 f else[]))->K (Sl.v s') W'):
  Aa1 Tryz.prog W0 M 17 [s.v] W K:=
 Mi4 (λ _ a=>Mm7 (b.ext a) c d hk) fun | _,W',a,⟨s',rfl,h⟩=>e s' W' a h
def kvI (W0:PW) (n:Nat) (g:Nat->Iv) (L:List PL) (W:PW):Prop:=match L with
 | [.val (.int .i64 i),.cells l]=>∃j:Nat,i=(j:Int)/\j<=n/\Ext W0 W/\SpV 257 W l (g j)
 | _=>False
def kqI (W0:PW) (n:Nat) (g:Nat->Rat) (L:List PL) (W:PW):Prop:=match L with
 | [.val (.int .i64 i),.cells l]=>∃j:Nat,i=(j:Int)/\j<=n/\Ext W0 W/\QtV 257 W l (g j)
 | _=>False
def cnC (n:Nat) (L:List PL) (_:PW):Nat:=match L with
 | [.val (.int .i64 z),_]=>n-z.toNat
 | _=>0
theorem QtV.get {t:Sl}{b:Bool}{q:Rat}(h:QtV 257 W [s.v,.bool b,t.v] q):Ab3 257 W s b t q:=by
 obtain⟨s',b',a,e,h⟩:=h;simp only[List.cons.injEq,Value.bool.injEq,and_true] at e;rw[Sl.Ck0 e.1,e.2.1,Sl.Ck0 e.2.2];exact h
theorem Mo2 {sb:Sl}{c:Nat->Nat}{q:Nat}(D:Ml6 W0 sj (Mq0 f))(E:Gf9 257 50 84 W0 sy f.length c y)(F:Bc3 257 W0 sb bs)(X: ∀a,a<f.length->c a=f.length)(e:KrB k m l f y bs)(hF:Mk5 f bs)(Y: ∀p∈f,POk p)(hi:i<f.length)(G:q<f.length):
  Aa0 Tryz.prog 65 [sj.v,sy.v,sb.v,.int .i64 (i:Int),.int .i64 (q:Int)] W0 M λ v W'=>∃(r:List Value),v = .agg ⟨r⟩/\SpV 257 W' r (krS f y bs i q f.length):=by
 apply Mm2;have aH:=e.n;have H:=e.l1;have Z:=E.n;have aI:=Mt3 D;have aJ:=F.n;have aa:Gf6 W0.w.heap.size W0:=Nat.le_refl _;rw[Z];refine Mj8 aa (by omega) (by omega) λ s3 W2 ac g=>⟨s3,rfl,?_⟩;have g:=g.mat;obtain⟨s4,e4,g4⟩:=g.at (i:=i) hi;obtain⟨I,J,L,e5,g5⟩:=g4.at (i:=q) G;refine⟨g.inB (by omega) (by omega),s4,e4,g4.inB (by omega) (by omega),I,J,L,e5,?_⟩;have g5:Ab3 257 W2 I J L (if i=q then 1 else 0):=g5;refine De4 g5 λ l9 W9 ag o=>o.out λ aL aM aN aO aP aQ o=>?_;refine⟨kvI W9 f.length (krS f y bs i q),cnC f.length,⟨0,rfl,Nat.zero_le _,Ext.refl _,o⟩,?_⟩;rintro aR aS aT aU aV aW i24 aX ⟨n,rfl,hn,N,O⟩;have t:=ac.trans (ag.trans N);refine⟨λ aY=>?_,λ aZ W hE=>⟨_,rfl,?_⟩⟩
 ·have b:n<f.length:=by omega
  have P:=D.ext t;obtain⟨aj,ak,Q⟩:=Ms2 P b;obtain⟨al,am,R⟩:=Q.at (i:=q) (by rw[Mm4];exact G);rw[Mr5] at R;have d:=e.p _ (List.getElem_mem b);have an:=hF.1 _ (List.getElem_mem b);have u:=Y _ (List.getElem_mem b);have ao:=Mp8 an u (k:=q) (by omega);have z1:=d.n.m1;have z2:=d.len;have z3:=d.k1;have z4:=d.bl;have a0:=Hj1 f[n] (q:Int);have aq:BxN (k+1) m (Hc3 f[n] (q:Int)) bs:=⟨Hg1 d.n.bd u _,d.n.sd,Hh5 u _,by omega,by omega,z1,by omega⟩;refine⟨Mr8 P (by omega) (by omega),aj,ak,Q.inB (by omega) (by rw[Mm4];omega),al,am,?_⟩;refine Bi4 R (F.ext t) aq λ a1 a2 w h=>?_;rw[if_pos ao] at h;obtain⟨ar,au,av,aw,ax,ay,rfl,v1,v2⟩:=h;have h:=SpV.mk v1 v2;refine⟨ar,au,av,aw,ax,ay,_,rfl,?_⟩;have S:=E.ext (t.trans w);obtain⟨az,aA,z⟩:=S.at (i:=i) hi;rw[X i hi] at z;obtain⟨aB,aC,aD,aE,aF⟩:=z.at (i:=n) b;refine⟨S.inB (by omega) (by omega),az,aA,z.inB (by omega) (by omega),aB,aC,aD,aE,?_⟩;have T:IvS 460000 (Aq8 (Bm3 bs) (Hc3 f[n] (q:Int))):=(d.Hp1 (q:Int)).sz;have U:=e.y i n hi b;refine Hu2 h aF (IvS.mono T (show 460000<=100000000 by omega)) (U.mono H) (by omega) λ a3 a4 A B=>B.out λ a5 a6 a7 a8 a9 ba B=>⟨A,?_⟩;have zs:=e.S3 hi q (n:=n) hn;have zc:IvS (100000000+100000000) (De8 (Aq8 (Bm3 bs) (Hc3 f[n] (q:Int))) (y i n)):=IvS.scale (IvS.mono T (by omega)) (U.mono H);refine Hi9 (O.ext (w.trans A)) B zs (IvS.mono zc (by omega)) (by omega) λ bb bc V C=>C.out λ bd be bf bg bh bi C=>⟨V,by unfold I64;omega,⟨n+1,by push_cast;rfl,by omega,N.trans (w.trans (A.trans V)),?_⟩,?_⟩
  ·rw[krS,Mq1 b]
   exact C
  ·show f.length-Int.toNat ((n:Int)+1)<f.length-Int.toNat (n:Int)
   omega
 ·have:n=f.length:=by omega
  subst this;exact O.ext hE
theorem Ml4 {sb:Sl}{c:Nat->Nat}{q:Nat}(d:Ml6 W sj (Mq0 f))(e:Gf9 257 50 84 W sy f.length c y)(g:Bc3 257 W sb bs)(n: ∀a,a<f.length->c a=f.length)(o:KrB k m l f y bs)(hF:Mk5 f bs)(t: ∀p∈f,POk p)(hi:i<f.length)(u:q<f.length)(v: ∀(r:List Value) (W':PW),Ext W W'->(SpV 257 W' r (krS f y bs i q f.length))->K (.agg ⟨r⟩) W'):
  Aa1 Tryz.prog W0 M 65 [sj.v,sy.v,sb.v,.int .i64 (i:Int),.int .i64 (q:Int)] W K:=
 Mi4 (λ _ b=>Mo2 (d.ext b) (e.ext b) (g.ext b) n o hF t hi u) fun | _,W',b,⟨r,rfl,h⟩=>v r W' b h
def Mn5 (f:List (List Tm)) (r:Nat) (c:Nat->Nat) (bs:List Iv):Prop:=Mk5 f bs/\Gf8 r c/\r=bs.length/\c 0=bs.length
instance (r:Nat) (c:Nat->Nat):Decidable (Gf8 r c):=by unfold Gf8;infer_instance
instance (f:List (List Tm)) (r:Nat) (c:Nat->Nat) (bs:List Iv):Decidable (Mn5 f r c bs):=by unfold Mn5;infer_instance
structure KrN (k m l:Nat) (f:List (List Tm)) (r:Nat) (c:Nat->Nat) (y:Nat->Nat->Rat) (bs:List Iv):Prop where
 p: ∀q∈f,Bd k q/\q.length<=30/\POk q
 n:f.length<=1000
 k1:k<=300000
 s: ∀x∈bs,IvS m x
 m1:m<=100
 b:bs.length<=1000
 y: ∀i j,i<r->j<c i->Sz l (y i j)
 l1:l<=100000000
 r1:r<=1000
theorem KrN.B {c:Nat->Nat}(h:KrN k m l f r c y bs)(ok:Mn5 f r c bs):KrB k m l f y bs:=by
 have h1:=ok.1.2.1;have e:=ok.1.2.2.1.2;have g:=ok.2.2.1;have n:=ok.2.2.2;have k1:=h.k1;refine⟨λ q d=>?_,by omega,λ i j hi o=>h.y i j (by omega) ?_,h.l1⟩
 ·obtain⟨a,b,c⟩:=h.p q d
  exact⟨⟨a,h.s,c,by omega,by omega,h.m1,by omega⟩,b,h.k1,by omega⟩
 ·have:=ok.2.1.1 i (by omega)
  omega
def kaI (W0:PW) (f:List (List Tm)) (y:Nat->Nat->Rat) (bs:List Iv) (L:List PL) (W:PW):Prop:=match L with
 | [.row l,.val (.int .i64 i)]=>∃j:Nat,i=(j:Int)/\j<=bs.length/\Ext W0 W/\An5 (SpV 257 W) l ((List.range j).map λ i=>krR f y bs i bs.length)
 | _=>False
theorem Mo0 {sb:Sl}{c:Nat->Nat}(B:Ps W0 s f)(F:Gf9 257 50 84 W0 sy r c y)(G:Bc3 257 W0 sb bs)(d:KrN k m l f r c y bs):
  Aa0 Tryz.prog 13 [s.v,sy.v,sb.v] W0 M λ v W'=>∃(s':Sl),v = .tuple ⟨[Sl.v s',.bool (decide (Mn5 f r c bs))]⟩/\Bc3 257 W' s' (if Mn5 f r c bs then krK f y bs else[]):=by
 apply Ml5;have bQ:=B.n;have bR:=F.n;have bS:=G.n;have n1:=d.m1;have n2:=d.b;have n3:=d.n;have n4:=d.k1;have n5:=d.r1;have no:¬Mn5 f r c bs->∀W:PW,∃s':Sl,(Value.tuple ⟨[.slice none 0 0,.bool false]⟩) = .tuple ⟨[Sl.v s',.bool (decide (Mn5 f r c bs))]⟩/\Bc3 257 W s' (if Mn5 f r c bs then krK f y bs else[]):=λ af W=>⟨⟨none,0,0⟩,by rw[decide_eq_false af],by rw[if_neg af];exact Dr1.nil W⟩;refine Mn1 B G d.s (by omega) (by omega) (λ p t=>by have:=(d.p p t).2.1;omega) n3 λ W2 ag _=>⟨_,rfl,λ b W _=>no (λ ok=>by simp[ok.1] at b) W,λ b=>?_⟩;have hF:Mk5 f bs:=by simpa using b
 refine Gn0 (F.ext ag) (by omega) λ b7 W6 aI ah=>⟨b7,rfl,λ e W _=>no (λ ok=>by rw[ah.2 ok.2.1] at e;cases e) W,λ e=>?_⟩;have hR:Gf8 r c:=ah.1 (by simpa using e);refine⟨λ N W _=>no (λ ok=>N (by have:=ok.2.2.1;omega)) W,λ heq=>?_⟩;have aJ:r=bs.length:=by omega
 have O:=hF.2.2;have bY:=hF.2.1;have bZ:=O.1.1;have b0:=O.1.2;have P:=ag.trans aI;have aj:=F.ext P;obtain⟨aK,aL,g10⟩:=aj.at (i:=0) (by omega);have b1:=g10.n;refine⟨aj.inB (by omega) (by omega),aK,aL,λ N W _=>no (λ ok=>N (by have:=ok.2.2.2;omega)) W,λ b2=>?_⟩;have ok:Mn5 f r c bs:=⟨hF,hR,aJ,by omega⟩;have g:=d.B ok;have b3:=d.l1;have aM: ∀p∈f,POk p:=λ p t=>(d.p p t).2.2;have hc: ∀a,a<f.length->c a=f.length:=λ a H=>by have:=hR.1 a (by omega);omega
 have aN:Gf9 257 50 84 W0 sy f.length c y:=by
  have e:f.length=r:=by omega
  rw[e];exact F
 refine Ml9 (G.ext P) O d.s (by omega) λ lp b4 aO hm=>?_;obtain⟨aP,aQ,aR,aS,aT,aU,aV,aW,aX,rfl,m0,m1,m2⟩:=hm;have hm:=NmV.mk (q:=(Hb9 bs).get) m0 m1 m2;refine⟨aP,aQ,aR,aS,aT,aU,aV,aW,aX,rfl,?_⟩;have al:=P.trans aO;refine Mk9 (k:=k) (B.ext al) n3 (λ p t=>⟨(d.p p t).1,by have:=(d.p p t).2.1;omega⟩) (by omega) λ aY aZ am hJ=>⟨aY,rfl,?_⟩;rw[if_pos (by omega)] at hJ;have a0:=al.trans am;rw[if_pos ok,decide_eq_true ok];refine⟨kaI aZ f y bs,cnB bs.length,⟨0,rfl,Nat.zero_le _,Ext.refl _,trivial⟩,?_⟩;rintro a1 i29 a2 ⟨i,rfl,hi,I,H⟩;have a3:=H.len;rw[List.length_map,List.length_range] at a3;refine⟨λ b5=>?_,λ b6 a4 b8 a5 hO _ W hE=>⟨a4,rfl,⟨a1,⟨_,hO.row.ext hE⟩,?_⟩⟩⟩
 rotate_left
 ·have:i=bs.length:=by omega
  subst this;exact H.mono λ _ _ h=>h.ext (a5.trans hE)
 have b9:i<bs.length:=by omega
 have o:i<f.length:=by omega
 have Q:=a0.trans I;have R:=aN.ext Q;obtain⟨a6,a7,ap⟩:=R.at (i:=i) o;rw[hc i o] at ap;refine⟨R.inB (by omega) (by omega),a6,a7,⟨by omega,by omega⟩,?_⟩;have S:=hm.ext (am.trans I);obtain⟨aq,ar,au,a8,hq⟩:=S.box (j:=i) (by omega);refine⟨aq,ar,au,a8,kqI a2 f.length (krA f y bs i),cnC f.length,⟨0,rfl,Nat.zero_le _,Ext.refl _,aq,ar,au,rfl,hq⟩,?_⟩;rintro ca cb cc i40 cd ⟨n,rfl,hn,C,J⟩;have J:=QtV.get J;refine⟨λ ce=>?_,λ cf=>?_⟩
 ·have w:n<f.length:=by omega
  have av:=Q.trans C;obtain⟨bb,bc,bd⟩:=(B.ext av).at w;have aw:=ap.ext C;obtain⟨be,bf,bg,bh,bi⟩:=aw.at (i:=n) w;refine⟨(B.ext av).inB (by omega) (by omega),bb,bc,aw.inB (by omega) (by omega),be,bf,bg,bh,?_⟩;have z:=g.p _ (List.getElem_mem w);have T:=(S.ext C).three;refine Gr5 (u:=Hb9 bs) (l:=404) bd T.1 T.2.1 T.2.2 z.n.bd.sz (Hc8 z) (by omega) (Nat.le_trans (Hh1 z.len z.k1) (by omega)) (by omega) λ bj bk bl cg L bm=>⟨bj,bk,bl,rfl,L,?_⟩;refine Ak9 (bi.ext L) bm (g.y i n o w) z.Hs2 (by omega) (by omega) λ bn bo bp ch ax bq=>⟨bn,bo,bp,rfl,?_⟩;refine Gr0 (J.ext (L.trans ax)) bq (g.A3 o hn) ((g.y i n o w).mul z.Hs2) (by omega) (by omega) λ ay az aA ci br bt=>⟨ay,az,aA,rfl,by unfold I64;omega,⟨n+1,by push_cast;rfl,by omega,C.trans (L.trans (ax.trans br)),ay,az,aA,rfl,?_⟩,?_⟩
  ·rw[krA,Mq1 w]
   exact bt
  ·show f.length-Int.toNat ((n:Int)+1)<f.length-Int.toNat (n:Int)
   omega
 have bu:n=f.length:=by omega
 subst bu;refine De4 J λ cj bv bw U=>U.out λ ck cl cm cn co cp U=>?_;refine⟨kvI bv bs.length (krR f y bs i),cnC bs.length,⟨0,rfl,Nat.zero_le _,Ext.refl _,U⟩,?_⟩;rintro cq cr cs ct cu cv i77 cw ⟨q,rfl,cx,aB,aC⟩;have A:=C.trans (bw.trans aB);refine⟨λ cy=>?_,λ cz=>⟨by simp only[List.length_cons,List.length_nil];omega,by unfold I64;omega,⟨i+1,by push_cast;rfl,by omega,I.trans A,?_⟩,?_⟩⟩
 ·have V:q<bs.length:=by omega
  have bx:q<f.length:=by omega
  have bz:=Q.trans A;have X:=G.ext bz;obtain⟨x,⟨bA,bB,bC,bD,bE,bF,rfl,v1,v2⟩,bG⟩:=X.at V;refine⟨X.inB (by omega) (by omega),bA,bB,bC,bD,bE,bF,bG 0 rfl,⟨by omega,by omega⟩,?_⟩;obtain⟨bH,bI,bJ,bK,bL⟩:=(S.ext A).box (j:=q) (by omega);refine⟨bH,bI,bJ,bK,?_⟩;refine Ml4 (i:=i) (q:=q) (hJ.ext (I.trans A)) (R.ext A) X hc g hF aM o bx λ cA cB D Y=>Y.out λ cC cD cE cF cG cH Y=>?_;refine De4 (bL.ext D) λ cI cJ E Z=>Z.out λ cK cL cM cN cO cP Z=>?_;have zm:=g.mid (by omega) q;have aE:=Fi1 V;have zb:=d.s _ (List.getElem_mem V);refine Hi9 (x:=Bm3 bs q) (k:=404) (aE ▸ SpV.mk (v1.ext (D.trans E)) (v2.ext (D.trans E))) Z (aE ▸ IvS.mono zb (by omega)) ⟨zm,zm⟩ (by omega) λ cQ cR aa ab=>ab.out λ cS cT cU cV cW cX ab=>?_;have zd:=g.Hr8 (by omega) q;have zs:=g.S3 o q (Nat.le_refl _);refine Cx4 (k:=302000000) (Y.ext (E.trans aa)) ab zs (IvS.mono zd (by omega)) (by omega) λ cY cZ aG ac=>ac.out λ c0 c1 c2 c3 c4 c5 ac=>?_;have zr:=g.R3 o (n:=q) (by omega);refine Cy0 (k:=1300000000) (aC.ext (D.trans (E.trans (aa.trans aG)))) ac zr (IvS.mono (IvS.mul zs zd) (by omega)) (by omega) λ c6 c7 bO ad=>ad.out λ c8 c9 da db dc dd ad=>⟨by unfold I64;omega,⟨q+1,by push_cast;rfl,by omega,aB.trans (D.trans (E.trans (aa.trans (aG.trans bO)))),ad⟩,?_⟩;show bs.length-Int.toNat ((q:Int)+1)<bs.length-Int.toNat (q:Int);omega
 ·have bP:q=bs.length:=by omega
  subst bP;rw[List.range_succ,List.map_append];exact(H.mono λ _ _ h=>h.ext A).append ⟨aC,trivial⟩
 ·show bs.length-Int.toNat ((i:Int)+1)<bs.length-Int.toNat (i:Int)
  omega
theorem Mj7 {sb:Sl}{c:Nat->Nat}(b:Ps W s f)(d:Gf9 257 50 84 W sy r c y)(e:Bc3 257 W sb bs)(g:KrN k m l f r c y bs)(n: ∀(s':Sl) (W':PW),Ext W W'->(Bc3 257 W' s' (if Mn5 f r c bs then krK f y bs else[]))->K (.tuple ⟨[Sl.v s',.bool (decide (Mn5 f r c bs))]⟩) W'):
  Aa1 Tryz.prog W0 M 13 [s.v,sy.v,sb.v] W K:=
 Mi4 (λ _ a=>Mo0 (b.ext a) (d.ext a) (e.ext a) g) fun | _,W',a,⟨s',rfl,h⟩=>n s' W' a h
def kpI (W0:PW) (f:List (List Tm)) (y:Nat->Nat->Rat) (bs:List Iv) (n:Nat) (L:List PL) (W:PW):Prop:=match L with
 | [.val (.int .i64 i)]=>∃j:Nat,i=(j:Int)/\j<=n/\Ext W0 W/\∀i,i<j->Mr9 (krR f y bs i bs.length) (Bm3 bs i)
 | _=>False
instance (f:List (List Tm)) (y:Nat->Nat->Rat) (bs:List Iv):Decidable (Mq8 f y bs):=by unfold Mq8;infer_instance
theorem Mr4 (h:KrB k m l f y bs)(hF:Mk5 f bs)(hi:i<bs.length):IvS 1300000000 (krR f y bs i bs.length):=by
 have:=hF.2.1;exact h.R3 (by omega) (by omega)
theorem Mm8 {sb:Sl}{c:Nat->Nat}(A:Ps W0 s f)(B:Gf9 257 50 84 W0 sy r c y)(o:Bc3 257 W0 sb bs)(d:KrN k m l f r c y bs):
  Aa0 Tryz.prog 16 [s.v,sy.v,sb.v] W0 M λ v W'=>v = .bool (decide (Mn5 f r c bs/\Mq8 f y bs))/\True:=by
 apply Ml0;have ac:=o.n;have n1:=d.m1;have n2:=d.b;refine Mj7 A B o d λ s3 q C g=>⟨s3,_,rfl,?_⟩
 by_cases ok:Mn5 f r c bs
 ·rw[if_pos ok] at g
  have D:=d.B ok;have p:=g.n;rw[Mk0] at p;refine⟨kpI q f y bs bs.length,Kq0 bs.length,⟨0,rfl,Nat.zero_le _,Ext.refl _,λ i h=>by omega⟩,?_⟩;rintro i7 E ⟨j,rfl,hj,n,t⟩;refine⟨λ F=>?_,λ G W _=>⟨?_,trivial⟩⟩
  ·have a:j<bs.length:=by omega
   have u:=g.ext n;obtain⟨x,⟨H,I,J,N,O,P,rfl,v1,v2⟩,Q⟩:=u.at (i:=j) (by rw[Mk0];exact a);rw[Mr2] at v1 v2;have w:=o.ext (C.trans n);obtain⟨x',⟨R,S,T,U,V,X,rfl,Y,Z⟩,aa⟩:=w.at a;refine⟨u.inB (by omega) (by rw[Mk0];omega),H,I,J,N,O,P,Q 0 rfl,w.inB (by omega) (by omega),R,S,T,U,V,X,aa 0 rfl,?_⟩;have z:=Fi1 a;refine Mj5 (x:=krR f y bs j bs.length) (y:=Bm3 bs j) (k:=1300000000) (SpV.mk v1 v2) (z ▸ SpV.mk Y Z) (Mr4 D ok.1 a) (z ▸ IvS.mono (d.s _ (List.getElem_mem a)) (by omega)) (by omega) λ ah ab _=>⟨_,rfl,λ b W _=>⟨?_,trivial⟩,λ b=>⟨by unfold I64;omega,⟨j+1,by push_cast;rfl,by omega,n.trans ab,λ i hi=>?_⟩,?_⟩⟩
   ·rw[decide_eq_false λ e=>by simp[e.2 j a] at b]
   ·by_cases e:i=j
    ·subst e
     simpa using b
    ·exact t i (by omega)
   ·show bs.length-Int.toNat ((j:Int)+1)<bs.length-Int.toNat (j:Int)
    omega
  ·have:j=bs.length:=by omega
   subst this;rw[decide_eq_true ok,decide_eq_true ⟨ok,t⟩]
 ·rw[if_neg ok] at g
  have p:=g.n;refine⟨λ L W=>match L with | [.val (.int .i64 i)]=>i=0/\Ext q W | _=>False,λ _ _=>0,⟨rfl,Ext.refl _⟩,?_⟩;rintro i7 E ⟨rfl,n⟩;refine⟨λ F=>?_,λ G W _=>⟨?_,trivial⟩⟩
  ·have:s3.n=0:=p
   omega
  ·rw[decide_eq_false ok,decide_eq_false λ e=>ok e.1]
theorem Mj3 {sb:Sl}{c:Nat->Nat}(b:Ps W s f)(d:Gf9 257 50 84 W sy r c y)(e:Bc3 257 W sb bs)(g:KrN k m l f r c y bs)(n: ∀(W':PW),Ext W W'->(True)->K (.bool (decide (Mn5 f r c bs/\Mq8 f y bs))) W'):
  Aa1 Tryz.prog W0 M 16 [s.v,sy.v,sb.v] W K:=
 Mi4 (λ _ a=>Mm8 (b.ext a) (d.ext a) (e.ext a) g) fun | _,W',a,⟨rfl,h⟩=>n W' a h
end Go.Proofs.YtkgeopnakkcdoaaGreatDoor
namespace Go.Proofs.YtkgeopnakkcdoaaGreatDoor
open Go Go.SX
end Go.Proofs.YtkgeopnakkcdoaaGreatDoor
namespace Go.Proofs.YtkgeopnakkcdoaaGreatDoor
open Go Go.SX
end Go.Proofs.YtkgeopnakkcdoaaGreatDoor
namespace Go.Proofs.YtkgeopnakkcdoaaGreatDoor
open Go Go.SX
variable {K:Value->PW->Prop}{M:Nat->Prop}{W W0:PW}{f:Nat->Rat}{i j k:Nat}{m:Nat->Nat->Rat}{s:Sl}{ss:List Sl}
abbrev OM (W:PW) (s:Sl) (ss:List Sl) (c:Nat) (m:Nat->Nat->Rat):Prop:=OwM 257 50 84 W s ss c m
def Mz6 (m:Nat->Nat->Rat) (j i:Nat):Nat->Nat->Rat:=λ a b=>if a=j/\i<=b then m j b-m j i/m i i*m i b else m a b
def clI (W0:PW) (s:Sl) (ss:List Sl) (c:Nat) (m:Nat->Nat->Rat) (N:Nat->Prop) (i j:Nat) (s1:Sl) (b:Bool) (s2:Sl) (L:List PL) (W:PW):Prop:=match L with
 | [.val (.int .i64 z)]=>∃p:Nat,z=(p:Int)/\i<=p/\p<=c/\Au9 N W0 W/\Ab3 257 W s1 b s2 (m j i/m i i)/\OM W s ss c (λ a b=>if a=j/\i<=b/\b<p then m j b-m j i/m i i*m i b else m a b)
 | _=>False
theorem Na0 {c:Nat}(h:OM W0 s ss c m)(hi:i<ss.length)(d:j<ss.length)(aB:j≠i)(q:i<c)(hl:ss.length<=1048576)(hc:c<=1048576)(o: ∀a b,a<ss.length->b<c->Sz k (m a b))(hk:k<=1000000)(G:1<=k):
  Aa0 Tryz.prog 92 [s.v,.int .i64 (j:Int),.int .i64 (i:Int)] W0 (λ g=>ss[j].v.ownBlock=some g) λ v W'=>v = .tuple ⟨[]⟩/\OM W' s ss c (Mz6 m j i):=by
 apply My5;obtain⟨s2,S,s4,T,q1⟩:=h.at (i:=j) (j:=i) d q;obtain⟨U,V,X,Y,Z⟩:=h.at (i:=i) (j:=i) hi q;have aE:=h.rn d;refine⟨h.inB (by omega) (by omega),ss[j],h.elem d,h.Ne8 d (by omega) (by omega),s2,S,s4,T,h.inB (by omega) (by omega),ss[i],h.elem hi,h.Ne8 hi (by omega) (by omega),U,V,X,Y,?_⟩;have B:=(o j i d q).div (o i i hi q) G;refine Gb1 q1 Z (o j i d q) (o i i hi q) (by omega) (by omega) G λ H I J aF C aa=>⟨H,I,J,_,rfl,C,?_⟩;refine⟨clI W0 s ss c m (λ g=>ss[j].v.ownBlock=some g) i j H I J,λ L _=>match L with | [.val (.int .i64 z)]=>c-z.toNat | _=>0,⟨i,rfl,Nat.le_refl _,by omega,C.toM _,aa,(h.ext C).congr λ a b _ _=>by rw[if_neg (by omega)]⟩,?_⟩;rintro i17 aG ⟨p,rfl,aH,aI,ab,D,u⟩;refine⟨u.inB (by omega) (by omega),ss[j],u.elem d,λ aJ=>?_,λ aK aL ac=>⟨rfl,(u.ext ac).congr λ a b _ N=>?_⟩⟩
 ·have t:p<c:=by omega
  refine Bk6 D B (by omega) λ aM w _=>⟨_,rfl,λ aN=>?_,λ heq aO ad=>⟨rfl,(u.ext (w.trans ad)).congr λ a b _ N=>?_⟩⟩
  ·have n:=u.ext w
   obtain⟨ae,af,ag,e3,O⟩:=n.at (i:=j) (j:=p) d t;obtain⟨ai,aj,ak,e4,P⟩:=n.at (i:=i) (j:=p) hi t;rw[if_neg (by omega)] at O P;have Q:=n.inB (i:=(j:Int)) (by omega) (by omega);refine⟨Q,ss[j],n.elem d,Q,ss[j],n.elem d,n.Ne8 d (by omega) (by omega),ae,af,ag,e3,n.inB (by omega) (by omega),ss[i],n.elem hi,n.Ne8 hi (by omega) (by omega),ai,aj,ak,e4,?_⟩;refine Ak9 (D.ext w) P B (o i p hi t) (by omega) (by omega) λ am an ao aP F ap=>⟨am,an,ao,rfl,F,?_⟩;refine Gr0 (O.ext F) ap (o j p d t) (B.mul (o i p hi t)) (by omega) (by omega) λ aq ar au aQ R av=>⟨aq,ar,au,rfl,R,n.Ne8 d (by omega) (by omega),?_⟩;have E:=F.trans R;refine(n.ext E).store (j:=p) d t av (by decide) (by decide) (λ g hg=>.inl hg) λ aR hX hp az=>⟨by unfold I64;omega,⟨p+1,by push_cast;rfl,by omega,by omega,(ab.trans ((w.trans E).toM _)).trans hX,hp.rat (D.ext (w.trans E)) (by decide),az.congr λ a b ha N=>?_⟩,?_⟩
   ·unfold Ha2
    by_cases e:a=j/\b=p
    ·rw[if_pos e,if_pos (by omega),e.2]
    ·rw[if_neg e]
     dsimp only
     by_cases A:a=j/\i<=b/\b<p
     ·rw[if_pos A,if_pos (by omega)]
     ·rw[if_neg A,if_neg (by omega)]
   ·show c-Int.toNat ((p:Int)+1)<c-Int.toNat (p:Int)
    omega
  ·have h0:m j i/m i i=0:=(Be6 _ 0).1 (by omega)
   unfold Mz6;rw[h0]
   by_cases e:a=j/\i<=b
   ·rw[if_pos e]
    by_cases A:a=j/\i<=b/\b<p
    ·rw[if_pos A]
    ·rw[if_neg A,e.1];grind
   ·rw[if_neg e,if_neg (by omega)]
 ·unfold Mz6
  by_cases e:a=j/\i<=b
  ·rw[if_pos e,if_pos (by omega)]
  ·rw[if_neg e,if_neg (by omega)]
theorem My8 {c:Nat}(h:OM W s ss c m)(hi:i<ss.length)(e:j<ss.length)(q:j≠i)(t:i<c)(u:ss.length<=1048576)(w:c<=1048576)(z: ∀a b,a<ss.length->b<c->Sz k (m a b))(hk:k<=1000000)(A:1<=k)(B: ∀g,ss[j].v.ownBlock=some g->may W0 M g)(C: ∀W' d,Ext W W'->Au9 (λ g=>ss[j].v.ownBlock=some g) W' d->OM d s ss c (Mz6 m j i)->K (.tuple ⟨[]⟩) d):
  Aa1 Tryz.prog W0 M 92 [s.v,.int .i64 (j:Int),.int .i64 (i:Int)] W K:=λ W' n=>by
 have o:=h.ext n;refine⟨_,_,Na0 o hi e q t u w z hk A,λ g p=>⟨?_,B g p⟩,λ v d D E=>?_⟩
 ·obtain⟨xs,k1,_⟩:=o.2.1 j e
  exact(k1.block p).2
 ·obtain⟨rfl,F⟩:=E
  exact C W' d n D F
theorem Mz7 {n:Nat}(h:Gv6 257 50 W0 s n f)(t:n<=1099511627776):
  Aa0 Tryz.prog 170 [s.v] W0 M λ v W'=>∃(s':Sl),∃(xs:List (List Value)),v=Sl.v s'/\Aq4 W0 s'/\Go.SX.Own W' 50 3 s' xs/\Qs 257 W' xs n f:=by
 apply Mu7;obtain⟨xs,h,b⟩:=h;have u:=b.1;refine⟨λ c w e=>?_,λ c=>⟨xs,⟨_,h⟩,by omega,λ s3 z o hO p A d=>⟨s3,xs,rfl,λ g a=>(p g a).1,by rw[List.nil_append] at hO;exact hO.ext d,b.ext (o.trans d)⟩⟩⟩;have:xs = []:=Classical.byContradiction λ q=>by
  have:=h.some q;rw[c] at this;cases this
 subst this;exact⟨⟨none,0,0⟩,[],rfl,λ g a=>by simp[Sl.v,Value.ownBlock] at a,⟨⟨by simp,rfl,.inl ⟨rfl,rfl⟩⟩,λ g a=>by simp[Sl.v,Value.ownBlock] at a⟩,b.ext e⟩
theorem My3 {n:Nat}(h:Gv6 257 50 W s n f)(b:n<=1099511627776)(c: ∀(s':Sl) (xs:List (List Value)) (W':PW),Ext W W'->(Aq4 W s'/\Go.SX.Own W' 50 3 s' xs/\Qs 257 W' xs n f)->K (Sl.v s') W'):
  Aa1 Tryz.prog W0 M 170 [s.v] W K:=
 Aa2 (λ W' a=>Mz7 (h.ext a) b) fun | W',_,d,a,e,⟨s',xs,rfl,g,h⟩=>c s' xs d (a.trans e) ⟨g.back a,h⟩
end Go.Proofs.YtkgeopnakkcdoaaGreatDoor
