import Derived.Test.YtkgeopnakkcdoaaGreatDoorW10
import Derived.Test.YtkgeopnakkcdoaaGreatDoorW14
import Derived.Test.YtkgeopnakkcdoaaGreatDoorW5
import Derived.Test.YtkgeopnakkcdoaaGreatDoorW7
import Derived.Test.YtkgeopnakkcdoaaGreatDoorW8
import Derived.Test.YtkgeopnakkcdoaaGreatDoorW12
import Derived.Test.YtkgeopnakkcdoaaGreatDoorR10
import Derived.Test.YtkgeopnakkcdoaaGreatDoorW11
import Derived.Test.YtkgeopnakkcdoaaGreatDoorLib4
import Derived.Test.YtkgeopnakkcdoaaGreatDoorLib2
set_option linter.unusedVariables false
set_option linter.unusedSimpArgs false
set_option maxRecDepth 100000
namespace Go.Proofs.YtkgeopnakkcdoaaGreatDoor
open Go Go.SX
end Go.Proofs.YtkgeopnakkcdoaaGreatDoor
namespace Go.Proofs.YtkgeopnakkcdoaaGreatDoor
open Go Go.SX
def b9a:ByteArray:=⟨⟨[48]⟩⟩
def b9b:ByteArray:=⟨⟨[49]⟩⟩
theorem Er6:Ab7 b9a=some 0:=by
 have h1:Ak5 b9a=none:=by decide
 have a:Ac3 b9a=some 0:=by decide
 unfold Ab7;rw[h1,a];rfl
theorem Ed8:Ab7 b9b=some 1:=by
 have h1:Ak5 b9b=none:=by decide
 have a:Ac3 b9b=some 1:=by decide
 unfold Ab7;rw[h1,a];rfl
theorem Fn4:spP b9a b9b=some (0,1):=by
 unfold spP;rw[Er6,Ed8];rfl
def pr9:List (ByteArray×ByteArray):=[(b9a,b9b)]
theorem Ev3:Br9 pr9:=⟨by decide,by decide,λ t a=>by
 rw[List.mem_singleton.1 a];exact⟨(0,1),Fn4,by decide +kernel,by decide +kernel,by decide +kernel⟩⟩
end Go.Proofs.YtkgeopnakkcdoaaGreatDoor
namespace Go.Proofs.YtkgeopnakkcdoaaGreatDoor
open Go Go.SX
variable {K:Value->PW->Prop}{M:Nat->Prop}{T:List (List ByteArray)}{W W0:PW}{l:List ByteArray}{p:List Tm}{s:Sl}
def bK:ByteArray:=⟨⟨[49,47,51]⟩⟩
theorem Mq9:Ab7 bK=some (1/3):=by decide +kernel
def cK:List Tm:=[(⟨0,0,0⟩,1/3)]
def aK:List Tm:=[(⟨0,0,0⟩,-1/3),(⟨1,0,0⟩,1)]
theorem Ms3:Ag2 [((⟨0,0,0⟩:Mon),(1/3:Rat))]=cK:=by decide +kernel
theorem Mt5:Ag2 (Dc6 0 ++ pmap cK (-1))=aK:=by decide +kernel
theorem kOK (p:List Tm)(h:An3 p [(0,1)]):Mn5 [p] 1 (λ _=>1) [(0,1)]:=⟨⟨λ q a=>by rw[List.mem_singleton.1 a];exact h,rfl,h.1⟩,⟨λ _ _=>rfl,by decide,by decide,by decide,by decide⟩,rfl,rfl⟩
theorem Ms8:Mn5 [aK] 1 (λ _=>1) [(0,1)]/\Mq8 [aK] Ms0 [(0,1)]:=⟨kOK _ (by decide +kernel),by decide +kernel⟩
theorem Ms1:¬Mq8 [cK] Ms0 [(0,1)]:=by decide +kernel
theorem Mn3:Sz 1 (1/3):=⟨Bc6 (by decide +kernel),Bc6 (by decide +kernel)⟩
theorem Mq3:Sz 1 (-1/3):=⟨Bc6 (by decide +kernel),Bc6 (by decide +kernel)⟩
theorem Ms4:Bd 7 cK:=(Cq4 Mn3).mono (by decide)
theorem Mt2:Bd 7 aK:=by
 refine(Bd.Co7 (k:=1) ?_).mono (by decide);intro t a;simp only[aK,List.mem_cons,List.not_mem_nil,or_false] at a;rcases a with rfl | rfl
 ·exact Mq3
 ·exact Fl0
theorem Mt1:POk cK:=λ t a=>by
 rw[List.mem_singleton.1 a];decide
theorem Mt4:POk aK:=λ t a=>by
 simp only[aK,List.mem_cons,List.not_mem_nil,or_false] at a;rcases a with rfl | rfl<;>decide
theorem Mq4 (a:Bd 7 p)(c:p.length<=30)(d:POk p):KrN 7 1 1 [p] 1 (λ _=>1) Ms0 [(0,1)] where
 p q e:=by rw[List.mem_singleton.1 e];exact⟨a,c,d⟩
 n:=by show 1<=1000;decide
 k1:=by decide
 s x f:=by rw[List.mem_singleton.1 f];exact⟨Sz.zero (Nat.le_refl 1),Fl0⟩
 m1:=by decide
 b:=by decide
 y i j _ _:=Mn7 i j
 l1:=by decide
 r1:=by decide
theorem Mr3 {a:Sl}{t:TypeId}(hO:Go.SX.Own W t 1 s [[a.v]])(h:Ab0 257 169 W a p):Ps W s [p]:=⟨[[a.v]],⟨_,hO.row⟩,⟨a,rfl,h⟩,trivial⟩
theorem Mm6 (A:Ac6 W0):
  Aa0 Tryz.prog 12 [] W0 M λ v W'=>v = .bool true/\True:=by
 apply Mk7;intro s1 W2 B C _;refine Cg0 (Lt:=pr9) (A.ext B) ⟨_,C.row⟩ (by decide) (by decide) λ D i6 bs W4 ad ⟨q1,E,_,F⟩=>⟨D,i6,rfl,?_⟩;have hi:=F Ev3;obtain⟨k1,G,H⟩:=E hi;have I:bs = [(0,1)]:=by
  refine Eu1 G rfl H λ i h1 h2=>?_;have:i=0:=by have:i<1:=h1;omega
  subst this;exact Fn4
 subst I;refine As8 (a:=bK) (by decide) λ j k m J L b=>⟨j,k,m,_,rfl,?_⟩;rw[Mq9] at b⊢;have b:Ab3 257 J j k m (1/3):=b;refine Cr4 (i:=0) λ N af d O=>⟨N,rfl,?_⟩;refine Gf5 (b.ext d) Mn3 (by omega) λ P ag f o=>⟨P,rfl,?_⟩;rw[Ms3] at o;refine Db2 (O.ext f) o En2 Ms4 (by omega) (by decide) (by decide) λ Q q r t=>⟨Q,rfl,?_⟩;rw[Mt5] at t;refine⟨λ _=>⟨λ _=>Fc8 ?_ 1,λ e=>absurd rfl e⟩,λ e=>absurd hi e⟩;refine Mj8 (n:=1) (Nat.le_refl _:Gf6 q.w.heap.size q) (by decide) (by decide) λ R ah g S=>⟨R,rfl,λ ai aj c U _=>?_⟩;have u:=q1.ext (L.trans (d.trans (f.trans (r.trans (g.trans c)))));refine Mj3 (Mr3 U (t.ext (g.trans c))) (S.mat.ext c) u (Mq4 Mt2 (by decide) Mt4) λ ak w _=>⟨_,rfl,λ _=>?_,λ e=>absurd Ms8 (of_decide_eq_false e)⟩;refine Gf5 (b.ext (d.trans (f.trans (r.trans (g.trans (c.trans w)))))) Mn3 (by omega) λ V x X y=>⟨V,rfl,Fc8 ?_ 1⟩;rw[Ms3] at y;refine Mj8 (n:=1) (Nat.le_refl _:Gf6 x.w.heap.size x) (by decide) (by decide) λ Y al z Z=>⟨Y,rfl,λ am an h aa _=>?_⟩;refine Mj3 (Mr3 aa (y.ext (z.trans h))) (Z.mat.ext h) (u.ext (w.trans (X.trans (z.trans h)))) (Mq4 Ms4 (by decide) Mt1) λ ao ap _=>⟨_,rfl,λ W _=>⟨?_,trivial⟩⟩;rw[decide_eq_false λ e=>Ms1 e.2];rfl
theorem Mj4 (b:Ac6 W)(c: ∀(W':PW),Ext W W'->(True)->K (.bool true) W'):
  Aa1 Tryz.prog W0 M 12 [] W K:=
 Mi4 (λ _ a=>Mm6 (b.ext a)) fun | _,W',a,⟨rfl,h⟩=>c W' a h
def Mt6 (W0:PW) (l:List ByteArray) (n:Int) (L:List PL) (W:PW):Prop:=match L with
 | [.val (.int .i64 i)]=>∃j:Nat,i=(j:Int)/\j<=l.length/\Ext W0 W/\∀t∈l.take j,(t.size:Int)<=n
 | _=>False
theorem Mo5 {n:Int}(h:Bf9 W0 1 s (Gw6 l))(f:l.length<=1099511627776):
  Aa0 Tryz.prog 30 [.int .i64 n,s.v] W0 M λ v W'=>∃(b:Bool),v = .bool b/\(b=true->∀t∈l,(t.size:Int)<=n):=by
 apply Ml3;have g:=h.nt;refine⟨Mt6 W0 l n,Kq0 l.length,⟨0,rfl,Nat.zero_le _,Ext.refl _,λ t h=>by simp at h⟩,?_⟩;rintro i3 i ⟨j,rfl,k,a,c⟩;refine⟨λ m=>?_,λ o W _=>⟨true,rfl,λ _=>?_⟩⟩
 ·have d:j<l.length:=by omega
  refine⟨(h.ext a).Hb8 (by omega) (by omega),_,(h.ext a).text d,λ _ W _=>⟨false,rfl,λ e=>(by cases e)⟩,λ hle=>⟨by unfold I64;omega,⟨j+1,by push_cast;rfl,by omega,a,Mn4 d c (by omega)⟩,?_⟩⟩;show l.length-Int.toNat ((j:Int)+1)<l.length-Int.toNat (j:Int);omega
 ·have:j=l.length:=by omega
  subst this
  rwa [List.take_length] at c
theorem Ml7 {n:Int}(h:Bf9 W 1 s (Gw6 l))(c:l.length<=1099511627776)(d: ∀(b:Bool) (W':PW),Ext W W'->((b=true->∀t∈l,(t.size:Int)<=n))->K (.bool b) W'):
  Aa1 Tryz.prog W0 M 30 [.int .i64 n,s.v] W K:=
 Mi4 (λ _ a=>Mo5 (h.ext a) c) fun | _,W',a,⟨b,rfl,h⟩=>d b W' a h
def Mt9 (W0:PW) (T:List (List ByteArray)) (n:Int) (L:List PL) (W:PW):Prop:=match L with
 | [.val (.int .i64 i)]=>∃j:Nat,i=(j:Int)/\j<=T.length/\Ext W0 W/\∀l∈T.take j,(l.length:Int)<=n/\∀t∈l,(t.size:Int)<=20
 | _=>False
theorem Mo6 {n:Int}(h:Go3 W0 s T)(q:T.length<=1099511627776)(k: ∀l∈T,l.length<=1099511627776):
  Aa0 Tryz.prog 52 [s.v,.int .i64 n] W0 M λ v W'=>∃(b:Bool),v = .bool b/\(b=true->(T.length:Int)<=n/\∀l∈T,(l.length:Int)<=n/\∀t∈l,(t.size:Int)<=20):=by
 apply Mn6;have r:=h.n;refine⟨λ _ W _=>⟨false,rfl,λ e=>(by cases e)⟩,λ hle=>⟨Mt9 W0 T n,Kq0 T.length,⟨0,rfl,Nat.zero_le _,Ext.refl _,λ t h=>by simp at h⟩,?_⟩⟩;rintro i3 u ⟨j,rfl,w,d,f⟩;refine⟨λ y=>?_,λ z W _=>⟨true,rfl,λ _=>⟨by omega,?_⟩⟩⟩
 ·have a:j<T.length:=by omega
  have c:=h.ext d;obtain⟨x,g,i⟩:=c.at a;have A:=i.nt;refine⟨c.inB (by omega) (by omega),x,g,λ _ W _=>⟨false,rfl,λ e=>(by cases e)⟩,λ B=>⟨c.inB (by omega) (by omega),x,g,?_⟩⟩;refine Ml7 i (k _ (List.getElem_mem a)) λ b C m o=>⟨b,rfl,λ _ W _=>⟨false,rfl,λ e=>(by cases e)⟩,λ e=>⟨by unfold I64;omega,⟨j+1,by push_cast;rfl,by omega,d.trans m,Mn4 a f ⟨by omega,o (by simpa using e)⟩⟩,?_⟩⟩;show T.length-Int.toNat ((j:Int)+1)<T.length-Int.toNat (j:Int);omega
 ·have:j=T.length:=by omega
  subst this
  rwa [List.take_length] at f
theorem Mn2 {n:Int}(h:Go3 W s T)(c:T.length<=1099511627776)(d: ∀l∈T,l.length<=1099511627776)(e: ∀(b:Bool) (W':PW),Ext W W'->((b=true->(T.length:Int)<=n/\∀l∈T,(l.length:Int)<=n/\∀t∈l,(t.size:Int)<=20))->K (.bool b) W'):
  Aa1 Tryz.prog W0 M 52 [s.v,.int .i64 n] W K:=
 Mi4 (λ _ a=>Mo6 (h.ext a) c d) fun | _,W',a,⟨b,rfl,h⟩=>e b W' a h
def qT (T:List (List ByteArray)) (a b:Nat):Rat:=(Ab7 (txt T a b)).getD 0
def Mt7 (W0:PW) (T:List (List ByteArray)) (L:List PL) (W:PW):Prop:=match L with
 | [.val (.int .i64 i)]=>∃k:Nat,i=(k:Int)/\k<=T.length/\Ext W0 W/\∀a,a<k->tw T a=tw T 0
 | _=>False
def Mu1 (W0:PW) (T:List (List ByteArray)) (L:List PL) (W:PW):Prop:=match L with
 | [.row l,.val (.int .i64 i)]=>∃(k:Nat) (c:List Sl),i=(k:Int)/\k<=T.length/\Ext W0 W/\c.length=k/\l=c.map (λ x=>[x.v])/\(∀a (h:a<c.length),Bf7 257 59 W c[a] (tw T a) (qT T a))/\∀a b,a<k->b<tw T a->(Ab7 (txt T a b)).isSome=true
 | _=>False
def Mu0 (W0:PW) (T:List (List ByteArray)) (k:Nat) (L:List PL) (W:PW):Prop:=match L with
 | [.row l,.val (.int .i64 i)]=>∃j:Nat,i=(j:Int)/\j<=tw T k/\Ext W0 W/\RQs 257 W l j (qT T k)/\∀b,b<j->(Ab7 (txt T k b)).isSome=true
 | _=>False
theorem Mm1 (h:Go3 W0 s T)(hr:T.length<=1099511627776)(I: ∀i j,(txt T i j).size<=1099511627776):
  Aa0 Tryz.prog 51 [s.v] W0 M λ v W'=>∃(s':Sl),∃(e:Int),v = .tuple ⟨[Sl.v s',.int .i64 e]⟩/\(e=0->Gf8 T.length (tw T)/\(∀a b,a<T.length->b<tw T a->(Ab7 (txt T a b)).isSome=true)/\Mj2 257 59 53 W' s' T.length (tw T) (qT T)):=by
 apply Mk2;have hn:=h.n;have bad: ∀(z:Int) (W:PW),z≠0->∃(s':Sl) (e:Int),(Value.tuple ⟨[.slice none 0 0,.int .i64 z]⟩) = .tuple ⟨[Sl.v s',.int .i64 e]⟩/\(e=0->Gf8 T.length (tw T)/\(∀a b,a<T.length->b<tw T a->(Ab7 (txt T a b)).isSome=true)/\Mj2 257 59 53 W s' T.length (tw T) (qT T)):=λ z W J=>⟨⟨none,0,0⟩,z,rfl,λ e=>absurd e J⟩;refine⟨λ _ W _=>bad 1 W (by decide),λ h1=>⟨λ _ W _=>bad 1 W (by decide),λ al=>?_⟩⟩;obtain⟨s3,u,g3⟩:=h.at (i:=0) (by omega);have am:=g3.nt.trans (Gt2 (T:=T) (i:=0) (by omega)).symm;refine⟨h.inB (by omega) (by omega),s3,u,λ _ W _=>bad 1 W (by decide),λ h3=>⟨h.inB (by omega) (by omega),s3,u,λ _ W _=>bad 1 W (by decide),λ h4=>?_⟩⟩;refine⟨Mt7 W0 T,Kq0 T.length,⟨0,rfl,Nat.zero_le _,Ext.refl _,λ a h=>by omega⟩,?_⟩;rintro i9 L ⟨k,rfl,hk,w,n⟩;have d:=h.ext w;refine⟨λ N=>?_,λ O=>?_⟩
 ·have c:k<T.length:=by omega
  obtain⟨P,Q,g11⟩:=d.at c;have ap:=g11.nt.trans (Gt2 c).symm;obtain⟨R,S,g12⟩:=d.at (i:=0) (by omega);have aq:=g12.nt.trans (Gt2 (T:=T) (i:=0) (by omega)).symm;refine⟨d.inB (by omega) (by omega),P,Q,d.inB (by omega) (by omega),R,S,λ _ W _=>bad 1 W (by decide),λ heq=>⟨by unfold I64;omega,⟨k+1,by push_cast;rfl,by omega,w,λ a f=>?_⟩,?_⟩⟩
  ·by_cases e:a=k
   ·subst e;omega
   ·exact n a (by omega)
  ·show T.length-Int.toNat ((k:Int)+1)<T.length-Int.toNat (k:Int)
   omega
 have U:k=T.length:=by omega
 subst U;have V:Gf8 T.length (tw T):=⟨n,by omega,by omega,by omega,by omega⟩;refine⟨Mu1 L T,cnB T.length,⟨0,[],rfl,Nat.zero_le _,Ext.refl _,rfl,rfl,λ a h=>by simp at h,λ a b h=>by omega⟩,?_⟩;rintro ar i17 X ⟨k,g,rfl,hk,x,y,rfl,A,B⟩;refine⟨λ N=>?_,λ O Y au Z hO _ W C=>⟨Y,0,rfl,λ _=>⟨V,?_,g,hO.row.ext C,by omega,λ a f=>(A a f).ext (Z.trans C)⟩⟩⟩
 rotate_left
 ·have:k=T.length:=by omega
  subst this;exact B
 have c:k<T.length:=by omega
 have av:=n k c;refine⟨Mu0 X T k,cnB (tw T k),⟨0,rfl,Nat.zero_le _,Ext.refl _,⟨rfl,λ i h=>by omega⟩,λ b h=>by omega⟩,?_⟩;rintro l21 i22 aw ⟨j,rfl,hj,m,o,D⟩;have ay:=o.1;have q:=d.ext (x.trans m);obtain⟨E,F,g24⟩:=q.at c;have az:=g24.nt.trans (Gt2 c).symm;refine⟨q.inB (by omega) (by omega),E,F,λ aA=>?_,λ aB aa aC r hO _=>?_⟩
 ·have ab:j<tw T k:=by omega
  have G:j<T[k].length:=by rw[<-Gt2 c];exact ab
  refine⟨q.inB (by omega) (by omega),E,F,g24.Hb8 (by omega) (by omega),_,g24.text G,?_⟩;rw[<-Gz2 c G];refine An7 (I k j) λ ac ad ae aD H af=>⟨ac,ad,ae,_,rfl,λ _ W _=>bad 2 W (by decide),λ ag=>⟨by simp only[List.length_cons,List.length_nil];omega,by unfold I64;omega,⟨j+1,by push_cast;rfl,by omega,m.trans H,((o.ext H).snoc af).congr λ i hi=>?_,λ b t=>?_⟩,?_⟩⟩
  ·by_cases e:i=j
   ·subst e
    rw[if_pos rfl];rfl
   ·rw[if_neg e]
  ·by_cases e:b=j
   ·subst e
    simpa using ag
   ·exact D b (by omega)
  ·show tw T k-Int.toNat ((j:Int)+1)<tw T k-Int.toNat (j:Int)
   omega
 ·have ah:j=tw T k:=by omega
  subst ah;refine⟨by simp only[List.length_map,List.length_cons,List.length_nil];omega,by unfold I64;omega,⟨k+1,g ++ [aa],by push_cast;rfl,by omega,x.trans (m.trans r),by simp[y],by simp,λ a f=>?_,λ a b f t=>?_⟩,?_⟩
  ·by_cases e:a<g.length
   ·rw[List.getElem_append_left e]
    exact(A a e).ext (m.trans r)
   ·have:a=g.length:=by simp at f;omega
    subst this;rw[List.getElem_concat_length rfl];have e2:g.length=k:=y;rw[e2];exact⟨l21,hO.row,o.ext r⟩
  ·by_cases e:a=k
   ·subst e
    exact D b t
   ·exact B a b (by omega) t
  ·show T.length-Int.toNat ((k:Int)+1)<T.length-Int.toNat (k:Int)
   omega
theorem Mk3 (h:Go3 W s T)(d:T.length<=1099511627776)(f: ∀i j,(txt T i j).size<=1099511627776)(g: ∀(s':Sl) (e:Int) (W':PW),Ext W W'->((e=0->Gf8 T.length (tw T)/\(∀a b,a<T.length->b<tw T a->(Ab7 (txt T a b)).isSome=true)/\Mj2 257 59 53 W' s' T.length (tw T) (qT T)))->K (.tuple ⟨[Sl.v s',.int .i64 e]⟩) W'):
  Aa1 Tryz.prog W0 M 51 [s.v] W K:=
 Mi4 (λ _ c=>Mm1 (h.ext c) d f) fun | _,W',c,⟨s',e,rfl,h⟩=>g s' e W' c h
theorem Mo8 {n:Int}(h:Go3 W0 s T)(c:T.length<=1099511627776)(y: ∀l∈T,l.length<=1099511627776)(f: ∀i j,(txt T i j).size<=1099511627776):
  Aa0 Tryz.prog 11 [s.v,.int .i64 n] W0 M λ v W'=>∃(s1:Sl),∃(s2:Sl),∃(ok:Bool),v = .tuple ⟨[Sl.v s1,Sl.v s2,.bool ok]⟩/\(ok=true->Gf8 T.length (tw T)/\(T.length:Int)<=n/\(tw T 0:Int)<=n/\Gf9 257 50 84 W' s1 T.length (tw T) (qT T)/\Mj2 257 59 53 W' s2 T.length (tw T) (qT T)/\∀i j,Sz 4 (qT T i j)):=by
 apply Mo1;have bad: ∀W:PW,∃(s1 s2:Sl) (ok:Bool),(Value.tuple ⟨[.slice none 0 0,.slice none 0 0,.bool false]⟩) = .tuple ⟨[Sl.v s1,Sl.v s2,.bool ok]⟩/\(ok=true->Gf8 T.length (tw T)/\(T.length:Int)<=n/\(tw T 0:Int)<=n/\Gf9 257 50 84 W s1 T.length (tw T) (qT T)/\Mj2 257 59 53 W s2 T.length (tw T) (qT T)/\∀i j,Sz 4 (qT T i j)):=λ W=>⟨⟨none,0,0⟩,⟨none,0,0⟩,false,rfl,λ e=>by cases e⟩;refine Mk3 h c f λ s3 i4 Q k g=>⟨s3,i4,rfl,λ _ W _=>bad W,λ R=>?_⟩;obtain⟨a,z,A⟩:=g (by omega);refine Mn2 (h.ext k) c y λ B m o C=>⟨B,rfl,λ _ W _=>bad W,λ D=>?_⟩;obtain⟨E,r⟩:=C (by simpa using D);have F:Gf6 m.w.heap.size m:=Nat.le_refl _;refine Gl7 F (h.ext (k.trans o)) c f λ d i13 G H ⟨g1,g2⟩=>⟨d,i13,rfl,?_⟩;have hi:i13=0:=Decidable.byContradiction λ e=>g2 e ⟨a,z⟩;obtain⟨_,I⟩:=g1 hi;have h1:1<=T.length:=a.2.1;have b:=A.ext (o.trans H);obtain⟨J,L,g14⟩:=b.at (i:=0) (by omega);have N:=b.n;have n14:=g14.n;have hm:Gf9 257 50 84 G d T.length (tw T) (qT T):=by
  obtain⟨O,P,a2,a3⟩:=I.mat;refine⟨O,P,a2,λ i hi=>?_⟩;have:=a3 i hi;rw[a.1 i (by omega)];exact this
 refine⟨b.inB (by omega) (by omega),J,L,?_⟩;dsimp only;rw[N,n14];refine Mm0 hm (by omega) λ t S u _=>⟨t,rfl,λ W w=>⟨d,s3,t,rfl,λ _=>⟨a,E,?_,hm.ext (u.trans w),b.ext (u.trans w),λ i j=>?_⟩⟩⟩
 ·rw[Gt2 (by omega)]
  exact(r _ (List.getElem_mem (by omega))).1
 ·unfold qT
  by_cases hi:i<T.length
  ·by_cases x:j<T[i].length
   ·have U:=(r _ (List.getElem_mem hi)).2 _ (List.getElem_mem x)
    rw[Gz2 hi x]
    cases e:Ab7 T[i][j] with
    | none=>exact Sz.zero (by omega)
    | some q=>exact Ct3 e (by omega)
   ·have:txt T i j=⟨⟨[]⟩⟩:=by
     unfold txt;rw[List.getElem?_eq_getElem hi];simp only[Option.getD_some];rw[List.getElem?_eq_none (show T[i].length<=j by omega)];rfl
    rw[this]
    cases e:Ab7 ⟨⟨[]⟩⟩ with
    | none=>exact Sz.zero (by omega)
    | some q=>exact Ct3 e (by decide)
  ·have:txt T i j=⟨⟨[]⟩⟩:=by
    unfold txt;rw[List.getElem?_eq_none (show T.length<=i by omega)];rfl
   rw[this]
   cases e:Ab7 ⟨⟨[]⟩⟩ with
   | none=>exact Sz.zero (by omega)
   | some q=>exact Ct3 e (by decide)
theorem Mm9 {n:Int}(h:Go3 W s T)(b:T.length<=1099511627776)(c: ∀l∈T,l.length<=1099511627776)(d: ∀i j,(txt T i j).size<=1099511627776)(e: ∀(s1:Sl) (s2:Sl) (ok:Bool) (W':PW),Ext W W'->((ok=true->Gf8 T.length (tw T)/\(T.length:Int)<=n/\(tw T 0:Int)<=n/\Gf9 257 50 84 W' s1 T.length (tw T) (qT T)/\Mj2 257 59 53 W' s2 T.length (tw T) (qT T)/\∀i j,Sz 4 (qT T i j)))->K (.tuple ⟨[Sl.v s1,Sl.v s2,.bool ok]⟩) W'):
  Aa1 Tryz.prog W0 M 11 [s.v,.int .i64 n] W K:=
 Mi4 (λ _ a=>Mo8 (h.ext a) b c d) fun | _,W',a,⟨s1,s2,ok,rfl,h⟩=>e s1 s2 ok W' a h
end Go.Proofs.YtkgeopnakkcdoaaGreatDoor
namespace Go.Proofs.YtkgeopnakkcdoaaGreatDoor
open Go Go.SX
end Go.Proofs.YtkgeopnakkcdoaaGreatDoor
namespace Go.Proofs.YtkgeopnakkcdoaaGreatDoor
open Go Go.SX
end Go.Proofs.YtkgeopnakkcdoaaGreatDoor
namespace Go.Proofs.YtkgeopnakkcdoaaGreatDoor
open Go Go.SX
end Go.Proofs.YtkgeopnakkcdoaaGreatDoor
namespace Go.Proofs.YtkgeopnakkcdoaaGreatDoor
open Go Go.SX
def g0:ByteArray:=⟨⟨[48]⟩⟩
def g1:ByteArray:=⟨⟨[49]⟩⟩
theorem Gx7 {T:List (List ByteArray)}{n:Nat}(h: ∀l∈T,∀t∈l,t.size<=n)(i j:Nat):(txt T i j).size<=n:=by
 unfold txt
 cases e:T[i]? with
 | none=>exact Nat.zero_le _
 | some l=>
  show(l[j]?.getD ⟨⟨[]⟩⟩).size<=_
  cases a:l[j]? with
  | none=>exact Nat.zero_le _
  | some t=>exact h l (List.mem_of_getElem? e) t (List.mem_of_getElem? a)
end Go.Proofs.YtkgeopnakkcdoaaGreatDoor
