import Derived.Test.YtkgeopnakkcdoaaGreatDoorW11
import Derived.Test.YtkgeopnakkcdoaaGreatDoorW12
import Derived.Test.YtkgeopnakkcdoaaGreatDoorR10
import Derived.Test.YtkgeopnakkcdoaaGreatDoorW10
import Derived.Test.YtkgeopnakkcdoaaGreatDoorW9
import Derived.Test.YtkgeopnakkcdoaaGreatDoorLib4
import Derived.Test.YtkgeopnakkcdoaaGreatDoorLib2
import Derived.Test.YtkgeopnakkcdoaaGreatDoorW7
set_option linter.unusedVariables false
set_option linter.unusedSimpArgs false
set_option maxRecDepth 100000
namespace Go.Proofs.YtkgeopnakkcdoaaGreatDoor
open Go Go.SX
variable {K:Value->PW->Prop}{M:Nat->Prop}{T:List (List ByteArray)}{W W0:PW}{l:List ByteArray}{p:List Tm}{s:Sl}
def bK:ByteArray:=⟨⟨[49,47,51]⟩⟩
theorem Mq9:Ab7 bK=some (1/3):=by decide +kernel
def cK:List Tm:=[(⟨0,0,0⟩,1/3)]
def aK:List Tm:=[(⟨0,0,0⟩,-1/3),(⟨1,0,0⟩,1)]
theorem Ms3:Ag2 [((⟨0,0,0⟩:Mon),(1/3:Rat))]=cK:=by decide +kernel
theorem Mt5:Ag2 (Dc6 0 ++ pmap cK (-1))=aK:=by decide +kernel
theorem kOK (p:List Tm)(h:An3 p [(0,1)]):Mn5 [p] 1 (λ _=>1) [(0,1)]:=⟨⟨λ q a=>by rw[List.mem_singleton.1 a];exact h,rfl,h.1⟩,⟨λ _ _=>rfl,by decide,by decide,by decide,by decide⟩,rfl,rfl⟩
theorem Ms8:Mn5 [aK] 1 (λ _=>1) [(0,1)]/\Mq8 [aK] Ms0 [(0,1)]:=⟨kOK _ (by decide +kernel),by decide +kernel⟩
theorem Ms1:¬Mq8 [cK] Ms0 [(0,1)]:=by decide +kernel
theorem Mn3:Sz 1 (1/3):=⟨Bc6 (by decide +kernel),Bc6 (by decide +kernel)⟩
theorem Mq3:Sz 1 (-1/3):=⟨Bc6 (by decide +kernel),Bc6 (by decide +kernel)⟩
theorem Ms4:Bd 7 cK:=(Cq4 Mn3).mono (by decide)
theorem Mt2:Bd 7 aK:=by
 refine(Bd.Co7 (k:=1) ?_).mono (by decide);intro t a;simp only[aK,List.mem_cons,List.not_mem_nil,or_false] at a;rcases a with rfl | rfl
 ·exact Mq3
 ·exact Fl0
theorem Mt1:POk cK:=λ t a=>by
 rw[List.mem_singleton.1 a];decide
theorem Mt4:POk aK:=λ t a=>by
 simp only[aK,List.mem_cons,List.not_mem_nil,or_false] at a;rcases a with rfl | rfl<;>decide
theorem Mq4 (a:Bd 7 p)(c:p.length<=30)(d:POk p):KrN 7 1 1 [p] 1 (λ _=>1) Ms0 [(0,1)] where
 p q e:=by rw[List.mem_singleton.1 e];exact⟨a,c,d⟩
 n:=by show 1<=1000;decide
 k1:=by decide
 s x g:=by rw[List.mem_singleton.1 g];exact⟨Sz.zero (Nat.le_refl 1),Fl0⟩
 m1:=by decide
 b:=by decide
 y i j _ _:=Mn7 i j
 l1:=by decide
 r1:=by decide
theorem Mr3 {a:Sl}{t:TypeId}(hO:Go.SX.Own W t 1 s [[a.v]])(h:Ab0 257 169 W a p):Ps W s [p]:=⟨[[a.v]],⟨_,hO.row⟩,⟨a,rfl,h⟩,trivial⟩
theorem Mm6 (C:Ac6 W0):
  Aa0 Tryz.prog 12 [] W0 M λ v W'=>v = .bool true/\True:=by
 apply Mk7;intro s1 W2 D E _;refine Cg0 (Lt:=pr9) (C.ext D) ⟨_,E.row⟩ (by decide) (by decide) λ F i6 bs W4 ag ⟨q1,G,_,I⟩=>⟨F,i6,rfl,?_⟩;have hi:=I Ev3;obtain⟨k1,J,L⟩:=G hi;have N:bs = [(0,1)]:=by
  refine Eu1 J rfl L λ i h1 h2=>?_;have:i=0:=by have:i<1:=h1;omega
  subst this;exact Fn4
 subst N;refine As8 (a:=bK) (by decide) λ k m o O P b=>⟨k,m,o,_,rfl,?_⟩;rw[Mq9] at b⊢;have b:Ab3 257 O k m o (1/3):=b;refine Cr4 (i:=0) λ Q ai d R=>⟨Q,rfl,?_⟩;refine Gf5 (b.ext d) Mn3 (by omega) λ S aj g q=>⟨S,rfl,?_⟩;rw[Ms3] at q;refine Db2 (R.ext g) q En2 Ms4 (by omega) (by decide) (by decide) λ U t u w=>⟨U,rfl,?_⟩;rw[Mt5] at w;refine⟨λ _=>⟨λ _=>Fc8 ?_ 1,λ e=>absurd rfl e⟩,λ e=>absurd hi e⟩;refine Mj8 (n:=1) (Nat.le_refl _:Gf6 t.w.heap.size t) (by decide) (by decide) λ V ak h X=>⟨V,rfl,λ al am c Y _=>?_⟩;have x:=q1.ext (P.trans (d.trans (g.trans (u.trans (h.trans c)))));refine Mj3 (Mr3 Y (w.ext (h.trans c))) (X.mat.ext c) x (Mq4 Mt2 (by decide) Mt4) λ an y _=>⟨_,rfl,λ _=>?_,λ e=>absurd Ms8 (of_decide_eq_false e)⟩;refine Gf5 (b.ext (d.trans (g.trans (u.trans (h.trans (c.trans y)))))) Mn3 (by omega) λ Z z aa A=>⟨Z,rfl,Fc8 ?_ 1⟩;rw[Ms3] at A;refine Mj8 (n:=1) (Nat.le_refl _:Gf6 z.w.heap.size z) (by decide) (by decide) λ ab ao B ac=>⟨ab,rfl,λ ap aq j ad _=>?_⟩;refine Mj3 (Mr3 ad (A.ext (B.trans j))) (ac.mat.ext j) (x.ext (y.trans (aa.trans (B.trans j)))) (Mq4 Ms4 (by decide) Mt1) λ ar au _=>⟨_,rfl,λ W _=>⟨?_,trivial⟩⟩;rw[decide_eq_false λ e=>Ms1 e.2];rfl
theorem Mj4 (b:Ac6 W)(c: ∀(W':PW),Ext W W'->(True)->K (.bool true) W'):
  Aa1 Tryz.prog W0 M 12 [] W K:=
 Mi4 (λ _ a=>Mm6 (b.ext a)) fun | _,W',a,⟨rfl,h⟩=>c W' a h
def Mt6 (W0:PW) (l:List ByteArray) (n:Int) (L:List PL) (W:PW):Prop:=match L with
 | [.val (.int .i64 i)]=>∃j:Nat,i=(j:Int)/\j<=l.length/\Ext W0 W/\∀t∈l.take j,(t.size:Int)<=n
 | _=>False
theorem Mo5 {n:Int}(h:Bf9 W0 1 s (Gw6 l))(g:l.length<=1099511627776):
  Aa0 Tryz.prog 30 [.int .i64 n,s.v] W0 M λ v W'=>∃(b:Bool),v = .bool b/\(b=true->∀t∈l,(t.size:Int)<=n):=by
 apply Ml3;have i:=h.nt;refine⟨Mt6 W0 l n,Kq0 l.length,⟨0,rfl,Nat.zero_le _,Ext.refl _,λ t h=>by simp at h⟩,?_⟩;rintro i3 k ⟨j,rfl,m,a,c⟩;refine⟨λ o=>?_,λ q W _=>⟨true,rfl,λ _=>?_⟩⟩
 ·have d:j<l.length:=by omega
  refine⟨(h.ext a).Hb8 (by omega) (by omega),_,(h.ext a).text d,λ _ W _=>⟨false,rfl,λ e=>(by cases e)⟩,λ hle=>⟨by unfold I64;omega,⟨j+1,by push_cast;rfl,by omega,a,Mn4 d c (by omega)⟩,?_⟩⟩;show l.length-Int.toNat ((j:Int)+1)<l.length-Int.toNat (j:Int);omega
 ·have:j=l.length:=by omega
  subst this
  rwa [List.take_length] at c
theorem Ml7 {n:Int}(h:Bf9 W 1 s (Gw6 l))(c:l.length<=1099511627776)(d: ∀(b:Bool) (W':PW),Ext W W'->((b=true->∀t∈l,(t.size:Int)<=n))->K (.bool b) W'):
  Aa1 Tryz.prog W0 M 30 [.int .i64 n,s.v] W K:=
 Mi4 (λ _ a=>Mo5 (h.ext a) c) fun | _,W',a,⟨b,rfl,h⟩=>d b W' a h
def Mt9 (W0:PW) (T:List (List ByteArray)) (n:Int) (L:List PL) (W:PW):Prop:=match L with
 | [.val (.int .i64 i)]=>∃j:Nat,i=(j:Int)/\j<=T.length/\Ext W0 W/\∀l∈T.take j,(l.length:Int)<=n/\∀t∈l,(t.size:Int)<=20
 | _=>False
theorem Mo6 {n:Int}(h:Go3 W0 s T)(u:T.length<=1099511627776)(m: ∀l∈T,l.length<=1099511627776):
  Aa0 Tryz.prog 52 [s.v,.int .i64 n] W0 M λ v W'=>∃(b:Bool),v = .bool b/\(b=true->(T.length:Int)<=n/\∀l∈T,(l.length:Int)<=n/\∀t∈l,(t.size:Int)<=20):=by
 apply Mn6;have w:=h.n;refine⟨λ _ W _=>⟨false,rfl,λ e=>(by cases e)⟩,λ hle=>⟨Mt9 W0 T n,Kq0 T.length,⟨0,rfl,Nat.zero_le _,Ext.refl _,λ t h=>by simp at h⟩,?_⟩⟩;rintro i3 y ⟨j,rfl,z,d,g⟩;refine⟨λ A=>?_,λ B W _=>⟨true,rfl,λ _=>⟨by omega,?_⟩⟩⟩
 ·have a:j<T.length:=by omega
  have c:=h.ext d;obtain⟨x,i,k⟩:=c.at a;have C:=k.nt;refine⟨c.inB (by omega) (by omega),x,i,λ _ W _=>⟨false,rfl,λ e=>(by cases e)⟩,λ D=>⟨c.inB (by omega) (by omega),x,i,?_⟩⟩;refine Ml7 k (m _ (List.getElem_mem a)) λ b E o q=>⟨b,rfl,λ _ W _=>⟨false,rfl,λ e=>(by cases e)⟩,λ e=>⟨by unfold I64;omega,⟨j+1,by push_cast;rfl,by omega,d.trans o,Mn4 a g ⟨by omega,q (by simpa using e)⟩⟩,?_⟩⟩;show T.length-Int.toNat ((j:Int)+1)<T.length-Int.toNat (j:Int);omega
 ·have:j=T.length:=by omega
  subst this
  rwa [List.take_length] at g
theorem Mn2 {n:Int}(h:Go3 W s T)(c:T.length<=1099511627776)(d: ∀l∈T,l.length<=1099511627776)(e: ∀(b:Bool) (W':PW),Ext W W'->((b=true->(T.length:Int)<=n/\∀l∈T,(l.length:Int)<=n/\∀t∈l,(t.size:Int)<=20))->K (.bool b) W'):
  Aa1 Tryz.prog W0 M 52 [s.v,.int .i64 n] W K:=
 Mi4 (λ _ a=>Mo6 (h.ext a) c d) fun | _,W',a,⟨b,rfl,h⟩=>e b W' a h
def qT (T:List (List ByteArray)) (a b:Nat):Rat:=(Ab7 (txt T a b)).getD 0
def Mt7 (W0:PW) (T:List (List ByteArray)) (L:List PL) (W:PW):Prop:=match L with
 | [.val (.int .i64 i)]=>∃k:Nat,i=(k:Int)/\k<=T.length/\Ext W0 W/\∀a,a<k->tw T a=tw T 0
 | _=>False
def Mu1 (W0:PW) (T:List (List ByteArray)) (L:List PL) (W:PW):Prop:=match L with
 | [.row l,.val (.int .i64 i)]=>∃(k:Nat) (c:List Sl),i=(k:Int)/\k<=T.length/\Ext W0 W/\c.length=k/\l=c.map (λ x=>[x.v])/\(∀a (h:a<c.length),Bf7 257 59 W c[a] (tw T a) (qT T a))/\∀a b,a<k->b<tw T a->(Ab7 (txt T a b)).isSome=true
 | _=>False
def Mu0 (W0:PW) (T:List (List ByteArray)) (k:Nat) (L:List PL) (W:PW):Prop:=match L with
 | [.row l,.val (.int .i64 i)]=>∃j:Nat,i=(j:Int)/\j<=tw T k/\Ext W0 W/\RQs 257 W l j (qT T k)/\∀b,b<j->(Ab7 (txt T k b)).isSome=true
 | _=>False
theorem Mm1 (h:Go3 W0 s T)(hr:T.length<=1099511627776)(N: ∀i j,(txt T i j).size<=1099511627776):
  Aa0 Tryz.prog 51 [s.v] W0 M λ v W'=>∃(s':Sl),∃(e:Int),v = .tuple ⟨[Sl.v s',.int .i64 e]⟩/\(e=0->Gf8 T.length (tw T)/\(∀a b,a<T.length->b<tw T a->(Ab7 (txt T a b)).isSome=true)/\Mj2 257 59 53 W' s' T.length (tw T) (qT T)):=by
 apply Mk2;have hn:=h.n;have bad: ∀(z:Int) (W:PW),z≠0->∃(s':Sl) (e:Int),(Value.tuple ⟨[.slice none 0 0,.int .i64 z]⟩) = .tuple ⟨[Sl.v s',.int .i64 e]⟩/\(e=0->Gf8 T.length (tw T)/\(∀a b,a<T.length->b<tw T a->(Ab7 (txt T a b)).isSome=true)/\Mj2 257 59 53 W s' T.length (tw T) (qT T)):=λ z W O=>⟨⟨none,0,0⟩,z,rfl,λ e=>absurd e O⟩;refine⟨λ _ W _=>bad 1 W (by decide),λ h1=>⟨λ _ W _=>bad 1 W (by decide),λ ao=>?_⟩⟩;obtain⟨s3,x,g3⟩:=h.at (i:=0) (by omega);have ap:=g3.nt.trans (Gt2 (T:=T) (i:=0) (by omega)).symm;refine⟨h.inB (by omega) (by omega),s3,x,λ _ W _=>bad 1 W (by decide),λ h3=>⟨h.inB (by omega) (by omega),s3,x,λ _ W _=>bad 1 W (by decide),λ h4=>?_⟩⟩;refine⟨Mt7 W0 T,Kq0 T.length,⟨0,rfl,Nat.zero_le _,Ext.refl _,λ a h=>by omega⟩,?_⟩;rintro i9 P ⟨k,rfl,hk,y,o⟩;have d:=h.ext y;refine⟨λ Q=>?_,λ R=>?_⟩
 ·have c:k<T.length:=by omega
  obtain⟨S,U,g11⟩:=d.at c;have au:=g11.nt.trans (Gt2 c).symm;obtain⟨V,X,g12⟩:=d.at (i:=0) (by omega);have av:=g12.nt.trans (Gt2 (T:=T) (i:=0) (by omega)).symm;refine⟨d.inB (by omega) (by omega),S,U,d.inB (by omega) (by omega),V,X,λ _ W _=>bad 1 W (by decide),λ heq=>⟨by unfold I64;omega,⟨k+1,by push_cast;rfl,by omega,y,λ a g=>?_⟩,?_⟩⟩
  ·by_cases e:a=k
   ·subst e;omega
   ·exact o a (by omega)
  ·show T.length-Int.toNat ((k:Int)+1)<T.length-Int.toNat (k:Int)
   omega
 have Y:k=T.length:=by omega
 subst Y;have Z:Gf8 T.length (tw T):=⟨o,by omega,by omega,by omega,by omega⟩;refine⟨Mu1 P T,cnB T.length,⟨0,[],rfl,Nat.zero_le _,Ext.refl _,rfl,rfl,λ a h=>by simp at h,λ a b h=>by omega⟩,?_⟩;rintro aw i17 aa ⟨k,m,rfl,hk,A,B,rfl,C,D⟩;refine⟨λ Q=>?_,λ R ab ax ac hO _ W E=>⟨ab,0,rfl,λ _=>⟨Z,?_,m,hO.row.ext E,by omega,λ a g=>(C a g).ext (ac.trans E)⟩⟩⟩
 rotate_left
 ·have:k=T.length:=by omega
  subst this;exact D
 have c:k<T.length:=by omega
 have ay:=o k c;refine⟨Mu0 aa T k,cnB (tw T k),⟨0,rfl,Nat.zero_le _,Ext.refl _,⟨rfl,λ i h=>by omega⟩,λ b h=>by omega⟩,?_⟩;rintro l21 i22 az ⟨j,rfl,hj,n,q,F⟩;have aB:=q.1;have t:=d.ext (A.trans n);obtain⟨G,I,g24⟩:=t.at c;have aC:=g24.nt.trans (Gt2 c).symm;refine⟨t.inB (by omega) (by omega),G,I,λ aD=>?_,λ aE ad aF u hO _=>?_⟩
 ·have ae:j<tw T k:=by omega
  have J:j<T[k].length:=by rw[<-Gt2 c];exact ae
  refine⟨t.inB (by omega) (by omega),G,I,g24.Hb8 (by omega) (by omega),_,g24.text J,?_⟩;rw[<-Gz2 c J];refine An7 (N k j) λ af ag ah aG L ai=>⟨af,ag,ah,_,rfl,λ _ W _=>bad 2 W (by decide),λ aj=>⟨by simp only[List.length_cons,List.length_nil];omega,by unfold I64;omega,⟨j+1,by push_cast;rfl,by omega,n.trans L,((q.ext L).snoc ai).congr λ i hi=>?_,λ b w=>?_⟩,?_⟩⟩
  ·by_cases e:i=j
   ·subst e
    rw[if_pos rfl];rfl
   ·rw[if_neg e]
  ·by_cases e:b=j
   ·subst e
    simpa using aj
   ·exact F b (by omega)
  ·show tw T k-Int.toNat ((j:Int)+1)<tw T k-Int.toNat (j:Int)
   omega
 ·have ak:j=tw T k:=by omega
  subst ak;refine⟨by simp only[List.length_map,List.length_cons,List.length_nil];omega,by unfold I64;omega,⟨k+1,m ++ [ad],by push_cast;rfl,by omega,A.trans (n.trans u),by simp[B],by simp,λ a g=>?_,λ a b g w=>?_⟩,?_⟩
  ·by_cases e:a<m.length
   ·rw[List.getElem_append_left e]
    exact(C a e).ext (n.trans u)
   ·have:a=m.length:=by simp at g;omega
    subst this;rw[List.getElem_concat_length rfl];have e2:m.length=k:=B;rw[e2];exact⟨l21,hO.row,q.ext u⟩
  ·by_cases e:a=k
   ·subst e
    exact F b w
   ·exact D a b (by omega) w
  ·show T.length-Int.toNat ((k:Int)+1)<T.length-Int.toNat (k:Int)
   omega
theorem Mk3 (h:Go3 W s T)(d:T.length<=1099511627776)(g: ∀i j,(txt T i j).size<=1099511627776)(k: ∀(s':Sl) (e:Int) (W':PW),Ext W W'->((e=0->Gf8 T.length (tw T)/\(∀a b,a<T.length->b<tw T a->(Ab7 (txt T a b)).isSome=true)/\Mj2 257 59 53 W' s' T.length (tw T) (qT T)))->K (.tuple ⟨[Sl.v s',.int .i64 e]⟩) W'):
  Aa1 Tryz.prog W0 M 51 [s.v] W K:=
 Mi4 (λ _ c=>Mm1 (h.ext c) d g) fun | _,W',c,⟨s',e,rfl,h⟩=>k s' e W' c h
theorem Mo8 {n:Int}(h:Go3 W0 s T)(c:T.length<=1099511627776)(A: ∀l∈T,l.length<=1099511627776)(k: ∀i j,(txt T i j).size<=1099511627776):
  Aa0 Tryz.prog 11 [s.v,.int .i64 n] W0 M λ v W'=>∃(s1:Sl),∃(s2:Sl),∃(ok:Bool),v = .tuple ⟨[Sl.v s1,Sl.v s2,.bool ok]⟩/\(ok=true->Gf8 T.length (tw T)/\(T.length:Int)<=n/\(tw T 0:Int)<=n/\Gf9 257 50 84 W' s1 T.length (tw T) (qT T)/\Mj2 257 59 53 W' s2 T.length (tw T) (qT T)/\∀i j,Sz 4 (qT T i j)):=by
 apply Mo1;have bad: ∀W:PW,∃(s1 s2:Sl) (ok:Bool),(Value.tuple ⟨[.slice none 0 0,.slice none 0 0,.bool false]⟩) = .tuple ⟨[Sl.v s1,Sl.v s2,.bool ok]⟩/\(ok=true->Gf8 T.length (tw T)/\(T.length:Int)<=n/\(tw T 0:Int)<=n/\Gf9 257 50 84 W s1 T.length (tw T) (qT T)/\Mj2 257 59 53 W s2 T.length (tw T) (qT T)/\∀i j,Sz 4 (qT T i j)):=λ W=>⟨⟨none,0,0⟩,⟨none,0,0⟩,false,rfl,λ e=>by cases e⟩;refine Mk3 h c k λ s3 i4 U m g=>⟨s3,i4,rfl,λ _ W _=>bad W,λ V=>?_⟩;obtain⟨a,B,C⟩:=g (by omega);refine Mn2 (h.ext m) c A λ D o t E=>⟨D,rfl,λ _ W _=>bad W,λ F=>?_⟩;obtain⟨G,u⟩:=E (by simpa using F);have I:Gf6 o.w.heap.size o:=Nat.le_refl _;refine Gl7 I (h.ext (m.trans t)) c k λ d i13 J L ⟨g1,g2⟩=>⟨d,i13,rfl,?_⟩;have hi:i13=0:=Decidable.byContradiction λ e=>g2 e ⟨a,B⟩;obtain⟨_,N⟩:=g1 hi;have h1:1<=T.length:=a.2.1;have b:=C.ext (t.trans L);obtain⟨O,P,g14⟩:=b.at (i:=0) (by omega);have Q:=b.n;have n14:=g14.n;have hm:Gf9 257 50 84 J d T.length (tw T) (qT T):=by
  obtain⟨R,S,a2,a3⟩:=N.mat;refine⟨R,S,a2,λ i hi=>?_⟩;have:=a3 i hi;rw[a.1 i (by omega)];exact this
 refine⟨b.inB (by omega) (by omega),O,P,?_⟩;dsimp only;rw[Q,n14];refine Mm0 hm (by omega) λ w X x _=>⟨w,rfl,λ W y=>⟨d,s3,w,rfl,λ _=>⟨a,G,?_,hm.ext (x.trans y),b.ext (x.trans y),λ i j=>?_⟩⟩⟩
 ·rw[Gt2 (by omega)]
  exact(u _ (List.getElem_mem (by omega))).1
 ·unfold qT
  by_cases hi:i<T.length
  ·by_cases z:j<T[i].length
   ·have Y:=(u _ (List.getElem_mem hi)).2 _ (List.getElem_mem z)
    rw[Gz2 hi z]
    cases e:Ab7 T[i][j] with
    | none=>exact Sz.zero (by omega)
    | some q=>exact Ct3 e (by omega)
   ·have:txt T i j=⟨⟨[]⟩⟩:=by
     unfold txt;rw[List.getElem?_eq_getElem hi];simp only[Option.getD_some];rw[List.getElem?_eq_none (show T[i].length<=j by omega)];rfl
    rw[this]
    cases e:Ab7 ⟨⟨[]⟩⟩ with
    | none=>exact Sz.zero (by omega)
    | some q=>exact Ct3 e (by decide)
  ·have:txt T i j=⟨⟨[]⟩⟩:=by
    unfold txt;rw[List.getElem?_eq_none (show T.length<=i by omega)];rfl
   rw[this]
   cases e:Ab7 ⟨⟨[]⟩⟩ with
   | none=>exact Sz.zero (by omega)
   | some q=>exact Ct3 e (by decide)
theorem Mm9 {n:Int}(h:Go3 W s T)(b:T.length<=1099511627776)(c: ∀l∈T,l.length<=1099511627776)(d: ∀i j,(txt T i j).size<=1099511627776)(e: ∀(s1:Sl) (s2:Sl) (ok:Bool) (W':PW),Ext W W'->((ok=true->Gf8 T.length (tw T)/\(T.length:Int)<=n/\(tw T 0:Int)<=n/\Gf9 257 50 84 W' s1 T.length (tw T) (qT T)/\Mj2 257 59 53 W' s2 T.length (tw T) (qT T)/\∀i j,Sz 4 (qT T i j)))->K (.tuple ⟨[Sl.v s1,Sl.v s2,.bool ok]⟩) W'):
  Aa1 Tryz.prog W0 M 11 [s.v,.int .i64 n] W K:=
 Mi4 (λ _ a=>Mo8 (h.ext a) b c d) fun | _,W',a,⟨s1,s2,ok,rfl,h⟩=>e s1 s2 ok W' a h
end Go.Proofs.YtkgeopnakkcdoaaGreatDoor
namespace Go.Proofs.YtkgeopnakkcdoaaGreatDoor
open Go Go.SX
end Go.Proofs.YtkgeopnakkcdoaaGreatDoor
namespace Go.Proofs.YtkgeopnakkcdoaaGreatDoor
open Go Go.SX
end Go.Proofs.YtkgeopnakkcdoaaGreatDoor
namespace Go.Proofs.YtkgeopnakkcdoaaGreatDoor
open Go Go.SX
end Go.Proofs.YtkgeopnakkcdoaaGreatDoor
namespace Go.Proofs.YtkgeopnakkcdoaaGreatDoor
open Go Go.SX
def g0:ByteArray:=⟨⟨[48]⟩⟩
def g1:ByteArray:=⟨⟨[49]⟩⟩
theorem Gx7 {T:List (List ByteArray)}{n:Nat}(h: ∀l∈T,∀t∈l,t.size<=n)(i j:Nat):(txt T i j).size<=n:=by
 unfold txt
 cases e:T[i]? with
 | none=>exact Nat.zero_le _
 | some l=>
  show(l[j]?.getD ⟨⟨[]⟩⟩).size<=_
  cases a:l[j]? with
  | none=>exact Nat.zero_le _
  | some t=>exact h l (List.mem_of_getElem? e) t (List.mem_of_getElem? a)
end Go.Proofs.YtkgeopnakkcdoaaGreatDoor
namespace Go.Proofs.YtkgeopnakkcdoaaGreatDoor
open Go Go.SX
variable {M:Nat->Prop}{T:List (List (Mon×ByteArray))}{W W0:PW}{f:List (List Tm)}{r:Nat}{s:Sl}
theorem Ms9 (h:Ps W s f): ∀q∈f,POk q:=λ q a=>by
 obtain⟨i,hi,rfl⟩:=List.mem_iff_getElem.1 a;obtain⟨x,_,b⟩:=h.at hi;exact Ab0.pok b
theorem Mt8 {e:Int}{y:Nat->Nat->Rat}{bs:List Iv}{c:Nat->Nat}(a:Kj9 T e f)(m:T.length<=4)(d:Ps W s f)(hk: ∀x∈bs,IvS 20 x)(n:bs.length<=3)(g: ∀i j,Sz 4 (y i j))(o:r<=12):KrN 56029 20 4 f r c y bs:=by
 have t:=An5.len a;have k:=Ms9 d;refine⟨λ q b=>?_,by omega,by decide,hk,by decide,by omega,λ i j _ _=>g i j,by decide,by omega⟩;obtain⟨l,h⟩:=a.mem b;have:=h.len;exact⟨h.bd,by omega,k q b⟩
def ztI (a:PW) (r:Nat) (c:Nat->Nat) (q:Nat->Nat->Rat) (L:List PL) (W:PW):Prop:=match L with
 | [.val (.bool b),.val (.int .i64 i)]=>∃k:Nat,i=(k:Int)/\k<=r/\Ext a W/\(b=true->∀i j,i<k->j<c i->q i j=0)
 | _=>False
def ztJ (a:PW) (r k:Nat) (c:Nat->Nat) (q:Nat->Nat->Rat) (L:List PL) (W:PW):Prop:=match L with
 | [.val (.bool b),.val (.int .i64 j)]=>∃l:Nat,j=(l:Int)/\l<=c k/\Ext a W/\(b=true->(∀i j,i<k->j<c i->q i j=0)/\∀j,j<l->q k j=0)
 | _=>False
def cnZ (n:Nat) (L:List PL) (_:PW):Nat:=match L with
 | [_,.val (.int .i64 z)]=>n-z.toNat
 | _=>0
theorem Ml2 {m:PW}{x:Sl}{q:Nat->Nat->Rat}{z:Bool->PW->Prop}{c:Nat->Nat}(n:Mj2 257 59 53 m x r c q)(hr:r<=1000)(P: ∀i,i<r->c i<=1000)(fin: ∀(b:Bool) W,Ext m W->(b=true->∀i j,i<r->j<c i->q i j=0)->z b W):
  lp [.val (.bool true),.val (.int .i64 0)] m λ F G=>∀(b:Bool) (i:Int) (W:PW),nx F G [.val (.bool b),.val (.int .i64 i)] W λ Z=>iP (i<(x.2:Int))
   (lp [.val (.bool b),.val (.int .i64 0)] W λ Q R=>∀(b':Bool) (a:Int) (W':PW),nx Q R [.val (.bool b'),.val (.int .i64 a)] W' λ A=>
    inB x i/\∃B:Sl,Aa7 W' x 1 (Int.toNat i) 0 [B.v]/\iP (a<(B.2:Int))
     (iB b' (inB x i/\∃o:Sl,Aa7 W' x 1 (Int.toNat i) 0 [o.v]/\inB o a/\∃(C:Bool) (D:Sl),Aa7 W' o 3 (Int.toNat a) 0 [.bool C,D.v]/\
      Aa1 Tryz.prog W0 M 15 [.agg ⟨[.bool C,D.v]⟩] W' λ v E=>∃i75:Int,v = .int .i64 i75/\I64 (a+1)/\A [.val (.bool (decide (i75=0))),.val (.int .i64 (a+1))] E)
      (I64 (a+1)/\A [.val (.bool false),.val (.int .i64 (a+1))] W'))
     (I64 (i+1)/\Z [.val (.bool b'),.val (.int .i64 (i+1))] W'))
   (z b W):=by
 have hn:=n.n;refine⟨ztI m r c q,cnZ r,⟨0,rfl,Nat.zero_le _,Ext.refl _,λ _ i j h=>by omega⟩,?_⟩;rintro b i W ⟨k,rfl,hk,I,J⟩;refine⟨λ ad=>?_,λ ae=>fin b W I λ e=>?_⟩
 ·have L:k<r:=by omega
  have af:=P k L;refine⟨ztJ m r k c q,cnZ (c k),⟨0,rfl,Nat.zero_le _,I,λ e=>⟨J e,λ j h=>by omega⟩⟩,?_⟩;rintro b' a W' ⟨l,rfl,hl,g,w⟩;obtain⟨s,N,g1⟩:=(n.ext g).at (i:=k) L;have ah:=g1.n;refine⟨(n.ext g).inB (by omega) (by omega),s,N,λ ai=>⟨λ y=>?_,λ y=>?_⟩,λ aj=>⟨by unfold I64;omega,⟨k+1,by push_cast;rfl,by omega,g,λ e i j hi O=>?_⟩,?_⟩⟩
  ·have S:l<c k:=by omega
   obtain⟨t,d,u,U,g2⟩:=g1.at (i:=l) S;refine⟨(n.ext g).inB (by omega) (by omega),s,N,g1.inB (by omega) (by omega),d,t,Aa7.Mu2 U,?_⟩;refine Aq7 g2.1 λ E V _=>⟨_,rfl,by unfold I64;omega,⟨l+1,by push_cast;rfl,by omega,g.trans V,λ e=>⟨(w y).1,λ j O=>?_⟩⟩,?_⟩
   ·by_cases X:j=l
    ·subst X
     exact Rat.num_eq_zero.1 (Ds0.1 (of_decide_eq_true e))
    ·exact(w y).2 j (by omega)
   ·show c k-Int.toNat ((l:Int)+1)<c k-Int.toNat (l:Int)
    omega
  ·refine⟨by unfold I64;omega,⟨l+1,by push_cast;rfl,by omega,g,λ e=>by cases e⟩,?_⟩
   show c k-Int.toNat ((l:Int)+1)<c k-Int.toNat (l:Int);omega
  ·obtain⟨Y,a2⟩:=w e
   by_cases ei:i=k
   ·subst ei
    exact a2 j (by omega)
   ·exact Y i j (by omega) O
  ·show r-Int.toNat ((k:Int)+1)<r-Int.toNat (k:Int)
   omega
 ·have:k=r:=by omega
  subst this;exact J e
def kiI (c:PW) (f:List (List Tm)) (y:Nat->Nat->Rat) (bs:List Iv) (L:List PL) (W:PW):Prop:=match L with
 | [.val (.bool b),.val (.int .i64 i)]=>∃j:Nat,i=(j:Int)/\j<=bs.length/\Ext c W/\(b=true->∀a,a<j->Mr9 (krR f y bs a bs.length) (Bm3 bs a))/\(b=false->¬Mq8 f y bs)
 | _=>False
def kiF (a:PW) (L:List PL) (W:PW):Prop:=match L with
 | [.val (.bool b),.val (.int .i64 i)]=>b=false/\i=0/\Ext a W
 | _=>False
theorem Mn9 {t:Sl}{u:Sl}{n:List (List ByteArray)}{Lt:List (ByteArray×ByteArray)}(F:Ac6 W0)(h1:Jz1 W0 s T)(h2:Go3 W0 t n)(h3:Bs7 W0 u Lt)(z1: ∀l∈T,l.length<=1099511627776/\∀t∈l,t.2.size<=1099511627776)(l2:n.length<=1099511627776)(z2: ∀l∈n,l.length<=1099511627776/\∀t∈l,t.size<=1099511627776)(l3:Lt.length<=1099511627776)(z3: ∀t∈Lt,t.1.size<=1099511627776/\t.2.size<=1099511627776):
  Aa0 Tryz.prog 3 [s.v,t.v,u.v] W0 M λ v W'=>v = .bool true/\True:=by
 apply Mj6;have G: ∀{W:PW},Ext W0 W->Aa1 Tryz.prog W0 M 12 [] W λ v W'=>∃b:Bool,v = .bool b/\∀ae:PW,Ext W' ae->Value.bool b = .bool true/\True:=λ I=>Mj4 (F.ext I) λ W' bg _=>⟨true,rfl,λ ae _=>⟨rfl,trivial⟩⟩;refine Ke6 h1 z1 λ s3 s4 b5 W2 J g5=>⟨s3,s4,b5,rfl,?_⟩;refine Gb4 (F.ext J) (h3.ext J) l3 z3 λ L s9 az W7 af g10=>⟨L,s9,az,rfl,?_⟩;have E7:=J.trans af;refine Mm9 (h2.ext E7) l2 (λ l N=>(z2 l N).1) (Gx7 λ l N t ht=>(z2 l N).2 t ht) λ ah aB aC bj ai g15=>⟨ah,aB,aC,rfl,?_⟩;have B:=E7.trans ai;refine⟨λ _=>G B,λ e5=>⟨λ _=>G B,λ aE=>⟨λ _=>G B,λ aF=>?_⟩⟩⟩;refine Mj4 (F.ext B) λ bk O _=>⟨true,rfl,λ e=>(by cases e),λ _=>?_⟩;obtain⟨f,aG,h4,w,_⟩:=g5 (by simpa using e5);obtain⟨bs,b1,_,hB,hk⟩:=g10 (by simpa using aE);obtain⟨m,aJ,aK,m1,o,hz⟩:=g15 (by simpa using aF);obtain⟨r,P⟩: ∃r,n.length=r:=⟨_,rfl⟩;obtain⟨c,Q⟩: ∃c,tw n=c:=⟨_,rfl⟩;obtain⟨y,hy⟩: ∃y,qT n=y:=⟨_,rfl⟩;rw[P,Q,hy] at m1 o;rw[P,Q] at m;rw[P] at aJ;rw[Q] at aK;rw[hy] at hz;have aL:=hB.1.2;have al:=ai.trans O;have w:=w.ext (af.trans al);have b1:=b1.ext al;have m1:=m1.ext O;have o:=o.ext O;have R: ∀i,i<r->c i<=1000:=λ i hi=>by rw[m.1 i hi];have:=m.2.2.2.2;omega
 have S:KrN 56029 20 4 f r c y bs:=Mt8 aG h4 w (λ x hx=>IvS.mono (hk x hx) (by omega)) aL hz m.2.2.1;have bl:=b1.n;refine Mj7 w m1 b1 S λ U V z A=>⟨U,_,rfl,?_⟩;have fin: ∀(d:Bool) {W:PW},Ext V W->(d=true↔Mn5 f r c bs/\Mq8 f y bs)->∀(C:Bool) (X:PW),Ext W X->(C=true->∀i j,i<r->j<c i->y i j=0)->
   Aa1 Tryz.prog W0 M 16 [s3.v,ah.v,L.v] X λ v D=>∃Y:Bool,v = .bool Y/\(Y=d->(C=true->∀W':PW,Ext D W'->Value.bool (!d) = .bool true/\True)/\(C=false->∀W':PW,Ext D W'->Value.bool (!false) = .bool true/\True))/\(¬Y=d->∀W':PW,Ext D W'->Value.bool false = .bool true/\True):=by
  intro d W I Z C X aN aO;have E:=z.trans (I.trans aN);refine Mj3 (w.ext E) (m1.ext E) (b1.ext E) S λ D bm _=>⟨_,rfl,λ _=>⟨λ aP W' _=>⟨?_,trivial⟩,λ _ W' _=>⟨rfl,trivial⟩⟩,λ aQ=>absurd ?_ aQ⟩
  ·cases d with
   | false=>rfl
   | true=>
    obtain⟨ok,hp⟩:=Z.1 rfl;have q1:=ok.1.2.1;have q2:=ok.2.2.1;have q3:=ok.2.2.2;refine absurd hp (Mr1 ok.1 λ i j hi hj=>aO aP i j (by omega) ?_);have:=m.1 i (by omega);omega
  ·cases d with
   | false=>exact decide_eq_false λ e=>by have:=Z.2 e;cases this
   | true=>exact decide_eq_true (Z.1 rfl)
 refine⟨λ ab=>?_,λ ab=>?_⟩
 ·have ok:Mn5 f r c bs:=of_decide_eq_true ab
  rw[if_pos ok] at A;have hn:=A.n;rw[Mk0] at hn;have aS:=S.B ok;have aT:decide ((U.n:Int)=(L.n:Int))=true:=decide_eq_true (by omega);refine⟨kiI V f y bs,cnZ bs.length,⟨0,rfl,Nat.zero_le _,Ext.refl _,λ _ a h=>by omega,λ e=>by rw[aT] at e;cases e⟩,?_⟩;rintro d i42 aU ⟨j,rfl,hj,g,am,an⟩;refine⟨λ aV=>⟨λ e=>?_,λ e=>?_⟩,λ aW=>?_⟩
  ·have q:j<bs.length:=by omega
   have h8:=A.ext g;obtain⟨x,⟨aX,aY,aZ,a0,a1,a2,rfl,v1,v2⟩,a3⟩:=h8.at (i:=j) (by rw[Mk0];exact q);rw[Mr2] at v1 v2;have ap:=b1.ext (z.trans g);obtain⟨x',⟨a4,a5,a6,a7,a8,a9,rfl,u1,u2⟩,bc⟩:=ap.at q;refine⟨h8.inB (by omega) (by rw[Mk0];omega),aX,aY,aZ,a0,a1,a2,a3 0 rfl,ap.inB (by omega) (by omega),a4,a5,a6,a7,a8,a9,bc 0 rfl,?_⟩;have aq:=Fi1 q;refine Mj5 (x:=krR f y bs j bs.length) (y:=Bm3 bs j) (k:=1300000000) (SpV.mk v1 v2) (aq ▸ SpV.mk u1 u2) (Mr4 aS ok.1 q) (aq ▸ IvS.mono (hk _ (List.getElem_mem q)) (by omega)) (by omega) λ bq bd _=>⟨_,rfl,by unfold I64;omega,⟨j+1,by push_cast;rfl,by omega,g.trans bd,λ e2 a ha=>?_,λ e2 hp=>?_⟩,?_⟩
   ·by_cases ea:a=j
    ·subst ea
     exact of_decide_eq_true e2
    ·exact am e a (by omega)
   ·exact of_decide_eq_false e2 (hp j q)
   ·show bs.length-Int.toNat ((j:Int)+1)<bs.length-Int.toNat (j:Int)
    omega
  ·refine Ml2 (o.ext (z.trans g)) (by have:=m.2.2.1;omega) R ?_
   exact fin d g ⟨λ h=>(by rw[h] at e;cases e),λ h=>absurd h.2 (an e)⟩
  ·refine Ml2 (o.ext (z.trans g)) (by have:=m.2.2.1;omega) R ?_
   have bf:j=bs.length:=by omega
   subst bf;refine fin d g ⟨λ h=>⟨ok,am h⟩,λ h=>?_⟩
   cases d with
   | true=>rfl
   | false=>exact absurd h.2 (an rfl)
 ·have ok:¬Mn5 f r c bs:=of_decide_eq_false ab
  rw[if_neg ok] at A;have hn:=A.n;refine⟨kiF V,λ _ _=>0,⟨rfl,rfl,Ext.refl _⟩,?_⟩;rintro d i42 aU ⟨rfl,rfl,g⟩;refine⟨λ aV=>?_,λ aW=>?_⟩
  ·have:U.n=0:=hn
   omega
  ·refine Ml2 (o.ext (z.trans g)) (by have:=m.2.2.1;omega) R ?_
   exact fin false g ⟨λ h=>(by cases h),λ h=>absurd h.1 ok⟩
end Go.Proofs.YtkgeopnakkcdoaaGreatDoor
namespace Go.Proofs.YtkgeopnakkcdoaaGreatDoor
open Go Go.SX Go.ChangeShapes Go.WideShapes Go.ChangeAt Go.RowKit Go.Deep
variable {H:Type}{W:World}{fuel:Nat}
instance:Inhabited (Mon×ByteArray):=⟨(⟨0,0,0⟩,⟨#[]⟩)⟩
theorem Cd6:Tryz.prog.cellsOf 233=4:=by kernel_rfl
theorem Dv1:Tryz.prog.cellsOf 146=3:=by kernel_rfl
theorem Ew8:Tryz.prog.cellsOf 5=1:=by kernel_rfl
theorem Fg4 {n:Int}(h:(Lit.int .u8 n).wf=true):0<=n/\n<=255:=by
 simp[Lit.wf,IntKind.min,IntKind.max,IntKind.bits,IntKind.signed] at h;omega
theorem Er8 {cs:List Value}{enc:TypeId×Value->H}{x:DataW H×List MemPlace}(h:DataW.trod enc Tryz.prog W 0 (λ _=>true) true fuel 233 cs=some x):
  ∃t:Mon×ByteArray,AT cs t/\t.2.size<=Rows.uptoBulk x.1:=by
 obtain⟨xs,k,rfl,rfl,n,w,o⟩:=DataW.trod_struct Tryz.underlying233 h;rw[Cd6] at n;have g0:DataW.trod enc Tryz.prog W 0 (λ _=>true) true k 146 ((cs.drop 0).take (Tryz.prog.cellsOf 146))=xs[0]?:=o 0 _ rfl;have g1:DataW.trod enc Tryz.prog W 0 (λ _=>true) true k 9 ((cs.drop 3).take (Tryz.prog.cellsOf 9))=xs[1]?:=o 1 _ rfl;rw[Dv1] at g0;rw[Ct5] at g1
 match cs,n,xs,w with
 | [v0,v1,v2,v3],_,[y,z],_=>
  have g0:DataW.trod enc Tryz.prog W 0 (λ _=>true) true k 146 [v0,v1,v2]=some y:=g0;have g1:DataW.trod enc Tryz.prog W 0 (λ _=>true) true k 9 [v3]=some z:=g1;obtain⟨zs,m,rfl,rfl,_,A,j⟩:=DataW.trod_array Tryz.underlying146 g0;obtain⟨s,a,rfl,G⟩:=DataW.trod_string Tryz.underlying9 g1;have b:=j 0 (by omega);have c:=j 1 (by omega);have d:=j 2 (by omega);rw[Ew8] at b c d
  match zs,A with
  | [B,C,D],_=>
   have b:DataW.trod enc Tryz.prog W 0 (λ _=>true) true m 5 [v0]=some B:=b;have c:DataW.trod enc Tryz.prog W 0 (λ _=>true) true m 5 [v1]=some C:=c;have d:DataW.trod enc Tryz.prog W 0 (λ _=>true) true m 5 [v2]=some D:=d;obtain⟨q,g,_,E⟩:=DataW.trod_int Tryz.underlying5 b;obtain⟨u,h1,_,k1⟩:=DataW.trod_int Tryz.underlying5 c;obtain⟨v,i,_,F⟩:=DataW.trod_int Tryz.underlying5 d;have a: [v3] = [Value.string s]:=a;have g: [v0] = [Value.int .u8 q]:=g;have h1: [v1] = [Value.int .u8 u]:=h1;have i: [v2] = [Value.int .u8 v]:=i;simp only[List.cons.injEq,and_true] at a g h1 i;subst a g h1 i;refine⟨(⟨q,u,v⟩,s),⟨⟨Fg4 E,Fg4 k1,Fg4 F⟩,rfl⟩,?_⟩;have e:s.data.toList.length=s.size:=by rw[Array.length_toList];rfl
   simp only[List.map_cons,List.map_nil,Rows.uptoBulk,Rows.uptoBulkAll];omega
theorem Et3 {V:Nat->List Value}{y:Nat->Mon×ByteArray}{n:Nat}(h: ∀i,i<n->AT (V i) (y i)):An5 AT ((List.range n).map V) ((List.range n).map y):=by
 induction n with
 | zero=>trivial
 | succ n ih=>
  rw[List.range_succ,List.map_append,List.map_append];exact(ih λ i hi=>h i (by omega)).append ⟨h n (by omega),trivial⟩
theorem Dt5 {p:List MemPlace}{enc:TypeId×Value->H}{v:Value}{d:DataW H}(h:DataW.trod enc Tryz.prog W 0 (λ _=>true) true fuel 72 [v]=some (d,p)):
  ∃(s:Sl) (L:List (Mon×ByteArray)),v=s.v/\Af3 ⟨W,λ _=>False⟩ s L/\L.length<=Rows.uptoBulk d/\∀t∈L,t.2.size<=Rows.uptoBulk d:=by
 rcases open_slice Tryz.underlying72 h with⟨k,o⟩ | ⟨a,len,cap,m,n,D,O,k,_,A,hm,w,o,y⟩
 ·have b:v = .slice none 0 0:=by simpa using k
  subst b;exact⟨⟨none,0,0⟩,[],rfl,⟨[],⟨0,rfl,Nat.le_refl _,Nat.zero_le _,λ x h=>by simp at h,.inl rfl⟩,trivial⟩,Nat.zero_le _,λ l h=>by simp at h⟩
 ·have b:v = .slice (some a) len cap:=by simpa using k
  subst b;simp only[if_true] at w;subst w;simp only[Prod.mk.injEq] at o;obtain⟨rfl,_⟩:=o;rw[Cd6] at y;obtain⟨q,e⟩: ∃q:Nat->List Value×(Mon×ByteArray),∀i,i<m->W.cells? 0 (a.add (i*4)) 4=some (q i).1/\AT (q i).1 (q i).2/\(q i).2.2.size<=Rows.uptoBulk (D i):=choose_lt (α:=List Value×(Mon×ByteArray)) (p:=λ i q=>W.cells? 0 (a.add (i*4)) 4=some q.1/\AT q.1 q.2/\q.2.2.size<=Rows.uptoBulk (D i)) λ i hi=>by
   obtain⟨B,h1,z⟩:=y i hi;obtain⟨t,C,E⟩:=Er8 z;exact⟨(B,t),h1,C,E⟩
  have F:=Bz7 (W:=W) (a:=a) (n:=len) (c:=m) (sz:=4) (V:=λ i=>(q i).1) (λ j g i v b=>by
   obtain⟨_,hlen,G⟩:=World.cells?_some (e j (by omega)).1;have hi:i<4:=by have:=(List.getElem?_eq_some_iff.1 b).1;omega
   have:=G i hi;rw[add_add] at this;rw[this];exact b) (λ j g=>(World.cells?_some (e j (by omega)).1).2.1) (by omega) A hm (λ j g u hu=>by
   rw[(e j (by omega)).2.1.2] at hu;simp only[List.mem_cons,List.not_mem_nil,or_false] at hu;rcases hu with rfl | rfl | rfl | rfl<;>rfl)
  have I: ∀i,i<len->Rows.uptoBulk (D i)<=Rows.uptoBulkAll ((List.range len).map D):=λ i hi=>Eo6 (List.mem_map.2 ⟨i,List.mem_range.2 hi,rfl⟩);have hlen:=Dj1 ((List.range len).map D);simp only[List.length_map,List.length_range] at hlen;refine⟨⟨some a,len,m⟩,(List.range len).map λ i=>(q i).2,rfl,⟨_,F,Et3 λ i hi=>(e i (by omega)).2.1⟩,?_,λ t J=>?_⟩
  ·simp only[List.length_map,List.length_range,Rows.uptoBulk]
   omega
  ·obtain⟨j,g,rfl⟩:=List.mem_map.1 J
   have N:=List.mem_range.1 g;have h1:=I j N;have z:=(e j (by omega)).2.2;simp only[Rows.uptoBulk];omega
end Go.Proofs.YtkgeopnakkcdoaaGreatDoor
namespace Go.Proofs.YtkgeopnakkcdoaaGreatDoor
open Go Go.SX Go.ChangeShapes Go.WideShapes Go.ChangeAt Go.RowKit Go.Deep
instance:Inhabited (Sl×List (Mon×ByteArray)):=⟨(⟨none,0,0⟩,[])⟩
theorem Ki8:Tryz.prog.cellsOf 72=1:=by kernel_rfl
theorem Kk2 {H:Type}{W:World}{fuel:Nat}{p:List MemPlace}{enc:TypeId×Value->H}{v:Value}{d:DataW H}(h:DataW.trod enc Tryz.prog W 0 (λ _=>true) true fuel 22 [v]=some (d,p)):
  ∃(s:Sl) (T:List (List (Mon×ByteArray))),v=s.v/\Jz1 ⟨W,λ _=>False⟩ s T/\T.length<=Rows.uptoBulk d/\∀l∈T,l.length<=Rows.uptoBulk d/\∀t∈l,t.2.size<=Rows.uptoBulk d:=by
 rcases open_slice1 Tryz.underlying22 Ki8 h with⟨g,k⟩ | ⟨a,len,cap,m,n,V,D,I,g,_,o,hm,w,k,z⟩
 ·have q:v = .slice none 0 0:=by simpa using g
  subst q;exact⟨⟨none,0,0⟩,[],rfl,⟨[],⟨0,rfl,Nat.le_refl _,Nat.zero_le _,λ x h=>by simp at h,.inl rfl⟩,rfl,λ i h=>by simp at h⟩,Nat.zero_le _,λ l h=>by simp at h⟩
 ·have q:v = .slice (some a) len cap:=by simpa using g
  subst q;simp only[if_true] at w;subst w;simp only[Prod.mk.injEq] at k;obtain⟨rfl,_⟩:=k;obtain⟨y,c⟩:=choose_lt (α:=Sl×List (Mon×ByteArray)) (p:=λ i y=>V i=y.1.v/\Af3 ⟨W,λ _=>False⟩ y.1 y.2/\y.2.length<=Rows.uptoBulk (D i)/\∀t∈y.2,t.2.size<=Rows.uptoBulk (D i)) λ i hi=>by
   obtain⟨s,L,h1,A,u,B⟩:=Dt5 (z i hi).2;exact⟨(s,L),h1,A,u,B⟩
  have C:=Ig6 (V:=V) (λ j b=>(z j (by omega)).1) o hm (λ j b=>by rw[(c j (by omega)).1];rfl);have E: ∀i,i<len->Rows.uptoBulk (D i)<=Rows.uptoBulkAll ((List.range len).map D):=λ i hi=>Eo6 (List.mem_map.2 ⟨i,List.mem_range.2 hi,rfl⟩);have hlen:=Dj1 ((List.range len).map D);simp only[List.length_map,List.length_range] at hlen;refine⟨⟨some a,len,m⟩,(List.range len).map λ i=>(y i).2,rfl,⟨(List.range len).map λ i=>(y i).1,?_,by simp,λ i hi J=>?_⟩,?_,λ l o=>?_⟩
  ·have e:(((List.range len).map λ i=>(y i).1).map λ x=>[x.v])=(List.range len).map λ j=>[V j]:=by
    rw[List.map_map];apply List.map_congr_left;intro j b;have:=(c j (by have:=List.mem_range.1 b;omega)).1;simp[this]
   rw[e];exact C
  ·have N:i<len:=by simpa using hi
   simp only[List.getElem_map,List.getElem_range];exact(c i (by omega)).2.1
  ·simp only[List.length_map,List.length_range,Rows.uptoBulk]
   omega
  ·obtain⟨j,b,rfl⟩:=List.mem_map.1 o
   have F:=List.mem_range.1 b;have h1:=E j F;obtain⟨_,_,A,u⟩:=c j (by omega);simp only[Rows.uptoBulk];refine⟨by omega,λ t G=>?_⟩;have:=u t G;omega
end Go.Proofs.YtkgeopnakkcdoaaGreatDoor
namespace Go.Proofs.YtkgeopnakkcdoaaGreatDoor
open Go Go.SX Go.ChangeShapes Go.WideShapes Go.ChangeAt Go.RowKit Go.Deep
instance:Inhabited (Sl×List ByteArray):=⟨(⟨none,0,0⟩,[])⟩
theorem Il1 {H:Type}{W:World}{fuel:Nat}{p:List MemPlace}{enc:TypeId×Value->H}{v:Value}{d:DataW H}(h:DataW.trod enc Tryz.prog W 0 (λ _=>true) true fuel 76 [v]=some (d,p)):
  ∃y:Sl×List ByteArray,v=y.1.v/\Bf9 ⟨W,λ _=>False⟩ 1 y.1 (Gw6 y.2)/\y.2.length<=Rows.uptoBulk d/\∀t∈y.2,t.size<=Rows.uptoBulk d:=by
 rcases open_strs Tryz.underlying76 Tryz.underlying9 Ct5 h with⟨c,g⟩ | ⟨a,len,cap,m,b,c,_,q,hm,n,g,u⟩
 ·have k:v = .slice none 0 0:=by simpa using c
  subst k;exact⟨(⟨none,0,0⟩,[]),rfl,⟨0,rfl,Nat.le_refl _,Nat.zero_le _,λ x h=>by simp[Gw6] at h,.inl rfl⟩,Nat.zero_le _,λ t h=>by simp at h⟩
 ·have k:v = .slice (some a) len cap:=by simpa using c
  subst k;simp only[if_true] at n;subst n;simp only[Prod.mk.injEq] at g;obtain⟨rfl,_⟩:=g;have w:=Ig6 (V:=λ j=>.string (b j)) (λ j o=>(u j (by omega)).1) q hm (λ _ _=>rfl);refine⟨(⟨some a,len,m⟩,(List.range len).map b),rfl,?_,?_,λ t z=>?_⟩
  ·have e:Gw6 ((List.range len).map b)=(List.range len).map λ j=>[Value.string (b j)]:=by simp[Gw6]
   rw[e];exact w
  ·have:=Dj1 ((List.range len).map λ i=>(DataW.lit (.string (b i).data.toList):DataW H))
   simp only[List.length_map,List.length_range] at this;simp only[List.length_map,List.length_range,Rows.uptoBulk];omega
  ·obtain⟨j,o,rfl⟩:=List.mem_map.1 z
   have:=Eo6 (List.mem_map.2 ⟨j,o,rfl⟩:(DataW.lit (.string (b j).data.toList):DataW H)∈(List.range len).map λ i=>(DataW.lit (.string (b i).data.toList):DataW H));have e:(b j).data.toList.length=(b j).size:=by rw[Array.length_toList];rfl
   simp only[Rows.uptoBulk] at this⊢;omega
end Go.Proofs.YtkgeopnakkcdoaaGreatDoor
