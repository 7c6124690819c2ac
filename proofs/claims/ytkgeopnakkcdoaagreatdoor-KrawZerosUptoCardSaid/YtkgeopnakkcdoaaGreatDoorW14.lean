import Derived.Test.YtkgeopnakkcdoaaGreatDoorW13
import Derived.Test.YtkgeopnakkcdoaaGreatDoorW7
import Derived.Test.YtkgeopnakkcdoaaGreatDoorW9
import Derived.Test.YtkgeopnakkcdoaaGreatDoorW11
import Derived.Test.YtkgeopnakkcdoaaGreatDoorR10
import Derived.Test.YtkgeopnakkcdoaaGreatDoorW10
import Derived.Test.YtkgeopnakkcdoaaGreatDoorLib4
import Derived.Test.YtkgeopnakkcdoaaGreatDoorLib2
set_option linter.unusedVariables false
set_option linter.unusedSimpArgs false
set_option maxRecDepth 100000
namespace Go.Proofs.YtkgeopnakkcdoaaGreatDoor
open Go Go.SX
def b9a:ByteArray:=⟨⟨[48]⟩⟩
def b9b:ByteArray:=⟨⟨[49]⟩⟩
theorem Er6:Ab7 b9a=some 0:=by
 have h1:Ak5 b9a=none:=by decide
 have a:Ac3 b9a=some 0:=by decide
 unfold Ab7;rw[h1,a];rfl
theorem Ed8:Ab7 b9b=some 1:=by
 have h1:Ak5 b9b=none:=by decide
 have a:Ac3 b9b=some 1:=by decide
 unfold Ab7;rw[h1,a];rfl
theorem Fn4:spP b9a b9b=some (0,1):=by
 unfold spP;rw[Er6,Ed8];rfl
def pr9:List (ByteArray×ByteArray):=[(b9a,b9b)]
theorem Ev3:Br9 pr9:=⟨by decide,by decide,λ t a=>by
 rw[List.mem_singleton.1 a];exact⟨(0,1),Fn4,by decide +kernel,by decide +kernel,by decide +kernel⟩⟩
def Jq7 (x:Iv) (i:Int):Rat:=x.1+(x.2-x.1)*((i:Rat)/((8:Int):Rat))
def Hb5 (W0:PW) (K:Nat) (bs:List Iv) (L:List PL) (W:PW):Prop:=match L with
 | [.row l,.val (.int .i64 i),.cells c]=>∃(j:Nat) (u:List Rat),i=(j:Int)/\j<=bs.length/\Ext W0 W/\u.length=j/\An5 (QtV 257 W) l u/\(∀q∈u,Sz K q)/\NmV 257 W c (λ k=>u.getD k 0)/\∀k,k<j->inI (Bm3 bs k) (u.getD k 0)
 | _=>False
theorem Gp7 {u:List Rat}{q:Rat}(k:Nat):(u ++ [q]).getD k 0=if k=u.length then q else u.getD k 0:=by
 rw[List.getD_eq_getElem?_getD,List.getD_eq_getElem?_getD,List.getElem?_append]
 by_cases h:k<u.length
 ·rw[if_pos h,if_neg (by omega)]
 ·rw[if_neg h]
  by_cases e:k=u.length
  ·rw[if_pos e,e,Nat.sub_self];rfl
  ·rw[if_neg e,List.getElem?_eq_none (by simp;omega),List.getElem?_eq_none (by omega)]
def cnE (n:Nat) (L:List PL) (_:PW):Nat:=match L with
 | [_,.val (.int .i64 z),_]=>n-z.toNat
 | _=>0
end Go.Proofs.YtkgeopnakkcdoaaGreatDoor
namespace Go.Proofs.YtkgeopnakkcdoaaGreatDoor
open Go Go.SX
variable {M:Nat->Prop}{W W0:PW}{p:List Tm}
def bK:ByteArray:=⟨⟨[49,47,51]⟩⟩
theorem Mq9:Ab7 bK=some (1/3):=by decide +kernel
def cK:List Tm:=[(⟨0,0,0⟩,1/3)]
def aK:List Tm:=[(⟨0,0,0⟩,-1/3),(⟨1,0,0⟩,1)]
theorem Ms3:Ag2 [((⟨0,0,0⟩:Mon),(1/3:Rat))]=cK:=by decide +kernel
theorem Mt5:Ag2 (Dc6 0 ++ pmap cK (-1))=aK:=by decide +kernel
theorem kOK (p:List Tm)(h:An3 p [(0,1)]):Mn5 [p] 1 (λ _=>1) [(0,1)]:=⟨⟨λ q a=>by rw[List.mem_singleton.1 a];exact h,rfl,h.1⟩,⟨λ _ _=>rfl,by decide,by decide,by decide,by decide⟩,rfl,rfl⟩
theorem Ms8:Mn5 [aK] 1 (λ _=>1) [(0,1)]/\Mq8 [aK] Ms0 [(0,1)]:=⟨kOK _ (by decide +kernel),by decide +kernel⟩
theorem Ms1:¬Mq8 [cK] Ms0 [(0,1)]:=by decide +kernel
theorem Mn3:Sz 1 (1/3):=⟨Bc6 (by decide +kernel),Bc6 (by decide +kernel)⟩
theorem Mq3:Sz 1 (-1/3):=⟨Bc6 (by decide +kernel),Bc6 (by decide +kernel)⟩
theorem Ms4:Bd 7 cK:=(Cq4 Mn3).mono (by decide)
theorem Mt2:Bd 7 aK:=by
 refine(Bd.Co7 (k:=1) ?_).mono (by decide);intro t a;simp only[aK,List.mem_cons,List.not_mem_nil,or_false] at a;rcases a with rfl | rfl
 ·exact Mq3
 ·exact Fl0
theorem Mt1:POk cK:=λ t a=>by
 rw[List.mem_singleton.1 a];decide
theorem Mt4:POk aK:=λ t a=>by
 simp only[aK,List.mem_cons,List.not_mem_nil,or_false] at a;rcases a with rfl | rfl<;>decide
theorem Mq4 (a:Bd 7 p)(c:p.length<=30)(d:POk p):KrN 7 1 1 [p] 1 (λ _=>1) Ms0 [(0,1)] where
 p q e:=by rw[List.mem_singleton.1 e];exact⟨a,c,d⟩
 n:=by show 1<=1000;decide
 k1:=by decide
 s x f:=by rw[List.mem_singleton.1 f];exact⟨Sz.zero (Nat.le_refl 1),Fl0⟩
 m1:=by decide
 b:=by decide
 y i j _ _:=Mn7 i j
 l1:=by decide
 r1:=by decide
theorem Mr3 {s:Sl}{a:Sl}{t:TypeId}(hO:Go.SX.Own W t 1 s [[a.v]])(h:Ab0 257 169 W a p):Ps W s [p]:=⟨[[a.v]],⟨_,hO.row⟩,⟨a,rfl,h⟩,trivial⟩
theorem Mm6 (y:Ac6 W0):
  Aa0 Tryz.prog 12 [] W0 M λ v W'=>v = .bool true/\True:=by
 apply Mk7;intro s1 V z A _;refine Cg0 (Lt:=pr9) (y.ext z) ⟨_,A.row⟩ (by decide) (by decide) λ B i6 bs X Y ⟨q1,C,_,D⟩=>⟨B,i6,rfl,?_⟩;have hi:=D Ev3;obtain⟨k1,k2,E⟩:=C hi;have F:bs = [(0,1)]:=by
  refine Eu1 k2 rfl E λ i h1 Z=>?_;have:i=0:=by have:i<1:=h1;omega
  subst this;exact Fn4
 subst F;refine As8 (a:=bK) (by decide) λ j k l G H b=>⟨j,k,l,_,rfl,?_⟩;rw[Mq9] at b⊢;have b:Ab3 257 G j k l (1/3):=b;refine Cr4 (i:=0) λ I aa d J=>⟨I,rfl,?_⟩;refine Gf5 (b.ext d) Mn3 (by omega) λ K ab f m=>⟨K,rfl,?_⟩;rw[Ms3] at m;refine Db2 (J.ext f) m En2 Ms4 (by omega) (by decide) (by decide) λ L o q r=>⟨L,rfl,?_⟩;rw[Mt5] at r;refine⟨λ _=>⟨λ _=>Fc8 ?_ 1,λ e=>absurd rfl e⟩,λ e=>absurd hi e⟩;refine Mj8 (n:=1) (Nat.le_refl _:Gf6 o.w.heap.size o) (by decide) (by decide) λ N ac g O=>⟨N,rfl,λ ad ae c P _=>?_⟩;have s:=q1.ext (H.trans (d.trans (f.trans (q.trans (g.trans c)))));refine Mj3 (Mr3 P (r.ext (g.trans c))) (O.mat.ext c) s (Mq4 Mt2 (by decide) Mt4) λ af t _=>⟨_,rfl,λ _=>?_,λ e=>absurd Ms8 (of_decide_eq_false e)⟩;refine Gf5 (b.ext (d.trans (f.trans (q.trans (g.trans (c.trans t)))))) Mn3 (by omega) λ Q u R w=>⟨Q,rfl,Fc8 ?_ 1⟩;rw[Ms3] at w;refine Mj8 (n:=1) (Nat.le_refl _:Gf6 u.w.heap.size u) (by decide) (by decide) λ S ag x T=>⟨S,rfl,λ ah ai h U _=>?_⟩;refine Mj3 (Mr3 U (w.ext (x.trans h))) (T.mat.ext h) (s.ext (t.trans (R.trans (x.trans h)))) (Mq4 Ms4 (by decide) Mt1) λ aj ak _=>⟨_,rfl,λ W _=>⟨?_,trivial⟩⟩;rw[decide_eq_false λ e=>Ms1 e.2];rfl
theorem Mj4 {K:Value->PW->Prop}(b:Ac6 W)(c: ∀(W':PW),Ext W W'->(True)->K (.bool true) W'):
  Aa1 Tryz.prog W0 M 12 [] W K:=
 Mi4 (λ _ a=>Mm6 (b.ext a)) fun | _,W',a,⟨rfl,h⟩=>c W' a h
end Go.Proofs.YtkgeopnakkcdoaaGreatDoor
namespace Go.Proofs.YtkgeopnakkcdoaaGreatDoor
open Go Go.SX
end Go.Proofs.YtkgeopnakkcdoaaGreatDoor
namespace Go.Proofs.YtkgeopnakkcdoaaGreatDoor
open Go Go.SX
end Go.Proofs.YtkgeopnakkcdoaaGreatDoor
namespace Go.Proofs.YtkgeopnakkcdoaaGreatDoor
open Go Go.SX
end Go.Proofs.YtkgeopnakkcdoaaGreatDoor
namespace Go.Proofs.YtkgeopnakkcdoaaGreatDoor
open Go Go.SX
def g0:ByteArray:=⟨⟨[48]⟩⟩
def g1:ByteArray:=⟨⟨[49]⟩⟩
end Go.Proofs.YtkgeopnakkcdoaaGreatDoor
namespace Go.Proofs.YtkgeopnakkcdoaaGreatDoor
open Go Go.SX
theorem Ms9 {W:PW}{s:Sl}{f:List (List Tm)}(h:Ps W s f): ∀q∈f,POk q:=λ q a=>by
 obtain⟨i,hi,rfl⟩:=List.mem_iff_getElem.1 a;obtain⟨x,_,b⟩:=h.at hi;exact Ab0.pok b
end Go.Proofs.YtkgeopnakkcdoaaGreatDoor
