import Derived.Test.YtkgeopnakkcdoaaGreatDoorW11
import Derived.Test.YtkgeopnakkcdoaaGreatDoorLib4
import Derived.Test.YtkgeopnakkcdoaaGreatDoorW10
import Derived.Test.YtkgeopnakkcdoaaGreatDoorW6
import Derived.Test.YtkgeopnakkcdoaaGreatDoorW5
import Derived.Test.YtkgeopnakkcdoaaGreatDoorR4
import Derived.Test.YtkgeopnakkcdoaaGreatDoorLib3
import Derived.Test.YtkgeopnakkcdoaaGreatDoorLib2
import Derived.Test.YtkgeopnakkcdoaaGreatDoorR5
import Derived.Test.YtkgeopnakkcdoaaGreatDoorW9
import Derived.Test.YtkgeopnakkcdoaaGreatDoorW7
import Derived.Test.YtkgeopnakkcdoaaGreatDoorR7
import Derived.Test.YtkgeopnakkcdoaaGreatDoorW8
set_option linter.unusedVariables false
set_option linter.unusedSimpArgs false
set_option maxRecDepth 100000
namespace Go.Proofs.YtkgeopnakkcdoaaGreatDoor
open Go Go.SX
variable {K:Value->PW->Prop}{L Lt:List (ByteArray×ByteArray)}{M:Nat->Prop}{W W0:PW}{a b:ByteArray}{s:Sl}
theorem Fi3 {a b:ByteArray}:IvS 4000 ((spP a b).getD (0,0)):=by
 cases e:spP a b with
 | none=>exact⟨Sz.zero (by omega),Sz.zero (by omega)⟩
 | some x=>
  obtain⟨c,d,f⟩:=Dp3 e;exact⟨(Aw6 c).1,(Aw6 d).1⟩
theorem Eb3 (m:Ac6 W0)(C:a.size<=1099511627776)(D:b.size<=1099511627776):
  Aa0 Tryz.prog 133 [.agg ⟨[.string a,.string b]⟩] W0 M λ v W'=>∃(l:List Value),∃(i:Int),∃(x:Iv),v = .tuple ⟨[.agg ⟨l⟩,.int .i64 i]⟩/\SpV 257 W' l x/\(i=0->spP a b=some x/\x.1<x.2)/\(∀y,spP a b=some y->y.1<y.2->y.1.den=1->y.2.den=1->i=0):=by
 apply Cq0;refine Az3 C D λ l e Y n ⟨f,he⟩=>?_;obtain⟨s3,o,p,q,r,t,rfl,q1,g⟩:=f;have j:=@Fi3 a b;refine⟨s3,o,p,q,r,t,e,rfl,?_⟩;refine Bx3 (m.ext n) q1 j.1 λ F G i14 H Z k u=>⟨F,G,i14,H,rfl,?_⟩;refine Bx3 (m.ext (n.trans k)) (g.ext k) j.2 λ I J i20 N aa O w=>⟨I,J,i20,N,rfl,λ z P _=>⟨_,e,(0,0),rfl,SpV.zero P,λ h=>absurd h z,λ y c _ _ _=>absurd (he.2 (by rw[c];rfl)) z⟩,λ Q=>?_⟩;have E:=k.trans O;refine Aj2 (q1.ext E) (g.ext E) j.1 j.2 (by omega) (by omega) λ ab R _=>⟨_,rfl,λ d S _=>⟨_,1,(0,0),rfl,SpV.zero S,λ h=>by omega,λ y c T _ _=>by rw[c] at d;exact absurd (El9.1 d) (Rat.not_le.2 T)⟩,λ d=>⟨λ h1 U _=>⟨_,2,(0,0),rfl,SpV.zero U,λ h=>by omega,λ y c _ d1 _=>by rw[c] at u;rw[u d1] at h1;exact absurd h1 (by decide)⟩,λ _=>⟨λ f V _=>⟨_,2,(0,0),rfl,SpV.zero V,λ h=>by omega,λ y c _ _ d2=>by rw[c] at w;rw[w d2] at f;exact absurd f (by decide)⟩,λ _ ac X=>?_⟩⟩⟩;obtain⟨x,A⟩:=Option.isSome_iff_exists.1 (he.1 (Decidable.not_not.1 Q));rw[A] at q1 g d;have d:¬0<=Co4 x.1 x.2:=d;have B:=E.trans (R.trans X);exact⟨_,0,x,rfl,⟨s3,o,p,q,r,t,rfl,q1.ext B,g.ext B⟩,λ _=>⟨A,At6.1 (by omega)⟩,λ _ _ _ _ _=>rfl⟩
theorem Cq6 (d:Ac6 W)(e:a.size<=1099511627776)(f:b.size<=1099511627776)(g: ∀(l:List Value) (i:Int) (x:Iv) (W':PW),Ext W W'->(SpV 257 W' l x/\(i=0->spP a b=some x/\x.1<x.2)/\(∀y,spP a b=some y->y.1<y.2->y.1.den=1->y.2.den=1->i=0))->K (.tuple ⟨[.agg ⟨l⟩,.int .i64 i]⟩) W'):
  Aa1 Tryz.prog W0 M 133 [.agg ⟨[.string a,.string b]⟩] W K:=
 Mi4 (λ _ c=>Eb3 (d.ext c) e f) fun | _,W',c,⟨l,i,x,rfl,h⟩=>g l i x W' c h
def bxI (W0:PW) (Lt:List (ByteArray×ByteArray)) (L:List PL) (W:PW):Prop:=match L with
 | [.row l,.val (.int .i64 z)]=>∃(j:Nat) (m:List Iv),z=(j:Int)/\j<=Lt.length/\Ext W0 W/\m.length=j/\An5 (SpV 257 W) l m/\(∀i (hi:i<m.length) (c:i<Lt.length),spP Lt[i].1 Lt[i].2=some m[i])/\∀x∈m,x.1<x.2
 | _=>False
def cnD (n:Nat) (L:List PL) (_:PW):Nat:=match L with
 | [_,.val (.int .i64 z)]=>n-z.toNat
 | _=>0
theorem Bs7.ext {W':PW}(h:Bs7 W s L)(c:Ext W W'):Bs7 W' s L:=let⟨ty,h⟩:=h;⟨ty,h.ext c⟩
theorem Bs7.n (h:Bs7 W s L):s.n=L.length:=let⟨ty,h⟩:=h;by have:=h.1;rwa [List.length_map] at this
theorem Bs7.inB {i:Int}(h:Bs7 W s L)(c:0<=i)(h1:i<(L.length:Int)):SX.inB s i:=let⟨ty,h⟩:=h;Row.inB h c (by rw[List.length_map];exact h1)
theorem Bs7.part {m:List Value}(h:Bs7 W s L){i:Nat}(hi:i<L.length)(off:Nat)(hm:((prc L[i]).drop off).take m.length=m):Aa7 W s 2 i off m:=let⟨ty,h⟩:=h;Row.part h (x:=prc L[i]) (by rw[List.getElem?_map,List.getElem?_eq_getElem hi];rfl) off hm
theorem Fc1 {x:Iv}{m:List Iv}(h: ∀i (hi:i<m.length) (c:i<Lt.length),spP Lt[i].1 Lt[i].2=some m[i])(f:m.length<Lt.length)(d:spP Lt[m.length].1 Lt[m.length].2=some x): ∀i (hi:i<(m ++ [x]).length) (c:i<Lt.length),spP Lt[i].1 Lt[i].2=some (m ++ [x])[i]:=λ i hi c=>by
 by_cases e:i<m.length
 ·rw[List.getElem_append_left e]
  exact h i e c
 ·have:i=m.length:=by simp at hi;omega
  subst this;rw[List.getElem_concat_length rfl];exact d
def Br9 (Lt:List (ByteArray×ByteArray)):Prop:=1<=Lt.length/\Lt.length<=3/\∀t∈Lt,∃y,spP t.1 t.2=some y/\y.1<y.2/\y.1.den=1/\y.2.den=1
theorem Dd2 (G:Ac6 W0)(h:Bs7 W0 s Lt)(hl:Lt.length<=1099511627776)(H: ∀t∈Lt,t.1.size<=1099511627776/\t.2.size<=1099511627776):
  Aa0 Tryz.prog 50 [s.v] W0 M λ v W'=>∃(s':Sl),∃(i:Int),∃(bs:List Iv),v = .tuple ⟨[Sl.v s',.int .i64 i]⟩/\Bc3 257 W' s' bs/\(i=0->Cn7 bs/\bs.length=Lt.length/\∀i (hi:i<bs.length) (I:i<Lt.length),spP Lt[i].1 Lt[i].2=some bs[i])/\(i≠0->bs = [])/\(Br9 Lt->i=0):=by
 apply Ci3;have hn:=h.n;have bad: ∀(c:Int),c≠0->¬Br9 Lt->∀W':PW,∃(s':Sl) (i:Int) (bs:List Iv),(Value.tuple ⟨[.slice none 0 0,.int .i64 c]⟩) = .tuple ⟨[Sl.v s',.int .i64 i]⟩/\Bc3 257 W' s' bs/\(i=0->Cn7 bs/\bs.length=Lt.length/\∀i (hi:i<bs.length) (I:i<Lt.length),spP Lt[i].1 Lt[i].2=some bs[i])/\(i≠0->bs = [])/\(Br9 Lt->i=0):=
  λ c J N W'=>⟨⟨none,0,0⟩,c,[],rfl,Dr1.nil W',λ e=>absurd e J,λ _=>rfl,λ g=>absurd g N⟩
 refine⟨λ h O _=>bad 1 (by omega) (λ g=>by have:=g.1;omega) O,λ h1=>⟨λ h P _=>bad 1 (by omega) (λ g=>by have:=g.2.1;omega) P,λ h3=>?_⟩⟩;refine⟨bxI W0 Lt,cnD Lt.length,⟨0,[],rfl,Nat.zero_le _,Ext.refl _,rfl,trivial,λ i hi=>by simp at hi,λ x k=>(by cases k)⟩,?_⟩;rintro Q i6 W7 ⟨j,m,rfl,hj,n,R,o,p,q⟩;have al:=o.len;refine⟨λ am=>?_,λ an S ao T U _ ap r=>⟨S,0,m,rfl,⟨Q,⟨_,U.row.ext r⟩,o.mono λ _ _ h=>h.ext (T.trans r)⟩,λ _=>⟨⟨by omega,q⟩,by omega,p⟩,λ e=>absurd rfl e,λ _=>rfl⟩⟩;have f:j<Lt.length:=by omega
 have u:=h.ext n;obtain⟨V,z2⟩:=H _ (List.getElem_mem f);refine⟨u.inB (by omega) (by omega),Lt[j].1,Lt[j].2,u.part f 0 rfl,?_⟩;refine Cq6 (G.ext n) V z2 λ l e x aq w ⟨k,he,X⟩=>?_;obtain⟨z,A,B,C,D,E,rfl,q1,Y⟩:=k;refine⟨z,A,B,C,D,E,e,rfl,λ F Z _=>bad e F (λ g=>by obtain⟨y,y1,y2,y3,y4⟩:=g.2.2 _ (List.getElem_mem f);exact F (X y y1 y2 y3 y4)) Z,λ h0=>?_⟩;obtain⟨k1,k2⟩:=he (Decidable.not_not.1 h0);subst R;refine⟨by simp only[List.length_cons,List.length_nil];omega,by unfold I64;omega,⟨m.length+1,m ++ [x],by push_cast;rfl,by omega,n.trans w,by simp,(o.mono λ _ _ h=>h.ext w).append ⟨⟨z,A,B,C,D,E,rfl,q1,Y⟩,trivial⟩,Fc1 p f k1,λ y d=>?_⟩,?_⟩
 ·rcases List.mem_append.1 d with d | d
  ·exact q y d
  ·rw[List.mem_singleton.1 d];exact k2
 ·show Lt.length-Int.toNat ((m.length:Int)+1)<Lt.length-Int.toNat (m.length:Int)
  omega
theorem Cg0 (d:Ac6 W)(h:Bs7 W s Lt)(e:Lt.length<=1099511627776)(f: ∀t∈Lt,t.1.size<=1099511627776/\t.2.size<=1099511627776)(g: ∀(s':Sl) (i:Int) (bs:List Iv) (W':PW),Ext W W'->(Bc3 257 W' s' bs/\(i=0->Cn7 bs/\bs.length=Lt.length/\∀i (hi:i<bs.length) (j:i<Lt.length),spP Lt[i].1 Lt[i].2=some bs[i])/\(i≠0->bs = [])/\(Br9 Lt->i=0))->K (.tuple ⟨[Sl.v s',.int .i64 i]⟩) W'):
  Aa1 Tryz.prog W0 M 50 [s.v] W K:=
 Mi4 (λ _ c=>Dd2 (d.ext c) (h.ext c) e f) fun | _,W',c,⟨s',i,bs,rfl,h⟩=>g s' i bs W' c h
theorem Eu1 {bs:List Iv}{c:List Iv}(h:bs.length=Lt.length)(f:c.length=Lt.length)(k: ∀i (hi:i<bs.length) (d:i<Lt.length),spP Lt[i].1 Lt[i].2=some bs[i])(k': ∀i (hi:i<c.length) (d:i<Lt.length),spP Lt[i].1 Lt[i].2=some c[i]):bs=c:=by
 refine List.ext_getElem (by omega) λ i h1 e=>?_;have a:=k i h1 (by omega);rw[k' i e (by omega)] at a;exact(Option.some.inj a).symm
end Go.Proofs.YtkgeopnakkcdoaaGreatDoor
namespace Go.Proofs.YtkgeopnakkcdoaaGreatDoor
open Go Go.SX
end Go.Proofs.YtkgeopnakkcdoaaGreatDoor
namespace Go.Proofs.YtkgeopnakkcdoaaGreatDoor
open Go Go.SX
end Go.Proofs.YtkgeopnakkcdoaaGreatDoor
namespace Go.Proofs.YtkgeopnakkcdoaaGreatDoor
open Go Go.SX
end Go.Proofs.YtkgeopnakkcdoaaGreatDoor
namespace Go.Proofs.YtkgeopnakkcdoaaGreatDoor
open Go Go.SX
end Go.Proofs.YtkgeopnakkcdoaaGreatDoor
namespace Go.Proofs.YtkgeopnakkcdoaaGreatDoor
open Go Go.SX
end Go.Proofs.YtkgeopnakkcdoaaGreatDoor
namespace Go.Proofs.YtkgeopnakkcdoaaGreatDoor
open Go Go.SX
end Go.Proofs.YtkgeopnakkcdoaaGreatDoor
namespace Go.Proofs.YtkgeopnakkcdoaaGreatDoor
open Go Go.SX
def b9a:ByteArray:=⟨⟨[48]⟩⟩
def b9b:ByteArray:=⟨⟨[49]⟩⟩
theorem Er6:Ab7 b9a=some 0:=by
 have h1:Ak5 b9a=none:=by decide
 have c:Ac3 b9a=some 0:=by decide
 unfold Ab7;rw[h1,c];rfl
theorem Ed8:Ab7 b9b=some 1:=by
 have h1:Ak5 b9b=none:=by decide
 have c:Ac3 b9b=some 1:=by decide
 unfold Ab7;rw[h1,c];rfl
theorem Fn4:spP b9a b9b=some (0,1):=by
 unfold spP;rw[Er6,Ed8];rfl
def pr9:List (ByteArray×ByteArray):=[(b9a,b9b)]
theorem Ev3:Br9 pr9:=⟨by decide,by decide,λ t c=>by
 rw[List.mem_singleton.1 c];exact⟨(0,1),Fn4,by decide +kernel,by decide +kernel,by decide +kernel⟩⟩
end Go.Proofs.YtkgeopnakkcdoaaGreatDoor
