import Derived.Test.YtkgeopnakkcdoaaGreatDoorW11
import Derived.Test.YtkgeopnakkcdoaaGreatDoorLib4
import Derived.Test.YtkgeopnakkcdoaaGreatDoorW10
import Derived.Test.YtkgeopnakkcdoaaGreatDoorW6
import Derived.Test.YtkgeopnakkcdoaaGreatDoorW5
import Derived.Test.YtkgeopnakkcdoaaGreatDoorR4
import Derived.Test.YtkgeopnakkcdoaaGreatDoorLib3
import Derived.Test.YtkgeopnakkcdoaaGreatDoorLib2
import Derived.Test.YtkgeopnakkcdoaaGreatDoorR5
import Derived.Test.YtkgeopnakkcdoaaGreatDoorW9
import Derived.Test.YtkgeopnakkcdoaaGreatDoorW7
import Derived.Test.YtkgeopnakkcdoaaGreatDoorR7
import Derived.Test.YtkgeopnakkcdoaaGreatDoorW8
set_option linter.unusedVariables false
set_option linter.unusedSimpArgs false
set_option maxRecDepth 100000
namespace Go.Proofs.YtkgeopnakkcdoaaGreatDoor
open Go Go.SX
variable {K:Value->PW->Prop}{L Lt:List (ByteArray×ByteArray)}{M:Nat->Prop}{W W0:PW}{a b:ByteArray}{bs:List Iv}{q:Rat}{s t:Sl}{x:Nat}
theorem Fi3 {a b:ByteArray}:IvS 4000 ((spP a b).getD (0,0)):=by
 cases e:spP a b with
 | none=>exact⟨Sz.zero (by omega),Sz.zero (by omega)⟩
 | some x=>
  obtain⟨c,d,f⟩:=Dp3 e;exact⟨(Aw6 c).1,(Aw6 d).1⟩
theorem Eb3 (m:Ac6 W0)(F:a.size<=1099511627776)(G:b.size<=1099511627776):
  Aa0 Tryz.prog 133 [.agg ⟨[.string a,.string b]⟩] W0 M λ v W'=>∃(l:List Value),∃(i:Int),∃(x:Iv),v = .tuple ⟨[.agg ⟨l⟩,.int .i64 i]⟩/\SpV 257 W' l x/\(i=0->spP a b=some x/\x.1<x.2)/\(∀y,spP a b=some y->y.1<y.2->y.1.den=1->y.2.den=1->i=0):=by
 apply Cq0;refine Az3 F G λ l e W2 n ⟨f,he⟩=>?_;obtain⟨s3,o,p,r,u,w,rfl,q1,g⟩:=f;have j:=@Fi3 a b;refine⟨s3,o,p,r,u,w,e,rfl,?_⟩;refine Bx3 (m.ext n) q1 j.1 λ H I i14 J ac k z=>⟨H,I,i14,J,rfl,?_⟩;refine Bx3 (m.ext (n.trans k)) (g.ext k) j.2 λ N O i20 P ad Q A=>⟨N,O,i20,P,rfl,λ B R _=>⟨_,e,(0,0),rfl,SpV.zero R,λ h=>absurd h B,λ y c _ _ _=>absurd (he.2 (by rw[c];rfl)) B⟩,λ S=>?_⟩;have E:=k.trans Q;refine Aj2 (q1.ext E) (g.ext E) j.1 j.2 (by omega) (by omega) λ ae U _=>⟨_,rfl,λ d V _=>⟨_,1,(0,0),rfl,SpV.zero V,λ h=>by omega,λ y c X _ _=>by rw[c] at d;exact absurd (El9.1 d) (Rat.not_le.2 X)⟩,λ d=>⟨λ h1 Y _=>⟨_,2,(0,0),rfl,SpV.zero Y,λ h=>by omega,λ y c _ d1 _=>by rw[c] at z;rw[z d1] at h1;exact absurd h1 (by decide)⟩,λ _=>⟨λ f Z _=>⟨_,2,(0,0),rfl,SpV.zero Z,λ h=>by omega,λ y c _ _ d2=>by rw[c] at A;rw[A d2] at f;exact absurd f (by decide)⟩,λ _ af aa=>?_⟩⟩⟩;obtain⟨x,C⟩:=Option.isSome_iff_exists.1 (he.1 (Decidable.not_not.1 S));rw[C] at q1 g d;have d:¬0<=Co4 x.1 x.2:=d;have D:=E.trans (U.trans aa);exact⟨_,0,x,rfl,⟨s3,o,p,r,u,w,rfl,q1.ext D,g.ext D⟩,λ _=>⟨C,At6.1 (by omega)⟩,λ _ _ _ _ _=>rfl⟩
theorem Cq6 (d:Ac6 W)(e:a.size<=1099511627776)(f:b.size<=1099511627776)(g: ∀(l:List Value) (i:Int) (x:Iv) (W':PW),Ext W W'->(SpV 257 W' l x/\(i=0->spP a b=some x/\x.1<x.2)/\(∀y,spP a b=some y->y.1<y.2->y.1.den=1->y.2.den=1->i=0))->K (.tuple ⟨[.agg ⟨l⟩,.int .i64 i]⟩) W'):
  Aa1 Tryz.prog W0 M 133 [.agg ⟨[.string a,.string b]⟩] W K:=
 Mi4 (λ _ c=>Eb3 (d.ext c) e f) fun | _,W',c,⟨l,i,x,rfl,h⟩=>g l i x W' c h
def bxI (W0:PW) (Lt:List (ByteArray×ByteArray)) (L:List PL) (W:PW):Prop:=match L with
 | [.row l,.val (.int .i64 z)]=>∃(j:Nat) (m:List Iv),z=(j:Int)/\j<=Lt.length/\Ext W0 W/\m.length=j/\An5 (SpV 257 W) l m/\(∀i (hi:i<m.length) (c:i<Lt.length),spP Lt[i].1 Lt[i].2=some m[i])/\∀x∈m,x.1<x.2
 | _=>False
def Gf1 (W0:PW) (Lt:List (ByteArray×ByteArray)) (L:List PL) (W:PW):Prop:=match L with
 | [.row l,.val (.int .i64 z)]=>∃(j:Nat) (m:List Iv),z=(j:Int)/\j<=Lt.length/\Ext W0 W/\m.length=j/\An5 (Ah6 257 W) l m/\(∀i (hi:i<m.length) (c:i<Lt.length),spP Lt[i].1 Lt[i].2=some m[i])
 | _=>False
def cnD (n:Nat) (L:List PL) (_:PW):Nat:=match L with
 | [_,.val (.int .i64 z)]=>n-z.toNat
 | _=>0
theorem Bs7.ext {W':PW}(h:Bs7 W s L)(c:Ext W W'):Bs7 W' s L:=let⟨ty,h⟩:=h;⟨ty,h.ext c⟩
theorem Bs7.n (h:Bs7 W s L):s.n=L.length:=let⟨ty,h⟩:=h;by have:=h.1;rwa [List.length_map] at this
theorem Bs7.inB {i:Int}(h:Bs7 W s L)(c:0<=i)(h1:i<(L.length:Int)):SX.inB s i:=let⟨ty,h⟩:=h;Row.inB h c (by rw[List.length_map];exact h1)
theorem Bs7.part {m:List Value}(h:Bs7 W s L){i:Nat}(hi:i<L.length)(off:Nat)(hm:((prc L[i]).drop off).take m.length=m):Aa7 W s 2 i off m:=let⟨ty,h⟩:=h;Row.part h (x:=prc L[i]) (by rw[List.getElem?_map,List.getElem?_eq_getElem hi];rfl) off hm
theorem Fc1 {m:List Iv}{x:Iv}(h: ∀i (hi:i<m.length) (c:i<Lt.length),spP Lt[i].1 Lt[i].2=some m[i])(f:m.length<Lt.length)(d:spP Lt[m.length].1 Lt[m.length].2=some x): ∀i (hi:i<(m ++ [x]).length) (c:i<Lt.length),spP Lt[i].1 Lt[i].2=some (m ++ [x])[i]:=λ i hi c=>by
 by_cases e:i<m.length
 ·rw[List.getElem_append_left e]
  exact h i e c
 ·have:i=m.length:=by simp at hi;omega
  subst this;rw[List.getElem_concat_length rfl];exact d
def Br9 (Lt:List (ByteArray×ByteArray)):Prop:=1<=Lt.length/\Lt.length<=3/\∀t∈Lt,∃y,spP t.1 t.2=some y/\y.1<y.2/\y.1.den=1/\y.2.den=1
theorem Dd2 (H:Ac6 W0)(h:Bs7 W0 s Lt)(hl:Lt.length<=1099511627776)(I: ∀t∈Lt,t.1.size<=1099511627776/\t.2.size<=1099511627776):
  Aa0 Tryz.prog 50 [s.v] W0 M λ v W'=>∃(s':Sl),∃(i:Int),∃(bs:List Iv),v = .tuple ⟨[Sl.v s',.int .i64 i]⟩/\Bc3 257 W' s' bs/\(i=0->Cn7 bs/\bs.length=Lt.length/\∀i (hi:i<bs.length) (J:i<Lt.length),spP Lt[i].1 Lt[i].2=some bs[i])/\(i≠0->bs = [])/\(Br9 Lt->i=0):=by
 apply Ci3;have hn:=h.n;have bad: ∀(c:Int),c≠0->¬Br9 Lt->∀W':PW,∃(s':Sl) (i:Int) (bs:List Iv),(Value.tuple ⟨[.slice none 0 0,.int .i64 c]⟩) = .tuple ⟨[Sl.v s',.int .i64 i]⟩/\Bc3 257 W' s' bs/\(i=0->Cn7 bs/\bs.length=Lt.length/\∀i (hi:i<bs.length) (J:i<Lt.length),spP Lt[i].1 Lt[i].2=some bs[i])/\(i≠0->bs = [])/\(Br9 Lt->i=0):=
  λ c N O W'=>⟨⟨none,0,0⟩,c,[],rfl,Dr1.nil W',λ e=>absurd e N,λ _=>rfl,λ g=>absurd g O⟩
 refine⟨λ h P _=>bad 1 (by omega) (λ g=>by have:=g.1;omega) P,λ h1=>⟨λ h Q _=>bad 1 (by omega) (λ g=>by have:=g.2.1;omega) Q,λ h3=>?_⟩⟩;refine⟨bxI W0 Lt,cnD Lt.length,⟨0,[],rfl,Nat.zero_le _,Ext.refl _,rfl,trivial,λ i hi=>by simp at hi,λ x k=>(by cases k)⟩,?_⟩;rintro R i6 W7 ⟨j,m,rfl,hj,n,S,o,p,r⟩;have an:=o.len;refine⟨λ ao=>?_,λ ap U aq V X _ ar u=>⟨U,0,m,rfl,⟨R,⟨_,X.row.ext u⟩,o.mono λ _ _ h=>h.ext (V.trans u)⟩,λ _=>⟨⟨by omega,r⟩,by omega,p⟩,λ e=>absurd rfl e,λ _=>rfl⟩⟩;have f:j<Lt.length:=by omega
 have w:=h.ext n;obtain⟨Y,z2⟩:=I _ (List.getElem_mem f);refine⟨w.inB (by omega) (by omega),Lt[j].1,Lt[j].2,w.part f 0 rfl,?_⟩;refine Cq6 (H.ext n) Y z2 λ l e x au z ⟨k,he,Z⟩=>?_;obtain⟨A,B,C,D,E,F,rfl,q1,q2⟩:=k;refine⟨A,B,C,D,E,F,e,rfl,λ G ab _=>bad e G (λ g=>by obtain⟨y,y1,y2,y3,y4⟩:=g.2.2 _ (List.getElem_mem f);exact G (Z y y1 y2 y3 y4)) ab,λ h0=>?_⟩;obtain⟨k1,k2⟩:=he (Decidable.not_not.1 h0);subst S;refine⟨by simp only[List.length_cons,List.length_nil];omega,by unfold I64;omega,⟨m.length+1,m ++ [x],by push_cast;rfl,by omega,n.trans z,by simp,(o.mono λ _ _ h=>h.ext z).append ⟨⟨A,B,C,D,E,F,rfl,q1,q2⟩,trivial⟩,Fc1 p f k1,λ y d=>?_⟩,?_⟩
 ·rcases List.mem_append.1 d with d | d
  ·exact r y d
  ·rw[List.mem_singleton.1 d];exact k2
 ·show Lt.length-Int.toNat ((m.length:Int)+1)<Lt.length-Int.toNat (m.length:Int)
  omega
theorem Cg0 (d:Ac6 W)(h:Bs7 W s Lt)(e:Lt.length<=1099511627776)(f: ∀t∈Lt,t.1.size<=1099511627776/\t.2.size<=1099511627776)(g: ∀(s':Sl) (i:Int) (bs:List Iv) (W':PW),Ext W W'->(Bc3 257 W' s' bs/\(i=0->Cn7 bs/\bs.length=Lt.length/\∀i (hi:i<bs.length) (j:i<Lt.length),spP Lt[i].1 Lt[i].2=some bs[i])/\(i≠0->bs = [])/\(Br9 Lt->i=0))->K (.tuple ⟨[Sl.v s',.int .i64 i]⟩) W'):
  Aa1 Tryz.prog W0 M 50 [s.v] W K:=
 Mi4 (λ _ c=>Dd2 (d.ext c) (h.ext c) e f) fun | _,W',c,⟨s',i,bs,rfl,h⟩=>g s' i bs W' c h
theorem Gd2 {n:Nat}(h:Aa6 257 W0 s x)(j:n<=1000000):
  Aa0 Tryz.prog 243 [s.v,.int .i64 (n:Int)] W0 M λ v W'=>∃(i:Int),v = .int .u32 i/\True:=by
 apply Ga8;have k:=h.n;have c:Int.tdiv (n:Int) 32=((n/32:Nat):Int):=rfl;have d:Int.tmod (n:Int) 32=((n%32:Nat):Int):=rfl;have e:IntKind.wrap .i64 (Int.tdiv (n:Int) 32)=((n/32:Nat):Int):=by rw[c];exact wrap_i64 (by unfold I64;omega)
 have f:IntKind.wrap .u64 (Int.tmod (n:Int) 32)=((n%32:Nat):Int):=by rw[d];exact wrap64 (by omega) (by omega)
 rw[e,f];refine⟨λ l=>by omega,λ _=>⟨by decide,λ _ m _=>⟨_,rfl,trivial⟩,λ o=>?_⟩⟩;have p:(dg x).length=nl x:=rfl;have g:n/32<(dg x).length:=by omega
 refine⟨by decide,Ad4.inB h (by omega) (by omega),_,Ad4.at h g,by decide,⟨by omega,?_⟩,λ r _=>⟨_,rfl,trivial⟩⟩;show((n%32:Nat):Int)<=32;omega
theorem Gb2 {n:Nat}(h:Aa6 257 W s x)(d:n<=1000000)(e: ∀(i:Int) (W':PW),Ext W W'->(True)->K (.int .u32 i) W'):
  Aa1 Tryz.prog W0 M 243 [s.v,.int .i64 (n:Int)] W K:=
 Mi4 (λ _ c=>Gd2 (h.ext c) d) fun | _,W',c,⟨i,rfl,h⟩=>e i W' c h
theorem Ga9 (h:Aa6 257 W0 s x)(e:nl x<=30000):
  Aa0 Tryz.prog 195 [s.v] W0 M λ v W'=>∃(i:Int),v = .int .i64 i/\(0<=i/\i<=960000):=by
 apply Fy7;have f:=h.n;refine⟨λ L W=>match L with | [.val (.int .i64 z)]=>∃j:Nat,z=(j:Int)/\j<=32*nl x/\Ext W0 W | _=>False,(λ L _=>match L with | [.val (.int .i64 z)]=>32*nl x-z.toNat | _=>0),⟨0,rfl,Nat.zero_le _,Ext.refl _⟩,?_⟩;rintro i3 g ⟨j,rfl,k,c⟩;refine⟨by unfold I64;omega,λ l=>?_,λ _ m _=>⟨_,rfl,by omega,by omega⟩⟩;refine Gb2 (h.ext c) (by omega) λ i7 n d _=>⟨i7,rfl,λ _=>⟨by unfold I64;omega,⟨j+1,by push_cast;rfl,by omega,c.trans d⟩,?_⟩,λ _ o _=>⟨_,rfl,by omega,by omega⟩⟩;show 32*nl x-Int.toNat ((j:Int)+1)<32*nl x-Int.toNat (j:Int);omega
theorem Fz6 (h:Aa6 257 W s x)(d:nl x<=30000)(e: ∀(i:Int) (W':PW),Ext W W'->((0<=i/\i<=960000))->K (.int .i64 i) W'):
  Aa1 Tryz.prog W0 M 195 [s.v] W K:=
 Mi4 (λ _ c=>Ga9 (h.ext c) d) fun | _,W',c,⟨i,rfl,h⟩=>e i W' c h
theorem Fz9 {b:Bool}(h:Ab6 257 W0 b s t q)(c:Sz 4000 q):
  Aa0 Tryz.prog 132 [.agg ⟨[.bool b,s.v,t.v]⟩] W0 M λ v W'=>∃(ok:Bool),v = .bool ok/\True:=by
 apply Fy0;have k:nl q.den<=4000:=c.2;have l:=Dm3 q.den;refine Ag4 h λ s3 m d e=>⟨s3,rfl,Fz6 e (by omega) λ i6 n f hi=>⟨i6,rfl,Ag4 (h.ext (d.trans f)) λ g o p j=>⟨g,rfl,Bj8 j (by omega) λ r u _=>⟨_,rfl,by unfold I64;omega,λ w _=>⟨_,rfl,trivial⟩⟩⟩⟩⟩
theorem Fx3 {b:Bool}(h:Ab6 257 W b s t q)(d:Sz 4000 q)(e: ∀(ok:Bool) (W':PW),Ext W W'->(True)->K (.bool ok) W'):
  Aa1 Tryz.prog W0 M 132 [.agg ⟨[.bool b,s.v,t.v]⟩] W K:=
 Mi4 (λ _ c=>Fz9 (h.ext c) d) fun | _,W',c,⟨ok,rfl,h⟩=>e ok W' c h
theorem Fy9 (h:Bs7 W0 s Lt)(hl:Lt.length<=1099511627776)(H: ∀t∈Lt,t.1.size<=1099511627776/\t.2.size<=1099511627776):
  Aa0 Tryz.prog 49 [s.v] W0 M λ v W'=>∃(s':Sl),∃(i:Int),∃(bs:List Iv),v = .tuple ⟨[Sl.v s',.int .i64 i]⟩/\Fx4 257 W' s' bs/\(i=0->bs.length=Lt.length/\1<=bs.length/\∀i (hi:i<bs.length) (I:i<Lt.length),spP Lt[i].1 Lt[i].2=some bs[i]):=by
 apply Fx6;have hn:=h.n;have bad: ∀(c:Int),c≠0->∀W':PW,∃(s':Sl) (i:Int) (bs:List Iv),(Value.tuple ⟨[.slice none 0 0,.int .i64 c]⟩) = .tuple ⟨[Sl.v s',.int .i64 i]⟩/\Fx4 257 W' s' bs/\(i=0->bs.length=Lt.length/\1<=bs.length/\∀i (hi:i<bs.length) (I:i<Lt.length),spP Lt[i].1 Lt[i].2=some bs[i]):=
  λ c J W'=>⟨⟨none,0,0⟩,c,[],rfl,Dr1.nil W',λ e=>absurd e J⟩
 refine⟨λ _ N _=>bad 1 (by omega) N,λ h1=>⟨λ _ O _=>bad 1 (by omega) O,λ h3=>?_⟩⟩;refine⟨Gf1 W0 Lt,cnD Lt.length,⟨0,[],rfl,Nat.zero_le _,Ext.refl _,rfl,trivial,λ i hi=>by simp at hi⟩,?_⟩;rintro P i6 W7 ⟨j,m,rfl,hj,p,Q,n,r⟩;have al:=n.len;refine⟨λ am=>?_,λ an R S d U _ ao u=>⟨R,0,m,rfl,⟨P,⟨_,U.row.ext u⟩,n.mono λ _ _ h=>h.ext (d.trans u)⟩,λ _=>⟨by omega,by omega,r⟩⟩⟩;have o:j<Lt.length:=by omega
 have w:=h.ext p;obtain⟨V,z2⟩:=H _ (List.getElem_mem o);refine⟨w.inB (by omega) (by omega),Lt[j].1,Lt[j].2,w.part o 0 rfl,?_⟩;refine Bh8 V z2 λ l e ap y ⟨f,he⟩=>?_;obtain⟨z,A,B,C,D,F,rfl,q1,g⟩:=f;have k:=@Fi3 Lt[j].1 Lt[j].2;refine⟨z,A,B,C,D,F,e,rfl,λ X Y _=>bad e X Y,λ Z=>?_⟩;obtain⟨x,f⟩:=Option.isSome_iff_exists.1 (he.1 (Decidable.not_not.1 Z));refine Ar1 q1 g k.1 k.2 (by omega) (by omega) λ S d _=>⟨_,rfl,λ _ aa _=>bad 1 (by omega) aa,λ _=>?_⟩;refine Fx3 (q1.ext d) k.1 λ ab aq G _=>⟨ab,rfl,λ _ ac _=>bad 2 (by omega) ac,λ _=>?_⟩;refine Fx3 (g.ext (d.trans G)) k.2 λ ad ar ae _=>⟨ad,rfl,λ _ af _=>bad 2 (by omega) af,λ _=>?_⟩;rw[f] at q1 g;have E:=d.trans (G.trans ae);subst Q;refine⟨by simp only[List.length_cons,List.length_nil];omega,by unfold I64;omega,⟨m.length+1,m ++ [x],by push_cast;rfl,by omega,p.trans (y.trans E),by simp,(n.mono λ _ _ h=>h.ext (y.trans E)).append ⟨⟨z,A,B,C,D,F,rfl,q1.ext E,g.ext E⟩,trivial⟩,Fc1 r o f⟩,?_⟩;show Lt.length-Int.toNat ((m.length:Int)+1)<Lt.length-Int.toNat (m.length:Int);omega
theorem Fx9 (h:Bs7 W s Lt)(d:Lt.length<=1099511627776)(e: ∀t∈Lt,t.1.size<=1099511627776/\t.2.size<=1099511627776)(f: ∀(s':Sl) (i:Int) (bs:List Iv) (W':PW),Ext W W'->(Fx4 257 W' s' bs/\(i=0->bs.length=Lt.length/\1<=bs.length/\∀i (hi:i<bs.length) (g:i<Lt.length),spP Lt[i].1 Lt[i].2=some bs[i]))->K (.tuple ⟨[Sl.v s',.int .i64 i]⟩) W'):
  Aa1 Tryz.prog W0 M 49 [s.v] W K:=
 Mi4 (λ _ c=>Fy9 (h.ext c) d e) fun | _,W',c,⟨s',i,bs,rfl,h⟩=>f s' i bs W' c h
theorem Ga5 {n:Int}(h:Bs7 W0 s Lt)(r:Lt.length<=1099511627776):
  Aa0 Tryz.prog 41 [s.v,.int .i64 n] W0 M λ v W'=>∃(b:Bool),v = .bool b/\(b=true->∀t∈Lt,t.1.size<=30/\t.2.size<=30):=by
 apply Fy6;have u:=h.n;have bad: ∀W':PW,∃b:Bool,(Value.bool false) = .bool b/\(b=true->∀t∈Lt,t.1.size<=30/\t.2.size<=30):=λ W'=>⟨false,rfl,λ e=>by cases e⟩;refine⟨λ _ m _=>bad m,λ _=>⟨λ L W=>match L with | [.val (.int .i64 z)]=>∃j:Nat,z=(j:Int)/\j<=Lt.length/\Ext W0 W/\∀t∈Lt.take j,t.1.size<=30/\t.2.size<=30 | _=>False,(λ L _=>match L with | [.val (.int .i64 z)]=>Lt.length-z.toNat | _=>0),⟨0,rfl,Nat.zero_le _,Ext.refl _,λ t c=>by simp at c⟩,?_⟩⟩;rintro i4 w ⟨j,rfl,y,g,k⟩;have d:=h.ext g;refine⟨λ A=>?_,λ B C _=>⟨true,rfl,λ _=>?_⟩⟩
 ·have f:j<Lt.length:=by omega
  have l:=d.inB (i:=(j:Int)) (by omega) (by omega);refine⟨l,Lt[j].1,d.part f 0 rfl,λ _ o _=>bad o,λ h1=>⟨l,Lt[j].2,d.part f 1 rfl,λ _ p _=>bad p,λ D=>⟨by unfold I64;omega,⟨j+1,by push_cast;rfl,by omega,g,λ t c=>?_⟩,?_⟩⟩⟩
  ·rw[List.take_succ_eq_append_getElem f] at c
   rcases List.mem_append.1 c with c | c
   ·exact k t c
   ·rw[List.mem_singleton.1 c];omega
  ·show Lt.length-Int.toNat ((j:Int)+1)<Lt.length-Int.toNat (j:Int)
   omega
 ·have:j=Lt.length:=by omega
  subst this
  rwa [List.take_length] at k
theorem Fy8 {n:Int}(h:Bs7 W s Lt)(d:Lt.length<=1099511627776)(e: ∀(b:Bool) (W':PW),Ext W W'->((b=true->∀t∈Lt,t.1.size<=30/\t.2.size<=30))->K (.bool b) W'):
  Aa1 Tryz.prog W0 M 41 [s.v,.int .i64 n] W K:=
 Mi4 (λ _ c=>Ga5 (h.ext c) d) fun | _,W',c,⟨b,rfl,h⟩=>e b W' c h
theorem Eu1 {c:List Iv}(h:bs.length=Lt.length)(f:c.length=Lt.length)(k: ∀i (hi:i<bs.length) (d:i<Lt.length),spP Lt[i].1 Lt[i].2=some bs[i])(k': ∀i (hi:i<c.length) (d:i<Lt.length),spP Lt[i].1 Lt[i].2=some c[i]):bs=c:=by
 refine List.ext_getElem (by omega) λ i h1 e=>?_;have a:=k i h1 (by omega);rw[k' i e (by omega)] at a;exact(Option.some.inj a).symm
theorem Gd5 (h:bs.length=Lt.length)(k: ∀i (hi:i<bs.length) (g:i<Lt.length),spP Lt[i].1 Lt[i].2=some bs[i])(c: ∀t∈Lt,t.1.size<=30/\t.2.size<=30): ∀x∈bs,IvS 4 x:=λ x d=>by
 obtain⟨i,hi,rfl⟩:=List.getElem_of_mem d;obtain⟨e,f,_⟩:=Dp3 (k i hi (by omega));have:=c _ (List.getElem_mem (l:=Lt) (n:=i) (by omega));exact⟨Ct3 e this.1,Ct3 f this.2⟩
theorem Gd4 (l:Ac6 W0)(h:Bs7 W0 s Lt)(c:Lt.length<=1099511627776)(g: ∀t∈Lt,t.1.size<=1099511627776/\t.2.size<=1099511627776):
  Aa0 Tryz.prog 10 [s.v] W0 M λ v W'=>∃(s1:Sl),∃(s2:Sl),∃(ok:Bool),v = .tuple ⟨[Sl.v s1,Sl.v s2,.bool ok]⟩/\(ok=true->∃bs:List Iv,Bc3 257 W' s1 bs/\Fx4 257 W' s2 bs/\Cn7 bs/\∀x∈bs,IvS 4 x):=by
 apply Gb5;have bad: ∀W':PW,∃(s1 s2:Sl) (ok:Bool),(Value.tuple ⟨[.slice none 0 0,.slice none 0 0,.bool false]⟩) = .tuple ⟨[Sl.v s1,Sl.v s2,.bool ok]⟩/\(ok=true->∃bs:List Iv,Bc3 257 W' s1 bs/\Fx4 257 W' s2 bs/\Cn7 bs/\∀x∈bs,IvS 4 x):=λ W'=>⟨⟨none,0,0⟩,⟨none,0,0⟩,false,rfl,λ e=>by cases e⟩;refine Fy8 h c λ m G j n=>⟨m,rfl,λ _ o _=>bad o,λ p=>?_⟩;refine Fx9 (h.ext j) c g λ d i8 H I r ⟨r1,u⟩=>⟨d,i8,rfl,λ _ w _=>bad w,λ y=>?_⟩;have E:=j.trans r;refine Cg0 (l.ext E) (h.ext E) c g λ f i13 bs J z ⟨q1,A,B,_⟩=>⟨f,i13,rfl,λ N k=>⟨f,d,_,rfl,λ C=>?_⟩⟩;obtain⟨k1,O,D⟩:=u (Decidable.not_not.1 y);have F:=q1.n;have P:=r1.n;have hlen:f.n=d.n:=by have:=of_decide_eq_true C;omega
 by_cases hi:i13=0
 ·obtain⟨m1,m2,m3⟩:=A hi
  have e:=Eu1 m2 k1 m3 D;subst e;exact⟨bs,q1.ext k,r1.ext (z.trans k),m1,Gd5 m2 m3 (n (by simpa using p))⟩
 ·have:=B hi
  subst this;simp at F;omega
theorem Gb4 (d:Ac6 W)(h:Bs7 W s Lt)(e:Lt.length<=1099511627776)(f: ∀t∈Lt,t.1.size<=1099511627776/\t.2.size<=1099511627776)(g: ∀(s1:Sl) (s2:Sl) (ok:Bool) (W':PW),Ext W W'->((ok=true->∃bs:List Iv,Bc3 257 W' s1 bs/\Fx4 257 W' s2 bs/\Cn7 bs/\∀x∈bs,IvS 4 x))->K (.tuple ⟨[Sl.v s1,Sl.v s2,.bool ok]⟩) W'):
  Aa1 Tryz.prog W0 M 10 [s.v] W K:=
 Mi4 (λ _ c=>Gd4 (d.ext c) (h.ext c) e f) fun | _,W',c,⟨s1,s2,ok,rfl,h⟩=>g s1 s2 ok W' c h
end Go.Proofs.YtkgeopnakkcdoaaGreatDoor
namespace Go.Proofs.YtkgeopnakkcdoaaGreatDoor
open Go Go.SX
variable {K:Value->PW->Prop}{M:Nat->Prop}{T:List (List ByteArray)}{W W0:PW}{i n0:Nat}{s:Sl}
def tw (T:List (List ByteArray)) (i:Nat):Nat:=(T[i]?.getD []).length
theorem Gt2 (h:i<T.length):tw T i=T[i].length:=by
 unfold tw;rw[List.getElem?_eq_getElem h];rfl
def txt (T:List (List ByteArray)) (i j:Nat):ByteArray:=(T[i]?.getD [])[j]?.getD ⟨⟨[]⟩⟩
theorem Gz2 {j:Nat}(h:i<T.length)(c:j<T[i].length):txt T i j=T[i][j]:=by
 unfold txt;rw[List.getElem?_eq_getElem h];simp[c]
theorem Gw2 (h:Go3 W0 s T)(r:T.length<=1099511627776):
  Aa0 Tryz.prog 135 [s.v] W0 M λ v W'=>∃(b:Bool),v = .bool b/\(b=true↔Gf8 T.length (tw T)):=by
 apply Gg3;have u:=h.n;refine⟨λ l W=>match l with | [.val (.int .i64 i)]=>Ext W0 W/\∃k:Nat,i=(k:Int)/\k<=T.length/\∀i,i<k->tw T i=tw T 0 | _=>False,λ l _=>match l with | [.val (.int .i64 i)]=>T.length-i.toNat | _=>0,⟨Ext.refl _,0,rfl,Nat.zero_le _,λ i h=>(by omega)⟩,?_⟩;rintro i3 w ⟨d,k,rfl,hk,f⟩;have c:=h.ext d;refine⟨λ z=>?_,λ A=>⟨λ h1=>⟨λ j=>?_,λ j=>λ B _=>⟨false,rfl,?_⟩⟩,λ h1=>λ C _=>⟨false,rfl,?_⟩⟩⟩
 ·obtain⟨x,m,n⟩:=c.at (i:=k) (by omega)
  obtain⟨y,f1,f2⟩:=c.at (i:=0) (by omega);have D:=n.nt.trans (Gt2 (by omega)).symm;have o:=f2.nt.trans (Gt2 (by omega)).symm;refine⟨c.inB (by omega) (by omega),x,m,c.inB (by omega) (by omega),y,f1,λ E F _=>⟨false,rfl,?_⟩,λ heq=>⟨by unfold I64;omega,⟨d,k+1,by push_cast;rfl,by omega,λ i hi=>?_⟩,?_⟩⟩
  ·refine⟨λ h=>(by cases h),λ h=>?_⟩
   have:=h.1 k (by omega);omega
  ·by_cases e:i=k
   ·subst e;omega
   ·exact f i (by omega)
  ·show T.length-Int.toNat ((k:Int)+1)<T.length-Int.toNat (k:Int)
   omega
 ·have G:k=T.length:=by omega
  obtain⟨y,f1,f2⟩:=c.at (i:=0) (by omega);have o:=f2.nt.trans (Gt2 (by omega)).symm;have g:=c.inB (i:=0) (by omega) (by omega);refine⟨g,y,f1,λ p=>⟨g,y,f1,λ H _=>⟨_,rfl,?_⟩⟩,λ p I _=>⟨false,rfl,?_⟩⟩
  ·rw[decide_eq_true_iff]
   exact⟨λ h=>⟨λ i hi=>f i (by omega),by omega,by omega,by omega,by omega⟩,λ h=>by have:=h.2.2.2.2;omega⟩
  ·refine⟨λ h=>(by cases h),λ h=>?_⟩
   have:=h.2.2.2.1;omega
 ·refine⟨λ h=>(by cases h),λ h=>?_⟩
  have:=h.2.2.1;omega
 ·refine⟨λ h=>(by cases h),λ h=>?_⟩
  have:=h.2.1;omega
theorem Gr8 (h:Go3 W s T)(d:T.length<=1099511627776)(e: ∀(b:Bool) (W':PW),Ext W W'->((b=true↔Gf8 T.length (tw T)))->K (.bool b) W'):
  Aa1 Tryz.prog W0 M 135 [s.v] W K:=
 Mi4 (λ _ c=>Gw2 (h.ext c) d) fun | _,W',c,⟨b,rfl,h⟩=>e b W' c h
theorem Gq8 (Q:Gf6 n0 W0)(h:Go3 W0 s T)(R:T.length<=1099511627776)(S: ∀i j,(txt T i j).size<=1099511627776):
  Aa0 Tryz.prog 53 [s.v] W0 M λ v W'=>∃(s':Sl),∃(e:Int),v = .tuple #[Sl.v s',.int .i64 e]/\(e=0->Gf8 T.length (tw T)/\Gl4 257 50 84 (n0<=·) W' s' T.length (tw T 0) (λ i j=>(Ab7 (txt T i j)).getD 0))/\(e≠0->¬(Gf8 T.length (tw T)/\∀i j,i<T.length->j<tw T i->(Ab7 (txt T i j)).isSome=true)):=by
 apply Gn6;have U:=h.n;refine Gr8 h R λ b f u m=>⟨b,rfl,λ C W4 _=>⟨⟨none,0,0⟩,1,rfl,λ h=>(by cases h),λ _ h=>?_⟩,λ V=>?_⟩
 ·rw[m.2 h.1] at C;cases C
 have X:b=true:=by simpa using V
 have D:=m.1 X;have Y:=D;obtain⟨Z,ar,au,av,aw⟩:=Y;have p:=h.ext u;obtain⟨y,f1,f2⟩:=p.at (i:=0) (by omega);have ny:=f2.nt.trans (Gt2 (by omega)).symm;refine⟨p.inB (by omega) (by omega),y,f1,?_⟩
 try dsimp only
 rw[ny,U];obtain⟨c,ax⟩: ∃c,f.w.heap.size=c:=⟨_,rfl⟩;have hle:f.w.heap.size<=c:=by omega
 have ab:Gf6 c f:=by unfold Gf6;omega
 have ac:W0.w.heap.size<=c:=Nat.le_trans u.size hle;refine Gp0 ab (by omega) (by omega) λ r W7 ad h8=>⟨r,rfl,?_⟩;refine⟨λ l W=>match l with | [.val (.int .i64 i)]=>∃k:Nat,i=(k:Int)/\k<=T.length/\Eo1 c f W/\Gl4 257 50 84 (c<=·) W r T.length (tw T 0) (λ a b=>if a<k then(Ab7 (txt T a b)).getD 0 else 0) | _=>False,λ l _=>match l with | [.val (.int .i64 i)]=>T.length-i.toNat | _=>0,⟨0,rfl,Nat.zero_le _,ad.toM _,h8.congr λ i j _ _=>by simp⟩,?_⟩;rintro i11 az ⟨k,rfl,hk,w,E⟩;refine⟨λ aA=>?_,λ aB aC af=>⟨r,0,rfl,λ _=>⟨D,?_⟩,λ h=>absurd rfl h⟩⟩
 ·have d:k<T.length:=by omega
  obtain⟨x,e1,F⟩:=p.at (i:=k) d;have nx:=F.nt.trans (Gt2 d).symm;have aD:=Z k d;have aE:=Gt2 d;refine⟨(p.new w hle).inB (by omega) (by omega),x,e1.new w hle,?_⟩;refine⟨λ l W=>match l with | [.val (.int .i64 i)]=>∃l:Nat,i=(l:Int)/\l<=tw T 0/\Eo1 c f W/\Gl4 257 50 84 (c<=·) W r T.length (tw T 0) (λ a b=>if a<k\/(a=k/\b<l) then(Ab7 (txt T a b)).getD 0 else 0) | _=>False,λ l _=>match l with | [.val (.int .i64 i)]=>tw T 0-i.toNat | _=>0,⟨0,rfl,Nat.zero_le _,w,E.congr λ i j _ _=>by simp⟩,?_⟩;rintro i16 aF ⟨l,rfl,hl,A,G⟩;refine⟨λ aH=>?_,λ aI=>⟨by unfold I64;omega,⟨k+1,by push_cast;rfl,by omega,A,G.congr λ a b H m=>?_⟩,?_⟩⟩
  ·have ah:l<tw T 0:=by omega
   have I:=F.new A hle;have J:l<T[k].length:=by omega
   have ai:=Gz2 d J;refine⟨I.Hb8 (by omega) (by omega),_,I.text J,?_⟩;rw[<-ai];refine As8 (S k l) λ aj ak al aJ N am=>⟨aj,ak,al,_,rfl,λ O aK _=>⟨⟨none,0,0⟩,_,rfl,λ h=>absurd h O,λ _ an=>?_⟩,λ heq=>?_⟩
   ·have:=an.2 k l d (by omega)
    rw[Ey7 O] at this;cases this
   ·have B:=G.ext N
    obtain⟨z,P,z2⟩:=B.mat.at (i:=k) d;refine⟨B.mat.inB (by omega) (by omega),z,P,z2.inB (by omega) (by omega),?_⟩;refine B.store (j:=l) P d ah am (by decide) (by decide) (λ g n=>.inr (Nat.le_trans ac n)) λ aL hp ap=>⟨by unfold I64;omega,⟨l+1,by push_cast;rfl,by omega,(A.trans (N.toM _)).trans (hp.Fi8 λ g n=>n),ap.congr λ a b H m=>?_⟩,?_⟩
    ·unfold Ha2
     by_cases e:a=k/\b=l
     ·rw[if_pos e,if_pos (by omega),e.1,e.2]
     ·rw[if_neg e]
      dsimp only
      by_cases o:a<k\/(a=k/\b<l)
      ·rw[if_pos o,if_pos (by omega)]
      ·rw[if_neg o,if_neg (by omega)]
    ·show tw T 0-Int.toNat ((l:Int)+1)<tw T 0-Int.toNat (l:Int)
     omega
  ·by_cases o:a<k\/(a=k/\b<l)
   ·rw[if_pos o,if_pos (by omega)]
   ·rw[if_neg o,if_neg (by omega)]
  ·show T.length-Int.toNat ((k:Int)+1)<T.length-Int.toNat (k:Int)
   omega
 ·refine((E.ext af).mono λ g n=>Nat.le_trans (Q.ext u) (Nat.le_trans hle n)).congr λ a b H m=>?_
  rw[if_pos (by omega)]
theorem Gl7 (d:Gf6 n0 W)(h:Go3 W s T)(f:T.length<=1099511627776)(g: ∀i j,(txt T i j).size<=1099511627776)(k: ∀(s':Sl) (e:Int) (W':PW),Ext W W'->((e=0->Gf8 T.length (tw T)/\Gl4 257 50 84 (n0<=·) W' s' T.length (tw T 0) (λ i j=>(Ab7 (txt T i j)).getD 0))/\(e≠0->¬(Gf8 T.length (tw T)/\∀i j,i<T.length->j<tw T i->(Ab7 (txt T i j)).isSome=true)))->K (.tuple #[Sl.v s',.int .i64 e]) W'):
  Aa1 Tryz.prog W0 M 53 [s.v] W K:=
 Mi4 (λ _ c=>Gq8 (d.ext c) (h.ext c) f g) fun | _,W',c,⟨s',e,rfl,h⟩=>k s' e W' c h
end Go.Proofs.YtkgeopnakkcdoaaGreatDoor
namespace Go.Proofs.YtkgeopnakkcdoaaGreatDoor
open Go Go.SX
end Go.Proofs.YtkgeopnakkcdoaaGreatDoor
namespace Go.Proofs.YtkgeopnakkcdoaaGreatDoor
open Go Go.SX
end Go.Proofs.YtkgeopnakkcdoaaGreatDoor
namespace Go.Proofs.YtkgeopnakkcdoaaGreatDoor
open Go Go.SX
end Go.Proofs.YtkgeopnakkcdoaaGreatDoor
namespace Go.Proofs.YtkgeopnakkcdoaaGreatDoor
open Go Go.SX
end Go.Proofs.YtkgeopnakkcdoaaGreatDoor
namespace Go.Proofs.YtkgeopnakkcdoaaGreatDoor
open Go Go.SX
end Go.Proofs.YtkgeopnakkcdoaaGreatDoor
namespace Go.Proofs.YtkgeopnakkcdoaaGreatDoor
open Go Go.SX
def b9a:ByteArray:=⟨⟨[48]⟩⟩
def b9b:ByteArray:=⟨⟨[49]⟩⟩
theorem Er6:Ab7 b9a=some 0:=by
 have h1:Ak5 b9a=none:=by decide
 have c:Ac3 b9a=some 0:=by decide
 unfold Ab7;rw[h1,c];rfl
theorem Ed8:Ab7 b9b=some 1:=by
 have h1:Ak5 b9b=none:=by decide
 have c:Ac3 b9b=some 1:=by decide
 unfold Ab7;rw[h1,c];rfl
theorem Fn4:spP b9a b9b=some (0,1):=by
 unfold spP;rw[Er6,Ed8];rfl
def pr9:List (ByteArray×ByteArray):=[(b9a,b9b)]
theorem Ev3:Br9 pr9:=⟨by decide,by decide,λ t c=>by
 rw[List.mem_singleton.1 c];exact⟨(0,1),Fn4,by decide +kernel,by decide +kernel,by decide +kernel⟩⟩
end Go.Proofs.YtkgeopnakkcdoaaGreatDoor
