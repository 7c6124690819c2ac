import Derived.Test.YtkgeopnakkcdoaaGreatDoorR1
import Derived.Test.YtkgeopnakkcdoaaGreatDoorLib1
import Derived.Test.YtkgeopnakkcdoaaGreatDoorR2
set_option linter.unusedVariables false
set_option linter.unusedSimpArgs false
set_option maxRecDepth 100000
namespace Go.Proofs.YtkgeopnakkcdoaaGreatDoor
open Go Go.SX
variable {M:Nat->Prop}{W0:PW}{a b d da db k p x y z:Nat}{l:List Nat}{s t:Sl}
theorem Cp8 (h:l≠[])(c:l[l.length-1]'(by have:=List.length_pos_iff.2 h;omega)=0):val (l.take (l.length-1))=val l:=by
 have e:l=l.take (l.length-1) ++ [0]:=by
  have:=List.dropLast_concat_getLast h;rw[List.getLast_eq_getElem,c,List.dropLast_eq_take] at this;exact this.symm
 conv=>rhs;rw[e,Ag8]
 simp[val]
theorem Bd1 (h:Ad4 257 W0 s l)(D:Dig l)(Q:l.length<=2^40):
  Aa0 Tryz.prog 203 [s.v] W0 M λ v W'=>∃s',v = .agg #[Sl.v s']/\Aa6 257 W' s' (val l):=by
 apply Bw4;refine⟨λ i W=>match i with | [.val (.slice A n c)]=>(∃f,Ext W0 W/\Ad4 257 W ⟨A,n,c⟩ f/\Dig f/\val f=val l/\f.length<=l.length) | _=>False,
  λ i _=>match i with | [.val (.slice _ n _)]=>n | _=>0,⟨l,Ext.refl _,h,D,rfl,Nat.le_refl _⟩,?_⟩
 rintro s3 E ⟨f,F,g,q,j,hle⟩;have g:Ad4 257 E s3 f:=g;have r:=g.n;refine⟨λ w=>?_,λ R=>λ G H=>?_⟩
 ·rw[r] at w
  have I:f≠[]:=λ e=>by subst e;simp at w
  have B:f.length-1<f.length:=by omega
  have J:((s3.n:Int)-1)=((f.length-1:Nat):Int):=by rw[r];omega
  have C:I64 ((s3.n:Int)-1):=by unfold I64;omega
  refine⟨C,g.inB (by omega) (by omega),(f[f.length-1]:Nat),?_,λ o=>⟨C,⟨by omega,by omega,?_⟩,?_,?_⟩,λ o L N=>?_⟩
  ·have:=g.at B
   rw[J];exact this
  ·have:=g.2.1
   omega
  ·have O:Int.toNat ((s3.n:Int)-1)=f.length-1:=by omega
   rw[show Int.toNat 0=0 from rfl,Sl.Ar0,O];exact⟨f.take (f.length-1),F,g.take (k:=f.length-1) (by omega),λ d hm=>q d (List.mem_of_mem_take hm),(Cp8 I (by exact_mod_cast o)).trans j,by simp;omega⟩
  ·rw[show Int.toNat 0=0 from rfl,Sl.Ar0]
   show Int.toNat ((s3.n:Int)-1)<s3.n;omega
  ·refine⟨s3,rfl,?_⟩
   have P:Trim f:=by
    unfold Trim;rw[List.getLast?_eq_getElem?,List.getElem?_eq_getElem B];intro e;apply o;have:=Option.some.inj e;rw[this];rfl
   have:dg (val l)=f:=by rw[<-j,Bk0 q P]
   show Ad4 257 L s3 (dg (val l));rw[this];exact Row.ext g N
 ·have:f = []:=by
   have:f.length=0:=by omega
   exact List.length_eq_zero_iff.1 this
  subst this;refine⟨s3,rfl,?_⟩;have:dg (val l) = []:=by rw[<-j];exact Ae8
  show Ad4 257 G s3 (dg (val l));rw[this];exact Row.ext g H
theorem Dm7 (h:l.length<=k):l.take (k+1)=l.take k:=by
 rw[List.take_of_length_le h,List.take_of_length_le (by omega)]
theorem Bo5 {e:Nat}{f:Nat}{c:Nat}(h:z+p*c=e+f):z+p*((c+da+db)%B)+(p*B)*((c+da+db)/B)=e+p*da+(f+p*db):=by
 have:=Nat.mod_add_div (c+da+db) B;have g:p*((c+da+db)%B)+(p*B)*((c+da+db)/B)=p*(c+da+db):=by rw[<-this];grind
 grind
def Fu5 (a b:Nat) (f:PW) (l:List PL) (W:PW):Prop:=
 match l with
 | [.val (.int .u64 c),.val (.int .i64 k),.row xs]=>Ext f W/\∃(e k':Nat) (zs:List Nat),c=(e:Int)/\k=(k':Int)/\xs=cel zs/\k'<=nl a/\zs.length=nl a+1/\Dig zs/\
   val (zs.take k')+B^k'*e=val ((dg a).take k')+val ((dg b).take k')/\e<=1
 | _=>False
def Fr6 (a:Nat) (l:List PL) (W:PW):Nat:=
 match l with
 | [_,.val (.int .i64 k),_]=>nl a-k.toNat
 | _=>0
def Fv7 (x y:Nat) (W0:PW) (l:List PL) (W:PW):Prop:=
 match l with
 | [.cells [.slice A n c],.cells [.slice e f g]]=>Ext W0 W/\∃a b,Aa6 257 W ⟨A,n,c⟩ a/\Aa6 257 W ⟨e,f,g⟩ b/\a+b=x+y/\nl b<=nl a/\nl a<=549755813888
 | _=>False
theorem Ep3 (h1:Aa6 257 W0 s x)(o:Aa6 257 W0 t y)(F:nl x<=549755813888)(G:nl y<=549755813888):
  Aa0 Tryz.prog 219 [.agg #[s.v],.agg #[t.v]] W0 M λ v W'=>∃s',v = .agg #[Sl.v s']/\Aa6 257 W' s' (x+y):=by
 apply Di3;have R:=h1.n;have S:=o.n;refine⟨Fv7 x y W0,⟨λ h=>⟨Ext.refl _,y,x,o,h1,by omega,by omega,G⟩,λ h=>⟨Ext.refl _,x,y,h1,o,rfl,by omega,F⟩⟩,?_⟩;rintro s2 s3 q ⟨T,a,b,g,i,U,H,V⟩;have g:Aa6 257 q s2 a:=g;have i:Aa6 257 q s3 b:=i;have X:=g.n;have Y:=i.n;refine⟨by unfold I64;omega,⟨rfl,by omega,by omega⟩,Fu5 a b q,Fr6 a,?_,?_⟩
 ·refine⟨Ext.refl _,0,0,List.replicate (nl a+1) 0,rfl,rfl,?_,by omega,by simp,λ d I=>?_,by simp[val],by omega⟩
  ·rw[show Int.toNat ((s2.n:Int)+1)=nl a+1 by omega];exact Ae3 _
  ·rw[(List.mem_replicate.1 I).2];decide
 rintro Z i8 i9 aa ⟨j,c,k,zs,rfl,rfl,rfl,hk,A,r,w,hc⟩;have C:=g.ext j;have D:=i.ext j;refine⟨λ ac=>?_,λ ad=>?_⟩
 ·have n:k<(dg a).length:=by have:(dg a).length=nl a:=rfl;omega
  have da:=Ad8 a _ (List.getElem_mem n);refine⟨Ad4.inB C (by omega) (by omega),((dg a)[k]:Nat),Ad4.at C n,λ ae=>?_,λ af=>?_⟩
  ·have f:k<(dg b).length:=by have:(dg b).length=nl b:=rfl;omega
   have db:=Ad8 b _ (List.getElem_mem f);have e:IntKind.wrap .u64 (IntKind.wrap .u64 ((c:Int)+IntKind.wrap .u64 ((dg a)[k]:Nat))+IntKind.wrap .u64 ((dg b)[k]:Nat))=((c+(dg a)[k]+(dg b)[k]:Nat):Int):=by
    unfold B at da db;rw[wrap64 (z:=((dg a)[k]:Nat)) (by omega) (by omega),wrap64 (z:=((dg b)[k]:Nat)) (by omega) (by omega),wrap64 (z:=(c:Int)+_) (by omega) (by omega),wrap64 (by omega) (by omega)]
    push_cast;rfl
   refine⟨Ad4.inB D (by omega) (by omega),((dg b)[k]:Nat),Ad4.at D f,⟨by omega,by rw[Aa5];omega⟩,by rw[Aa5];omega,by unfold I64;omega,?_,?_⟩
   ·rw[e,Ao0,Ab9,show Int.toNat (k:Int)=k from rfl,Ae9]
    refine⟨j,_,k+1,_,rfl,by push_cast;rfl,rfl,by omega,by simpa using A,Dig.set r (Nat.mod_lt _ Ad3),?_,?_⟩
    ·rw[Ac1 (by omega),Aa4 n,Aa4 f,Nat.pow_succ]
     exact Bo5 w
    ·have:c+(dg a)[k]+(dg b)[k]<2*B:=by omega
     have:=(Nat.div_lt_iff_lt_mul Ad3).2 this;omega
   ·show nl a-Int.toNat ((k:Int)+1)<nl a-Int.toNat (k:Int)
    omega
  ·have f:(dg b).length<=k:=by have:(dg b).length=nl b:=rfl;omega
   have e:IntKind.wrap .u64 ((c:Int)+IntKind.wrap .u64 ((dg a)[k]:Nat))=((c+(dg a)[k]+0:Nat):Int):=by
    unfold B at da;rw[wrap64 (z:=((dg a)[k]:Nat)) (by omega) (by omega),wrap64 (by omega) (by omega)]
    push_cast;omega
   refine⟨⟨by omega,by rw[Aa5];omega⟩,by rw[Aa5];omega,by unfold I64;omega,?_,?_⟩
   ·rw[e,Ao0,Ab9,show Int.toNat (k:Int)=k from rfl,Ae9]
    refine⟨j,_,k+1,_,rfl,by push_cast;rfl,rfl,by omega,by simpa using A,Dig.set r (Nat.mod_lt _ Ad3),?_,?_⟩
    ·rw[Ac1 (by omega),Aa4 n,Dm7 f,Nat.pow_succ]
     have:=Bo5 (da:=(dg a)[k]) (db:=0) w
     simpa using this
    ·have:c+(dg a)[k]+0<2*B:=by omega
     have:=(Nat.div_lt_iff_lt_mul Ad3).2 this;omega
   ·show nl a-Int.toNat ((k:Int)+1)<nl a-Int.toNat (k:Int)
    omega
 ·have J:k=nl a:=by omega
  subst J;refine⟨⟨by omega,by rw[Aa5];omega⟩,by rw[Aa5];omega,λ ag ah ai hO aj=>?_⟩;rw[Ab9,show Int.toNat (s2.n:Int)=nl a by omega,Ae9] at hO;have L:c%B=c:=Nat.mod_eq_of_lt (by unfold B;omega);rw[L] at hO;have N:val (zs.set (nl a) c)=x+y:=by
   have:=Ac1 (zs:=zs) (k:=nl a) (d:=c) (by omega);rw[List.take_of_length_le (by simp;omega),w,show List.take (nl a) (dg a)=dg a from List.take_of_length_le (Nat.le_refl _),show List.take (nl a) (dg b)=dg b from List.take_of_length_le H,Ac5,Ac5] at this;omega
  intro W' O;refine⟨λ _=>False,_,Bd1 (l:=zs.set (nl a) c) (Row.ext hO.row O) (Dig.set r (by unfold B;omega)) (by simp;omega),λ _ h=>h.elim,λ v ak al P=>?_⟩;obtain⟨s',rfl,E⟩:=P;refine⟨s',rfl,λ am Q=>⟨s',rfl,?_⟩⟩;rw[N] at E;exact E.ext Q
theorem Eu3 (g:x<B*B):
  Aa0 Tryz.prog 176 [.int .u64 (x:Int)] W0 M λ v W'=>∃s',v = .agg #[Sl.v s']/\Aa6 257 W' s' x:=by
 apply Dw9;intro s1 i r hO w W' j;rw[Ao0,Ab9,Ab9] at hO;have hO:Go.SX.Own i 257 1 s1 (cel [x%B,x/B%B]):=hO;have c:x/B<B:=(Nat.div_lt_iff_lt_mul Ad3).2 g;rw[Nat.mod_eq_of_lt c] at hO;have n:Dig [x%B,x/B]:=Dig.cons (Nat.mod_lt _ Ad3) (Dig.cons c Dig.nil);refine⟨λ _=>False,_,Bd1 (Row.ext hO.row j) n (by simp),λ _ h=>h.elim,λ v A C o=>?_⟩;obtain⟨s',rfl,f⟩:=o;refine⟨s',rfl,λ D q=>⟨s',rfl,?_⟩⟩;have e:val [x%B,x/B]=x:=by simp only[val];have:=Nat.mod_add_div x B;omega
 rw[e] at f;exact f.ext q
def Fu6 (a b:Nat) (W0:PW) (l:List PL) (W:PW):Prop:=
 match l with
 | [.val (.int .i64 k),.row xs]=>Ext W0 W/\∃(k':Nat) (zs:List Nat),k=(k':Int)/\xs=cel zs/\k'<=nl a/\zs.length=nl a+nl b/\Dig zs/\val (zs.take (k'+nl b))=val ((dg a).take k')*b
 | _=>False
def mulM (a:Nat) (l:List PL) (W:PW):Nat:=
 match l with
 | [.val (.int .i64 k),_]=>nl a-k.toNat
 | _=>0
def Fs2 (b k da:Nat) (zs:List Nat) (h:PW) (l:List PL) (W:PW):Prop:=
 match l with
 | [.val (.int .u64 c),.val (.int .i64 j),.row xs]=>Ext h W/\∃(g e:Nat) (f:List Nat),c=(g:Int)/\j=(e:Int)/\xs=cel f/\e<=nl b/\f.length=zs.length/\Dig f/\g<B/\
   val (f.take (k+e))+B^(k+e)*g=val (zs.take (k+e))+B^k*(da*val ((dg b).take e))/\∀i,k+e<=i->f[i]?=zs[i]?
 | _=>False
def Fs5 (b:Nat) (l:List PL) (W:PW):Nat:=
 match l with
 | [_,.val (.int .i64 k),_]=>nl b-k.toNat
 | _=>0
theorem Fn9 {c:Nat}(e:a<B)(f:b<B)(g:c<B)(h:d<B):c+(a*b+d)<B*B:=by
 have:a*b<=(B-1)*(B-1):=Nat.mul_le_mul (by omega) (by omega);unfold B at *;omega
theorem Eu4 {q:Nat}{f:Nat}{e:Nat}{c:Nat}(h:y+p*q*c=z+p*(da*f))(g:d=e):
  y+p*q*((c+(da*db+d))%B)+p*q*B*((c+(da*db+d))/B)=z+p*q*e+p*(da*(f+q*db)):=by
 have:=Nat.mod_add_div (c+(da*db+d)) B;have i:p*q*((c+(da*db+d))%B)+(p*q*B)*((c+(da*db+d))/B)=p*q*(c+(da*db+d)):=by
  conv=>rhs;rw[<-this]
  grind
 subst g;grind
theorem Eg4 (o:Aa6 257 W0 s a)(q:Aa6 257 W0 t b)(V:nl a<=274877906944)(X:nl b<=274877906944):
  Aa0 Tryz.prog 141 [.agg #[s.v],.agg #[t.v]] W0 M λ v W'=>∃s',v = .agg #[Sl.v s']/\Aa6 257 W' s' (a*b):=by
 apply Dl8;have Y:=o.n;have Z:=q.n;have la:(dg a).length=nl a:=rfl;have lb:(dg b).length=nl b:=rfl;refine⟨by unfold I64;omega,⟨rfl,by omega,by omega⟩,Fu6 a b W0,mulM a,?_,?_⟩
 ·refine⟨Ext.refl _,0,List.replicate (nl a+nl b) 0,rfl,?_,by omega,by simp,λ d L=>?_,?_⟩
  ·rw[show Int.toNat ((s.n:Int)+(t.n:Int))=nl a+nl b by omega];exact Ae3 _
  ·rw[(List.mem_replicate.1 L).2];decide
  ·rw[List.take_replicate,Ao6];simp[val]
 rintro l3 i4 N ⟨r,k,zs,rfl,rfl,hk,hz,F,w⟩;refine⟨λ ac=>?_,λ ad=>?_⟩
 ·have A:k<(dg a).length:=by omega
  have da:=Ad8 a _ (List.getElem_mem A);refine⟨Ad4.inB (o.ext r) (by omega) (by omega),((dg a)[k]:Nat),Ad4.at (o.ext r) A,Fs2 b k (dg a)[k] zs N,Fs5 b,?_,?_⟩
  ·exact⟨Ext.refl _,0,0,zs,rfl,rfl,rfl,by omega,rfl,F,Ad3,by simp[val],λ _ _=>rfl⟩
  rintro l9 i10 i11 af ⟨G,c,j,f,rfl,rfl,rfl,hj,O,C,g,hw,H⟩;have D:=r.trans G;refine⟨λ ah=>?_,λ ai=>?_⟩
  ·have E:j<(dg b).length:=by omega
   have db:=Ad8 b _ (List.getElem_mem E);have n:k+j<f.length:=by omega
   have I:=C _ (List.getElem_mem n);have et:Int.toNat ((k:Int)+(j:Int))=k+j:=by omega
   have hm:=Fn9 da db g I;have e:IntKind.wrap .u64 ((c:Int)+IntKind.wrap .u64 (IntKind.wrap .u64 (IntKind.wrap .u64 ((dg a)[k]:Nat)*IntKind.wrap .u64 ((dg b)[j]:Nat))+IntKind.wrap .u64 ((f[k+j]:Nat):Int)))=((c+((dg a)[k]*(dg b)[j]+f[k+j]):Nat):Int):=by
    have hp:((dg a)[k]*(dg b)[j]:Nat)<=c+((dg a)[k]*(dg b)[j]+f[k+j]):=by omega
    unfold B at da db I hm g;rw[wrap64 (z:=((dg a)[k]:Nat)) (by omega) (by omega),wrap64 (z:=((dg b)[j]:Nat)) (by omega) (by omega),wrap64 (z:=((f[k+j]:Nat):Int)) (by omega) (by omega),<-Int.natCast_mul,wrap64 (z:=(((dg a)[k]*(dg b)[j]:Nat):Int)) (by omega) (by omega),
     wrap64 (z:=_+((f[k+j]:Nat):Int)) (by omega) (by omega),wrap64 (by omega) (by omega)]
    push_cast;rfl
   refine⟨Ad4.inB (q.ext D) (by omega) (by omega),((dg b)[j]:Nat),Ad4.at (q.ext D) E,by unfold I64;omega,⟨by omega,by rw[Aa5];omega⟩,((f[k+j]:Nat):Int),?_,by unfold I64;omega,⟨by omega,by rw[Aa5];omega⟩,by rw[Aa5];omega,by unfold I64;omega,?_,?_⟩
   ·rw[et];exact⟨_,Au0 n,by simp⟩
   ·rw[e,Ao0,Ab9,et,Ae9]
    refine⟨G,_,j+1,_,rfl,by push_cast;rfl,rfl,by omega,by simpa using O,Dig.set C (Nat.mod_lt _ Ad3),(Nat.div_lt_iff_lt_mul Ad3).2 hm,?_,λ i hi=>?_⟩
    ·rw[<-Nat.add_assoc,Ac1 n,Aa4 (l:=zs) (by omega),Aa4 E,Nat.pow_succ,Nat.pow_add]
     rw[Nat.pow_add] at hw;refine Eu4 hw ?_;have:=H (k+j) (Nat.le_refl _);rw[List.getElem?_eq_getElem n,List.getElem?_eq_getElem (by omega)] at this;exact Option.some.inj this
    ·rw[List.getElem?_set_ne (by omega)]
     exact H i (by omega)
   ·show nl b-Int.toNat ((j:Int)+1)<nl b-Int.toNat (j:Int)
    omega
  ·have P:j=nl b:=by omega
   subst P;have et:Int.toNat ((k:Int)+(t.n:Int))=k+nl b:=by omega
   refine⟨by unfold I64;omega,⟨by omega,by rw[Aa5];omega⟩,by rw[Aa5];omega,by unfold I64;omega,?_,?_⟩
   ·rw[et,Ab9,Nat.mod_eq_of_lt g,Ae9]
    refine⟨D,k+1,_,by push_cast;rfl,rfl,by omega,by simp;omega,Dig.set C g,?_⟩;rw[show k+1+nl b=k+nl b+1 by omega,Ac1 (by omega),hw,w,Aa4 A,show List.take (nl b) (dg b)=dg b from List.take_of_length_le (Nat.le_refl _),Ac5];grind
   ·show nl a-Int.toNat ((k:Int)+1)<nl a-Int.toNat (k:Int)
    omega
 ·have Q:k=nl a:=by omega
  subst Q;intro ak al am hO an W' R;have S:val zs=a*b:=by
   rw[List.take_of_length_le (by omega)] at w;rw[w,show List.take (nl a) (dg a)=dg a from List.take_of_length_le (Nat.le_refl _),Ac5]
  refine⟨λ _=>False,_,Bd1 (Row.ext hO.row R) F (by omega),λ _ h=>h.elim,λ v ao ap T=>?_⟩;obtain⟨s',rfl,J⟩:=T;refine⟨s',rfl,λ aq U=>⟨s',rfl,?_⟩⟩;rw[S] at J;exact J.ext U
theorem Cj9 {g:Nat}(h:(Sl.v ⟨s.A,k,s.c⟩).ownBlock=some g):s.v.ownBlock=some g:=by
 simp only[Sl.v] at h⊢;cases c:s.A<;>simp[c,Value.ownBlock] at h⊢;exact h
theorem Cr7 (h:Go.SX.Own W0 257 1 s (cel l))(H:Dig l)(R:l.length<=2^40):
  Aa0 Tryz.prog 203 [s.v] W0 M λ v W'=>∃s',v = .agg #[Sl.v s']/\Go.SX.Own W' 257 1 s' (cel (dg (val l)))/\∀g,s'.v.ownBlock=some g->s.v.ownBlock=some g:=by
 apply Bw4;refine⟨λ o W=>match o with | [.val (.slice A n c)]=>(∃f,Ext W0 W/\Go.SX.Own W 257 1 ⟨A,n,c⟩ (cel f)/\(∀g,(Sl.v ⟨A,n,c⟩).ownBlock=some g->s.v.ownBlock=some g)/\Dig f/\val f=val l/\f.length<=l.length) | _=>False,
  λ o _=>match o with | [.val (.slice _ n _)]=>n | _=>0,⟨l,Ext.refl _,h,λ _ q=>q,H,rfl,Nat.le_refl _⟩,?_⟩
 rintro s3 B ⟨f,I,hO,i,C,r,hle⟩;have hO:Go.SX.Own B 257 1 s3 (cel f):=hO;have i: ∀g,s3.v.ownBlock=some g->s.v.ownBlock=some g:=i;have j:Ad4 257 B s3 f:=hO.row;have D:=j.n;refine⟨λ E=>?_,λ S=>λ T J=>?_⟩
 ·rw[D] at E
  have L:f≠[]:=λ e=>by subst e;simp at E
  have F:f.length-1<f.length:=by omega
  have N:((s3.n:Int)-1)=((f.length-1:Nat):Int):=by rw[D];omega
  have G:I64 ((s3.n:Int)-1):=by unfold I64;omega
  refine⟨G,j.inB (by omega) (by omega),(f[f.length-1]:Nat),?_,λ w=>⟨G,⟨by omega,by omega,?_⟩,?_,?_⟩,λ w U O=>?_⟩
  ·have:=j.at F
   rw[N];exact this
  ·have:=j.2.1
   omega
  ·have P:Int.toNat ((s3.n:Int)-1)=f.length-1:=by omega
   rw[show Int.toNat 0=0 from rfl,Sl.Ar0,P];exact⟨f.take (f.length-1),I,by rw[<-Bo2];exact hO.take (k:=f.length-1) (by rw[Aa5];omega),λ g q=>i g (Cj9 q),λ d hm=>C d (List.mem_of_mem_take hm),(Cp8 L (by exact_mod_cast w)).trans r,by simp;omega⟩
  ·rw[show Int.toNat 0=0 from rfl,Sl.Ar0]
   show Int.toNat ((s3.n:Int)-1)<s3.n;omega
  ·refine⟨s3,rfl,?_,i⟩
   have Q:Trim f:=by
    unfold Trim;rw[List.getLast?_eq_getElem?,List.getElem?_eq_getElem F];intro e;apply w;have:=Option.some.inj e;rw[this];rfl
   have:dg (val l)=f:=by rw[<-r,Bk0 C Q]
   rw[this];exact hO.Fi8 O
 ·have:f = []:=by
   have:f.length=0:=by omega
   exact List.length_eq_zero_iff.1 this
  subst this;refine⟨s3,rfl,?_,i⟩;have:dg (val l) = []:=by rw[<-r];exact Ae8
  rw[this];exact hO.Fi8 J
theorem Ds4 (h:Ad4 257 W0 s l)(r:l.length<=1099511627776):
  Aa0 Tryz.prog 224 [s.v] W0 M λ v W'=>∃s':Sl,v=s'.v/\Go.SX.Own W' 257 1 s' (cel l)/\∀g,s'.v.ownBlock=some g->W0.w.heap.size<=g:=by
 apply Am5;refine⟨λ e w i=>?_,λ e=>⟨cel l,⟨_,h⟩,by rw[Aa5];omega,λ s3 A i hO j B n=>⟨s3,rfl,hO.Fi8 n,λ g c=>(j g c).1⟩⟩⟩;have:cel l = []:=by
  obtain⟨_,_,_,_,f⟩:=h;rcases f with f | ⟨b,o,cs,C,q,_⟩
  ·exact f
  ·rw[q] at e;cases e
 rw[this];exact⟨⟨none,0,0⟩,rfl,⟨⟨by simp,World.ownsRow_nil _ 0 257 1⟩,λ g c=>by simp[Sl.v,Value.ownBlock] at c⟩,λ g c=>by simp[Sl.v,Value.ownBlock] at c⟩
end Go.Proofs.YtkgeopnakkcdoaaGreatDoor
namespace Go.Proofs.YtkgeopnakkcdoaaGreatDoor
open Go Go.SX
variable {K:Value->PW->Prop}{M:Nat->Prop}{W W0:PW}{l:List Nat}{s t:Sl}{x y:Nat}
theorem Ap7 (h:Ad4 257 W s l)(e:Dig l)(f:l.length<=2^40)(g: ∀(s':Sl) (W':PW),Ext W W'->(Aa6 257 W' s' (val l))->K (.agg #[Sl.v s']) W'):
  Aa1 Tryz.prog W0 M 203 [s.v] W K:=
 Mi4 (λ _ c=>Bd1 (h.ext c) e f) fun | _,W',c,⟨s',rfl,h⟩=>g s' W' c h
theorem Ba4 (h:Go.SX.Own W 257 1 s (cel l))(e:Dig l)(f:l.length<=2^40)(i: ∀(s':Sl) (W':PW),Ext W W'->(Go.SX.Own W' 257 1 s' (cel (dg (val l)))/\∀g,s'.v.ownBlock=some g->s.v.ownBlock=some g)->K (.agg #[Sl.v s']) W'):
  Aa1 Tryz.prog W0 M 203 [s.v] W K:=
 Mi4 (λ _ c=>Cr7 (h.ext c) e f) fun | _,W',c,⟨s',rfl,h⟩=>i s' W' c h
theorem As2 (e:x<B*B)(f: ∀(s':Sl) (W':PW),Ext W W'->(Aa6 257 W' s' x)->K (.agg #[Sl.v s']) W'):
  Aa1 Tryz.prog W0 M 176 [.int .u64 (x:Int)] W K:=
 Mi4 (λ _ c=>Eu3 e) fun | _,W',c,⟨s',rfl,h⟩=>f s' W' c h
theorem Do2 (h1:Aa6 257 W s x)(e:Aa6 257 W t y)(f:nl x<=549755813888)(g:nl y<=549755813888)(i: ∀(s':Sl) (W':PW),Ext W W'->(Aa6 257 W' s' (x+y))->K (.agg #[Sl.v s']) W'):
  Aa1 Tryz.prog W0 M 219 [.agg #[s.v],.agg #[t.v]] W K:=
 Mi4 (λ _ c=>Ep3 (h1.ext c) (e.ext c) f g) fun | _,W',c,⟨s',rfl,h⟩=>i s' W' c h
theorem Bb7 (h1:Aa6 257 W s x)(e:Aa6 257 W t y)(f:nl x<=274877906944)(g:nl y<=274877906944)(i: ∀(s':Sl) (W':PW),Ext W W'->(Aa6 257 W' s' (x*y))->K (.agg #[Sl.v s']) W'):
  Aa1 Tryz.prog W0 M 141 [.agg #[s.v],.agg #[t.v]] W K:=
 Mi4 (λ _ c=>Eg4 (h1.ext c) (e.ext c) f g) fun | _,W',c,⟨s',rfl,h⟩=>i s' W' c h
theorem len8: ∀i:Nat,i<256->Ae2 Af5 i=(Aj9 i:Int):=by
 have: ∀i:Fin 256,Ae2 Af5 i.val=(Aj9 i.val:Int):=by decide +kernel
 exact λ i hi=>this ⟨i,hi⟩
theorem Ds2 {n:Nat}(h:n<256):IntKind.wrap .u8 (n:Int)=(n:Int):=by
 rw[IntKind.wrap_u8'];omega
theorem Ev7 (j:x<B):
  Aa0 Tryz.prog 173 [.int .u32 (x:Int)] W0 M λ v W'=>v = .int .i64 ((Aj9 x:Nat):Int)/\True:=by
 apply Ba5;unfold B at j;have o:Af5.size=256:=rfl;have fin: ∀(y n:Nat) (z:Int),y<256->(2^n<=x\/n=0)->y=x/2^n->z=(n:Int)->I64 (Ae2 Af5 y)/\I64 (z+Ae2 Af5 y)/\∀i,Ext W0 i->Value.int .i64 (z+Ae2 Af5 y)=Value.int .i64 ((Aj9 x:Nat):Int)/\True:=λ y n z c f e q=>by
  have C:=Bb9 (x:=y) (n:=8) (by omega);have h:Aj9 x=n+Aj9 y:=by
   rcases f with f | f
   ·rw[Bg3 n f,e]
   ·subst f;rw[e];simp
  have D:=Bb9 (x:=x) (n:=32) (by omega);rw[len8 y c,q];refine⟨by unfold I64;omega,by unfold I64;omega,λ i E=>⟨?_,trivial⟩⟩;rw[h];simp
 have r:Ah0 (x:Int) 16=((x/65536:Nat):Int):=Ay2 x 16;have w:Ah0 ((x/65536:Nat):Int) 8=((x/16777216:Nat):Int):=by
  rw[Ay2,show x/65536/2^8=x/16777216 by omega]
 have A:Ah0 (x:Int) 8=((x/256:Nat):Int):=Ay2 x 8;simp only[r,w,A,o];refine⟨λ h1=>⟨λ g=>?_,λ g=>?_⟩,λ h1=>⟨λ g=>?_,λ g=>?_⟩⟩
 ·have c:x/16777216<256:=by omega
  rw[Ds2 c];exact⟨by unfold I64;omega,⟨by omega,by omega⟩,fin (x/16777216) 24 _ c (.inl (by omega)) rfl rfl⟩
 ·have c:x/65536<256:=by omega
  rw[Ds2 c];exact⟨⟨by omega,by omega⟩,fin (x/65536) 16 _ c (.inl (by omega)) rfl rfl⟩
 ·have c:x/256<256:=by omega
  rw[Ds2 c];exact⟨by unfold I64;omega,⟨by omega,by omega⟩,fin (x/256) 8 _ c (.inl (by omega)) rfl rfl⟩
 ·have c:x<256:=by omega
  rw[Ds2 c];exact⟨⟨by omega,by omega⟩,fin x 0 _ c (.inr rfl) (by simp) rfl⟩
theorem Ce3 (e:x<B)(f: ∀(W':PW),Ext W W'->(True)->K (.int .i64 ((Aj9 x:Nat):Int)) W'):
  Aa1 Tryz.prog W0 M 173 [.int .u32 (x:Int)] W K:=
 Mi4 (λ _ c=>Ev7 e) fun | _,W',c,⟨rfl,h⟩=>f W' c h
end Go.Proofs.YtkgeopnakkcdoaaGreatDoor
namespace Go.Proofs.YtkgeopnakkcdoaaGreatDoor
open Go Go.SX
variable {K:Value->PW->Prop}{M:Nat->Prop}{W W0:PW}{s:Sl}{x:Nat}
theorem Ea6 (h:Aa6 257 W0 s x)(r:nl x<=274877906944):
  Aa0 Tryz.prog 97 [.agg #[s.v]] W0 M λ v W'=>v = .int .i64 ((Aj9 x:Nat):Int)/\True:=by
 apply Bn5;have i:=h.n;refine⟨λ c w A=>⟨?_,trivial⟩,λ c=>?_⟩
 ·have:x=0:=Ad0.1 (by omega)
  subst this;rfl
 ·have j:x≠0:=λ e=>c (by rw[i,e,Ag9];rfl)
  obtain⟨hk,o,f,q⟩:=Bt4 j;have C:(dg x).length=nl x:=rfl;have e:((s.n:Int)-1)=((nl x-1:Nat):Int):=by omega
  have g:=Do4 (Ae6 (Ad8 x) (nl x-1)) o;rw[<-q] at g;have D:=Bb9 (x:=(dg x)[nl x-1]) (n:=32) (by unfold B at f;omega);rw[e];refine⟨by unfold I64;omega,by unfold I64;omega,by unfold I64;omega,Ad4.inB h (by omega) (by omega),_,Ad4.at h hk,?_⟩;refine Ce3 f λ E F _=>⟨_,rfl,by unfold I64;omega,λ G H=>⟨?_,trivial⟩⟩;rw[g];push_cast;rfl
theorem Ac9 (h:Aa6 257 W s x)(e:nl x<=274877906944)(f: ∀(W':PW),Ext W W'->(True)->K (.int .i64 ((Aj9 x:Nat):Int)) W'):
  Aa1 Tryz.prog W0 M 97 [.agg #[s.v]] W K:=
 Mi4 (λ _ c=>Ea6 (h.ext c) e) fun | _,W',c,⟨rfl,h⟩=>f W' c h
theorem Ep9 (c:x<B):
  Aa0 Tryz.prog 226 [.int .u32 (x:Int)] W0 M λ v W'=>v = .int .i64 ((32-Aj9 x:Nat):Int)/\True:=by
 apply Ao3;have e:=Bb9 (x:=x) (n:=32) (by unfold B at c;omega);refine Ce3 c λ f g _=>⟨_,rfl,by unfold I64;omega,λ h i=>⟨?_,trivial⟩⟩;congr 1;omega
theorem Dg0 (e:x<B)(f: ∀(W':PW),Ext W W'->(True)->K (.int .i64 ((32-Aj9 x:Nat):Int)) W'):
  Aa1 Tryz.prog W0 M 226 [.int .u32 (x:Int)] W K:=
 Mi4 (λ _ c=>Ep9 e) fun | _,W',c,⟨rfl,h⟩=>f W' c h
end Go.Proofs.YtkgeopnakkcdoaaGreatDoor
namespace Go.Proofs.YtkgeopnakkcdoaaGreatDoor
open Go Go.SX
variable {M:Nat->Prop}{W0:PW}{k sh x:Nat}{s:Sl}
def Ft8 (x N sh:Nat) (W0:PW) (l:List PL) (W:PW):Prop:=
 match l with
 | [.val (.int .i64 k),.row xs]=>Ext W0 W/\∃(k':Nat) (zs:List Nat),k=(k':Int)/\xs=cel zs/\k'<=nl x/\zs.length=nl x+N+1/\Dig zs/\
   val zs=B^N*2^sh*val ((dg x).take k')/\(∀j (h:j<zs.length),N+k'<j->zs[j]=0)/\(∀(h:N+k'<zs.length),zs[N+k']<2^sh)
 | _=>False
def Fu1 (x:Nat) (l:List PL) (W:PW):Nat:=
 match l with
 | [.val (.int .i64 k),_]=>nl x-k.toNat
 | _=>0
theorem Fc9 {v:Nat}(c:sh<32):(v*2^sh)%B%2^sh=0:=by
 have:B=2^sh*2^(32-sh):=by rw[<-Nat.pow_add,show sh+(32-sh)=32 by omega];rfl
 rw[this,Nat.mod_mul_right_mod];exact Nat.mul_mod_left ..
theorem Fd1 (c:sh<32):2^sh<=2147483648:=by
 have:=Nat.pow_le_pow_right (by decide:0<2) (show sh<=31 by omega);exact this
theorem Eg8 (h:Aa6 257 W0 s x)(hx:nl x<=274877906944)(hk:k<=1048576):
  Aa0 Tryz.prog 227 [.agg #[s.v],.int .i64 (k:Int)] W0 M λ v W'=>∃(s':Sl),v = .agg #[Sl.v s']/\Aq4 W0 s'/\Go.SX.Own W' 257 1 s' (cel (dg (x*2^k))):=by
 apply Dd7;have hn:=h.n;have S:(dg x).length=nl x:=rfl;simp only[Fj7 hk,Eg1 (show k<=1099511627776 by omega),Em5];obtain⟨N,T⟩: ∃N,k/32=N:=⟨_,rfl⟩;obtain⟨sh,U⟩: ∃sh,k%32=sh:=⟨_,rfl⟩;have G:sh<32:=by omega
 have au:N<=32768:=by omega
 have V:k=32*N+sh:=by omega
 rw[T,U];have X:=Fd1 G;refine⟨by decide,by unfold I64;omega,by unfold I64;omega,⟨trivial,by omega,by omega⟩,Ft8 x N sh W0,Fu1 x,?_,?_⟩
 ·refine⟨Ext.refl _,0,List.replicate (nl x+N+1) 0,rfl,?_,by omega,by simp,λ d n=>?_,by simp[val,Ao6],λ j r _=>by simp,λ r=>by simp;exact Nat.two_pow_pos sh⟩
  ·rw[show Int.toNat ((s.n:Int)+(N:Int)+1)=nl x+N+1 by omega];exact Ae3 _
  ·rw[(List.mem_replicate.1 n).2];decide
 rintro l3 i4 W5 ⟨H,i,zs,rfl,rfl,hi,Y,I,J,L,Z⟩;have O:=h.ext H;refine⟨λ aa=>?_,λ aw s8 W9 az hO hf=>?_⟩
 ·have C:i<(dg x).length:=by omega
  have o:=(Ad8 x).at C;obtain⟨d,n⟩: ∃d,(dg x)[i]=d:=⟨_,rfl⟩;have D:N+i<zs.length:=by omega
  have E:N+i+1<zs.length:=by omega
  have P:=Z D;obtain⟨p,w⟩: ∃p,zs[N+i]=p:=⟨_,rfl⟩;have hmul:d*2^sh<18446744073709551616:=by
   rw[n] at o;have:=Nat.mul_le_mul (Nat.le_of_lt o) X;unfold B at this;omega
  have ed:IntKind.wrap .u64 ((d:Nat):Int)=(d:Int):=Ab1 (by rw[n] at o;unfold B at o;omega);have ei:(i:Int)+(N:Int)=((N+i:Nat):Int):=by omega
  have lo:=Fc9 (v:=d) G;have ae:(d*2^sh)%B<B:=Nat.mod_lt _ Ad3;have af:p+(d*2^sh)%B<B:=by
   have A:B=2^sh*2^(32-sh):=by rw[<-Nat.pow_add,show sh+(32-sh)=32 by omega];rfl
   have f:=Nat.mod_add_div ((d*2^sh)%B) (2^sh);rw[lo,Nat.zero_add] at f;rw[w] at P;generalize (d*2^sh)%B/2^sh=q at f;have:q<2^(32-sh):=by
    apply Nat.lt_of_mul_lt_mul_left (a:=2^sh);rw[f,<-A];exact ae
   have:=Nat.mul_le_mul_left (2^sh) (show q+1<=2^(32-sh) from this);rw[Nat.mul_add,f,<-A] at this;omega
  have ag:d*2^sh/B<2^sh:=by
   rw[Nat.div_lt_iff_lt_mul Ad3,Nat.mul_comm];rw[n] at o;exact Nat.mul_lt_mul_of_pos_left o (Nat.two_pow_pos sh)
  have Q:d*2^sh/B<B:=by unfold B at *;omega
  have ah:bits .or .u32 (p:Int) (((d*2^sh%B:Nat)):Int)=((p+d*2^sh%B:Nat):Int):=by
   rw[u32_or_nat _ _ (by unfold B at *;omega) (by unfold B at *;omega),Nat.or_comm,nat_join sh _ _ lo (by rw[<-w];exact P),Nat.add_comm]
  have ai:List.length (List.set (cel zs) (N+i) [Value.int .u32 ((p+d*2^sh%B:Nat):Int)])=zs.length:=by simp[Aa5]
  refine⟨Ad4.inB O (by omega) (by omega),(d:Int),by rw[<-n];exact Ad4.at O C,by decide,⟨by omega,by show(sh:Int)<=64;omega⟩,by decide,by unfold I64;omega,⟨by omega,by rw[Aa5];omega⟩,(p:Int),?_⟩;rw[ei,show Int.toNat ((N+i:Nat):Int)=N+i from rfl,show Int.toNat ((sh:Nat):Int)=sh from rfl,ed,Dr8 hmul,Ao0,Ab9,Ab9,ah,Nat.mod_eq_of_lt Q,ai];refine⟨⟨_,Au0 D,by rw[w];rfl⟩,⟨by omega,by rw[Aa5];omega⟩,by rw[Aa5];omega,by decide,by unfold I64;omega,by unfold I64;omega,⟨by omega,by omega⟩,by omega,by unfold I64;omega,?_,?_⟩
  ·rw[Ae9,show Int.toNat (((N+i:Nat):Int)+1)=N+i+1 by omega,Ae9]
   refine⟨H,i+1,_,by push_cast;rfl,rfl,by omega,by simpa using Y,(I.set af).set Q,?_,λ j r aa=>?_,λ r=>?_⟩
   ·have A:=Bh5 zs (k:=N+i) (p+d*2^sh%B) D
    have f:=Bh5 (zs.set (N+i) (p+d*2^sh%B)) (k:=N+i+1) (d*2^sh/B) (by simpa using E);have e3:(zs.set (N+i) (p+d*2^sh%B))[N+i+1]'(by simpa using E)=0:=by
     rw[List.getElem_set_ne (by omega)];exact L _ E (by omega)
    rw[e3] at f;rw[w] at A;rw[Aa4 C,n];have e4:=Nat.mod_add_div (d*2^sh) B;rw[Nat.mul_zero,Nat.add_zero,Nat.pow_succ] at f;rw[f];have e5:B^N*2^sh*(val ((dg x).take i)+B^i*d)=val zs+B^(N+i)*(d*2^sh):=by
     rw[J,Nat.pow_add];generalize B^N=a;generalize B^i=b;generalize 2^sh=c;grind
    have e6:B^(N+i)*(d*2^sh)=B^(N+i)*(d*2^sh%B)+B^(N+i)*B*(d*2^sh/B):=by
     conv=>lhs;rw[<-e4]
     rw[Nat.mul_add,Nat.mul_assoc]
    rw[e5,e6];generalize d*2^sh%B=R at *;generalize d*2^sh/B=z2 at *;generalize B^(N+i)=F at *;have:F*(p+R)=F*p+F*R:=Nat.mul_add ..;omega
   ·rw[List.getElem_set_ne (by omega),List.getElem_set_ne (by omega)]
    exact L j (by simpa using r) (by omega)
   ·simp only[show N+(i+1)=N+i+1 by omega]
    rw[List.getElem_set_self];exact ag
  ·show nl x-Int.toNat ((i:Int)+1)<nl x-Int.toNat (i:Int)
   omega
 ·have:i=nl x:=by omega
  subst this;have e:val zs=x*2^k:=by
   rw[J,<-S,List.take_length,Ac5,Bp0,<-Nat.pow_add,<-V,Nat.mul_comm]
  refine Ba4 hO I (by omega) λ s' aA aB ⟨h1,h2⟩=>⟨s',rfl,λ aC ao=>⟨s',rfl,λ g hg=>(hf g (h2 g hg)).1,?_⟩⟩;rw[e] at h1;exact h1.ext ao
theorem Bt7 {W:PW}{K:Value->PW->Prop}(h:Aa6 257 W s x)(e:nl x<=274877906944)(hk:k<=1048576)(f: ∀(s':Sl) (W':PW),Ext W W'->(Aq4 W s'/\Go.SX.Own W' 257 1 s' (cel (dg (x*2^k))))->K (.agg #[Sl.v s']) W'):
  Aa1 Tryz.prog W0 M 227 [.agg #[s.v],.int .i64 (k:Int)] W K:=
 Aa2 (λ W' c=>Eg8 (h.ext c) e hk) fun | W',_,g,c,i,⟨s',rfl,j,h⟩=>f s' g (c.trans i) ⟨j.back c,h⟩
end Go.Proofs.YtkgeopnakkcdoaaGreatDoor
namespace Go.Proofs.YtkgeopnakkcdoaaGreatDoor
open Go Go.SX
variable {M:Nat->Prop}{W0:PW}{k x:Nat}{s:Sl}
def Fu9 (l:List Nat) (sh:Nat) (W0:PW) (pl:List PL) (W:PW):Prop:=
 match pl with
 | [.val (.int .i64 k),.row xs]=>Ext W0 W/\∃(k':Nat) (zs:List Nat),k=(k':Int)/\xs=cel zs/\k'<=l.length/\zs.length=l.length/\Dig zs/\
   val (zs.take k')=val (l.take k')/2^sh/\(∀(h:k'-1<zs.length),0<k'->zs[k'-1]<2^(32-sh))
 | _=>False
def Fw3 (l:List Nat) (pl:List PL) (W:PW):Nat:=
 match pl with
 | [.val (.int .i64 k),_]=>l.length-k.toNat
 | _=>0
theorem Et1 {d:Nat}{b:Nat}{sh:Nat}{A:Nat}(h:sh<32):(A+b*B*d)/2^sh=A/2^sh+b*(d*2^(32-sh)%B)+b*B*(d/2^sh):=by
 have c:B=2^sh*2^(32-sh):=by rw[<-Nat.pow_add,show sh+(32-sh)=32 by omega];rfl
 have f:A+b*B*d=A+2^sh*(b*(2^(32-sh)*d)):=by
  rw[c];generalize 2^sh=p;generalize 2^(32-sh)=q;grind
 have e:=Nat.mod_add_div (d*2^(32-sh)) B;have g:d*2^(32-sh)/B=d/2^sh:=by
  rw[c];exact Nat.mul_div_mul_right _ _ (Nat.two_pow_pos _)
 rw[f,Nat.add_mul_div_left _ _ (Nat.two_pow_pos sh),Nat.mul_comm (2^(32-sh)) d];rw[g] at e;generalize d*2^(32-sh)%B=i at *;generalize d/2^sh=z2 at *;rw[<-e,Nat.mul_add,Nat.mul_assoc,Nat.add_assoc]
theorem Eh9 (h:Aa6 257 W0 s x)(hx:nl x<=274877906944)(hk:k<=1048576):
  Aa0 Tryz.prog 229 [.agg #[s.v],.int .i64 (k:Int)] W0 M λ v W'=>∃(s':Sl),v = .agg #[Sl.v s']/\Aa6 257 W' s' (x/2^k):=by
 apply Df5;have hn:=h.n;have hl:(dg x).length=nl x:=rfl;simp only[Fj7 hk,Eg1 (show k<=1099511627776 by omega),Em5];obtain⟨N,R⟩: ∃N,k/32=N:=⟨_,rfl⟩;obtain⟨sh,S⟩: ∃sh,k%32=sh:=⟨_,rfl⟩;have T:sh<32:=by omega
 have U:k=32*N+sh:=by omega
 rw[R,S];refine⟨by decide,λ V W1 hE=>⟨⟨none,0,0⟩,rfl,?_⟩,λ X=>?_⟩
 ·have:x/2^k=0:=by
   apply Nat.div_eq_of_lt;have h1:=Bb4 x;rw[Bp0] at h1;exact Nat.lt_of_lt_of_le h1 (Nat.pow_le_pow_right (by decide) (by omega))
  rw[this];exact⟨by simp[cel,Ae8],by simp,by decide,by simp[cel,Ae8],.inl (by simp[cel,Ae8])⟩
 have au:N<nl x:=by omega
 rw[show Int.toNat ((s.n:Nat):Int)=s.n from rfl,show Int.toNat ((N:Nat):Int)=N from rfl,show Int.toNat ((sh:Nat):Int)=sh from rfl,show Int.toNat ((s.n-N:Nat):Int)=s.n-N from rfl];have o:Ad4 257 W0 (s.cut 1 N s.n) ((dg x).drop N):=by
  have:=Ad4.cut h (lo:=N) (hi:=s.n) (by omega) (by omega)
  rwa [List.take_of_length_le (by omega)] at this
 obtain⟨l,j⟩: ∃l,(dg x).drop N=l:=⟨_,rfl⟩;rw[j] at o;have hlen:l.length=s.n-N:=by rw[<-j];simp;omega
 have Y:Dig l:=by rw[<-j];exact(Ad8 x).drop N
 have av:=o.2.1;have aw:=h.2.1;refine⟨by decide,⟨by omega,by omega,by omega⟩,⟨trivial,by omega,by omega⟩,Fu9 l sh W0,Fw3 l,?_,?_⟩
 ·refine⟨Ext.refl _,0,List.replicate l.length 0,rfl,?_,by omega,by simp,λ d c=>?_,by simp[val],λ F G=>by omega⟩
  ·rw[hlen];exact Ae3 _
  ·rw[(List.mem_replicate.1 c).2];decide
 rintro l3 i4 W5 ⟨r,i,zs,rfl,rfl,hi,w,A,C,Z⟩;have H:=o.ext r;refine⟨λ X=>?_,λ V s8 W9 aA hO hf=>?_⟩
 ·have n:i<l.length:=by omega
  have g:=Y.at n;obtain⟨d,c⟩: ∃d,l[i]=d:=⟨_,rfl⟩;rw[c] at g;have aa:i<zs.length:=by omega
  have I:d/2^sh<B:=Nat.lt_of_le_of_lt (Nat.div_le_self ..) g;have ht:Int.toNat (i:Int)=i:=rfl;rw[ht];refine⟨Ad4.inB H (by omega) (by omega),(d:Int),by rw[<-c];exact Ad4.at H n,?_⟩;dsimp only;rw[Ay2];have J:d/2^sh<2^(32-sh):=by
   rw[Nat.div_lt_iff_lt_mul (Nat.two_pow_pos _),<-Nat.pow_add,show 32-sh+sh=32 by omega];exact g
  refine⟨by decide,⟨by omega,by show(sh:Int)<=32;omega⟩,⟨by omega,by rw[Aa5];omega⟩,by rw[Aa5];omega,λ aC=>?_,λ aD=>?_⟩
  ·have ac:i-1<zs.length:=by omega
   have ei:(i:Int)-1=((i-1:Nat):Int):=by omega
   obtain⟨p,D⟩: ∃p,zs[i-1]=p:=⟨_,rfl⟩;have L:=Z ac (by omega);rw[D] at L;have ae:List.length (List.set (cel zs) i [Value.int .u32 ((d/2^sh:Nat):Int)])=zs.length:=by simp[Aa5]
   have af:(32:Int)-(sh:Int)=((32-sh:Nat):Int):=by omega
   have ag:2^(32-sh)<=4294967296:=Nat.pow_le_pow_right (by decide:0<2) (show 32-sh<=32 by omega);have hmul:d*2^(32-sh)<18446744073709551616:=by
    have h1:(d+1)*2^(32-sh)<=B*4294967296:=Nat.mul_le_mul g ag;have h2:=Nat.two_pow_pos (32-sh);rw[Nat.add_mul] at h1;unfold B at h1;omega
   have ed:IntKind.wrap .u64 ((d:Nat):Int)=(d:Int):=Ab1 (by unfold B at g;omega);have E:B=2^(32-sh)*2^sh:=by rw[<-Nat.pow_add,show 32-sh+sh=32 by omega];rfl
   have lo:(d*2^(32-sh))%B%2^(32-sh)=0:=by
    rw[E,Nat.mod_mul_right_mod];exact Nat.mul_mod_left ..
   have ai:(d*2^(32-sh))%B<B:=Nat.mod_lt _ Ad3;have aj:p+(d*2^(32-sh))%B<B:=by
    have f:=Nat.mod_add_div ((d*2^(32-sh))%B) (2^(32-sh));rw[lo,Nat.zero_add] at f;generalize (d*2^(32-sh))%B/2^(32-sh)=q at f;have:q<2^sh:=by
     apply Nat.lt_of_mul_lt_mul_left (a:=2^(32-sh));rw[f,<-E];exact ai
    have:=Nat.mul_le_mul_left (2^(32-sh)) (show q+1<=2^sh from this);rw[Nat.mul_add,f,<-E] at this;omega
   have ak:bits .or .u32 (p:Int) (((d*2^(32-sh)%B:Nat)):Int)=((p+d*2^(32-sh)%B:Nat):Int):=by
    rw[u32_or_nat _ _ (by unfold B at *;omega) (by unfold B at *;omega),Nat.or_comm,nat_join (32-sh) _ _ lo L,Nat.add_comm]
   rw[ae,ei,af,show Int.toNat ((i-1:Nat):Int)=i-1 from rfl,show Int.toNat ((32-sh:Nat):Int)=32-sh from rfl];refine⟨by unfold I64;omega,⟨by omega,by omega⟩,(p:Int),?_⟩;rw[ed,Dr8 hmul,Ab9,ak];refine⟨⟨[Value.int .u32 (p:Int)],?_,rfl⟩,by decide,by unfold I64;omega,⟨by omega,by show((32-sh:Nat):Int)<=64;omega⟩,⟨by omega,by omega⟩,by omega,by unfold I64;omega,?_,?_⟩
   ·rw[Ae9,Au0 (by simp;omega),List.getElem_set_ne (by omega),D]
   ·rw[Ae9,Ae9]
    refine⟨r,i+1,_,by push_cast;rfl,rfl,by omega,by simpa using w,(A.set I).set aj,?_,λ F G=>?_⟩
    ·obtain⟨m,rfl⟩: ∃m,i=m+1:=⟨i-1,by omega⟩
     simp only[Nat.add_sub_cancel] at *;rw[Aa4 n,c,Nat.pow_succ,Et1 T,<-C];have O:m+1<((zs.set (m+1) (d/2^sh)).set m (p+d*2^(32-sh)%B)).length:=by simp;omega
     have P:m<((zs.set (m+1) (d/2^sh)).set m (p+d*2^(32-sh)%B)).length:=by simp;omega
     have a1:((zs.set (m+1) (d/2^sh)).set m (p+d*2^(32-sh)%B))[m]'P=p+d*2^(32-sh)%B:=List.getElem_set_self _;have a2:((zs.set (m+1) (d/2^sh)).set m (p+d*2^(32-sh)%B))[m+1]'O=d/2^sh:=by
      rw[List.getElem_set_ne (by omega),List.getElem_set_self]
     rw[Aa4 O,Aa4 P,Aa4 (show m<zs.length by omega),a1,a2,D,At3 (Nat.le_refl _),At3 (by omega),Nat.pow_succ];generalize d*2^(32-sh)%B=z1;rw[Nat.mul_add];omega
    ·simp only[Nat.add_sub_cancel]
     rw[List.getElem_set_ne (by omega),List.getElem_set_self];exact J
   ·show l.length-Int.toNat ((i:Int)+1)<l.length-Int.toNat (i:Int)
    omega
  ·have:i=0:=by omega
   subst this;refine⟨by unfold I64;omega,?_,?_⟩
   ·rw[Ae9]
    refine⟨r,1,_,rfl,rfl,by omega,by simpa using w,A.set I,?_,λ F G=>?_⟩
    ·rw[Aa4 (by simpa using aa),Aa4 n,c,List.getElem_set_self]
     simp[val]
    ·simp only[Nat.sub_self]
     rw[List.getElem_set_self];exact J
   ·show l.length-Int.toNat (((0:Nat):Int)+1)<l.length-Int.toNat ((0:Nat):Int)
    omega
 ·have:i=l.length:=by omega
  subst this;have e:val zs=x/2^k:=by
   rw[List.take_length,<-w,List.take_length] at C;rw[C,<-j];have Q:=Am8 (dg x) (k:=N) (by omega);rw[Ac5] at Q;have f:val ((dg x).drop N)=x/B^N:=by
    conv=>rhs;rw[Q]
    rw[Nat.add_mul_div_left _ _ (Nat.pow_pos Ad3),Nat.div_eq_of_lt (Ae6 (Ad8 x) N),Nat.zero_add]
   rw[f,Bp0,Nat.div_div_eq_div_mul,<-Nat.pow_add,<-U]
  refine Ap7 hO.row A (by omega) λ s' aG aH h1=>⟨s',rfl,λ aI am=>⟨s',rfl,?_⟩⟩;rw[e] at h1;exact h1.ext am
theorem Br2 {W:PW}{K:Value->PW->Prop}(h:Aa6 257 W s x)(e:nl x<=274877906944)(hk:k<=1048576)(f: ∀(s':Sl) (W':PW),Ext W W'->(Aa6 257 W' s' (x/2^k))->K (.agg #[Sl.v s']) W'):
  Aa1 Tryz.prog W0 M 229 [.agg #[s.v],.int .i64 (k:Int)] W K:=
 Mi4 (λ _ c=>Eh9 (h.ext c) e hk) fun | _,W',c,⟨s',rfl,h⟩=>f s' W' c h
end Go.Proofs.YtkgeopnakkcdoaaGreatDoor
namespace Go.Proofs.YtkgeopnakkcdoaaGreatDoor
open Go Go.SX
variable {M:Nat->Prop}{W0:PW}{l us vs:List Nat}{m:Nat}{u:Sl}
theorem val_two (h:l.length=m+2):val l=val (l.take m)+B^m*(l[m+1]*B+l[m]):=by
 have e:=Aa4 (l:=l) (k:=m+1) (by omega);rw[Aa4 (l:=l) (k:=m) (by omega),show m+1+1=l.length by omega,List.take_length,Nat.pow_succ] at e;rw[e];generalize B^m=b;grind
theorem Ei6 (h:l.length=m+3):val l=val (l.take m)+B^m*((l[m+2]*B+l[m+1])*B+l[m]):=by
 have e:=Aa4 (l:=l) (k:=m+2) (by omega);rw[Aa4 (l:=l) (k:=m+1) (by omega),Aa4 (l:=l) (k:=m) (by omega),show m+2+1=l.length by omega,List.take_length] at e;simp only[Nat.pow_succ] at e;rw[e];generalize B^m=b;grind
def Fc4 (U V top first:Nat) (W0:PW) (l:List PL) (W:PW):Prop:=
 match l with
 | [.val (.int .u64 g),.val (.int .u64 r)]=>Ext W0 W/\∃c e:Nat,g=(c:Int)/\r=(e:Int)/\top=c*first+e/\U/V<=c/\c<18446744073709551616/\e<8589934592
 | _=>False
def Eh7 (l:List PL) (W:PW):Nat:=
 match l with
 | [.val (.int .u64 g),_]=>g.toNat
 | _=>0
theorem Fb6 {v:Sl}(hu:Ad4 257 W0 u us)(j:Ad4 257 W0 v vs)(A:Dig us)(E:Dig vs)(hl:us.length=vs.length+1)(F:2<=vs.length)(ht: ∀h:vs.length-1<vs.length,vs[vs.length-1]≠0)(G:val us<val vs*B)(hb:vs.length<=1099511627776):
  Aa0 Tryz.prog 258 [u.v,v.v] W0 M λ v W'=>∃(g:Nat),v = .int .u64 (g:Int)/\val us/val vs<=g/\g<=val us/val vs+1/\g<B:=by
 apply Cl2;obtain⟨m,hm⟩: ∃m,vs.length=m+2:=⟨vs.length-2,by omega⟩;have ag:us.length=m+3:=by omega
 have H:=val_two hm;have C:=Ei6 ag;have hn:=j.n;have b0:=A.at (k:=m+2) (by omega);have b1:=A.at (k:=m+1) (by omega);have b2:=A.at (k:=m) (by omega);have c1:=E.at (k:=m+1) (by omega);have c2:=E.at (k:=m) (by omega);have a0:=fun {W:PW} (h:Ad4 257 W u us)=>Ad4.at h (i:=m+2) (by omega);have a1:=fun {W:PW} (h:Ad4 257 W u us)=>Ad4.at h (i:=m+1) (by omega);have a2:=fun {W:PW} (h:Ad4 257 W u us)=>Ad4.at h (i:=m) (by omega);have d1:=fun {W:PW} (h:Ad4 257 W v vs)=>Ad4.at h (i:=m+1) (by omega);have d2:=fun {W:PW} (h:Ad4 257 W v vs)=>Ad4.at h (i:=m) (by omega);have ai:vs[m+1]'(by omega)≠0:=by
  have h:=ht (by omega);simp only[hm,show m+2-1=m+1 from rfl] at h;exact h
 have ul:=Ae6 A m;have vl:=Ae6 E m;obtain⟨I,e0⟩: ∃d,us[m+2]'(by omega)=d:=⟨_,rfl⟩;obtain⟨J,e1⟩: ∃d,us[m+1]'(by omega)=d:=⟨_,rfl⟩;obtain⟨c,e2⟩: ∃d,us[m]'(by omega)=d:=⟨_,rfl⟩;obtain⟨first,e3⟩: ∃d,vs[m+1]'(by omega)=d:=⟨_,rfl⟩;obtain⟨v2,e4⟩: ∃d,vs[m]'(by omega)=d:=⟨_,rfl⟩;simp only[e0,e1,e2,e3,e4] at *;have D:0<first:=Nat.pos_of_ne_zero ai;have L:0<B^m:=Nat.pow_pos Ad3;obtain⟨U,P⟩: ∃U,val us=U:=⟨_,rfl⟩;obtain⟨V,Q⟩: ∃V,val vs=V:=⟨_,rfl⟩;rw[P] at C G;rw[Q] at H G;rw[P,Q];obtain⟨top,R⟩: ∃t,I*B+J=t:=⟨_,rfl⟩;rw[R] at C;have S:(first*B+v2)*B^m<=V:=by rw[H,Nat.mul_comm];omega
 have T:V<(first*B+v2+1)*B^m:=by rw[H,Nat.add_mul,Nat.mul_comm (first*B+v2)];omega
 have ao:(top*B+c)*B^m<=U:=by rw[C,Nat.mul_comm];omega
 have ap:U<(top*B+c+1)*B^m:=by rw[C,Nat.add_mul,Nat.mul_comm (top*B+c)];omega
 have Y:0<V:=by
  have:0<(first*B+v2)*B^m:=Nat.mul_pos (by have:=Nat.mul_pos D Ad3;omega) L;omega
 have Z:U/V*V<=U:=Nat.div_mul_le_self U V;have aq:U/V<B:=(Nat.div_lt_iff_lt_mul Y).2 (by rw[Nat.mul_comm];exact G);obtain⟨q,o⟩: ∃q,U/V=q:=⟨_,rfl⟩;have ar:top<(first+1)*B:=by
  have h1:(top*B+c)*B^m<(first*B+v2+1)*B^m*B:=by
   have:=Nat.mul_lt_mul_of_pos_right T Ad3;omega
  have F:(first*B+v2+1)*B^m*B=(first*B+v2+1)*B*B^m:=by rw[Nat.mul_assoc,Nat.mul_assoc,Nat.mul_comm (B^m)]
  rw[F] at h1;have h3:=Nat.lt_of_mul_lt_mul_right h1;have h4:(first*B+v2+1)*B<=(first+1)*B*B:=Nat.mul_le_mul_right B (by rw[Nat.add_mul];omega);exact Nat.lt_of_mul_lt_mul_right (a:=B) (by omega)
 have au:IntKind.wrap .u64 (first:Int)=(first:Int):=Ab1 (by unfold B at c1;omega);have ab:top<18446744073709551616:=by unfold B at *;omega
 have av:bits .or .u64 (Bc5 .u64 (IntKind.wrap .u64 (I:Int)) 32) (IntKind.wrap .u64 (J:Int))=(top:Int):=by
  rw[Ab1 (n:=I) (by unfold B at b0;omega),Ab1 (n:=J) (by unfold B at b1;omega),Eh5 b0,Dq8 b1 b0,R]
 have aw:IntKind.wrap .u64 (Int.tdiv (top:Int) (first:Int))=((top/first:Nat):Int):=by
  rw[Int.tdiv_eq_ediv_of_nonneg (by omega),<-Int.natCast_ediv,Ab1 (Nat.lt_of_le_of_lt (Nat.div_le_self ..) ab)]
 have ax:Int.tmod (top:Int) (first:Int)=((top%first:Nat):Int):=by
  rw[Int.tmod_eq_emod_of_nonneg (by omega)];rfl
 have x1:(v.n:Int)=((m+2:Nat):Int):=by omega
 have x2:((m+2:Nat):Int)-1=((m+1:Nat):Int):=by omega
 have x3:((m+2:Nat):Int)-2=(m:Int):=by omega
 simp only[x2,x3,x1];have t1:Int.toNat ((m+2:Nat):Int)=m+2:=rfl;have t2:Int.toNat ((m+1:Nat):Int)=m+1:=rfl;have t3:Int.toNat ((m:Nat):Int)=m:=rfl
 try simp only[t1,t2,t3]
 have q0:=Dv6 (q:=U/V) L Ad3 (V:=V) (first:=first) (top:=top) (U:=U) (X:=0) (by
   have:first*(B*B^m)=first*B*B^m:=by rw[Nat.mul_assoc]
   have:=Nat.mul_le_mul_right (B^m) (Nat.le_add_right (first*B) v2);omega) (by
   have:(top+1)*(B*B^m)=(top+1)*B*B^m:=by rw[Nat.mul_assoc]
   have:=Nat.mul_le_mul_right (B^m) (show top*B+c+1<=(top+1)*B by rw[Nat.add_mul];omega);omega) Z D
 refine⟨Ad4.inB hu (by omega) (by omega),_,a0 hu,by unfold I64;omega,Ad4.inB hu (by omega) (by omega),_,a1 hu,by unfold I64;omega,Ad4.inB j (by omega) (by omega),_,d1 j,?_⟩;dsimp only;rw[au,av,aw,ax];refine⟨by omega,by omega,Fc4 U V top first W0,Eh7,?_,?_⟩
 ·have hm:=Nat.mod_lt top D
  have hd:=Nat.mod_add_div top first;rw[Nat.mul_comm] at hd;exact⟨Ext.refl _,_,_,rfl,rfl,by omega,q0,Nat.lt_of_le_of_lt (Nat.div_le_self ..) ab,by unfold B at c1;omega⟩
 rintro i6 i7 N ⟨w,g,r,rfl,rfl,O,hq,aM,hr⟩;rw[o] at hq;have fin:g<B->g*v2<=r*B+c->U/V<=g/\g<=U/V+1/\g<B:=λ e hle=>⟨by rw[o];exact hq,Ee6 S T ao D O hle e Y,e⟩;have next:r<B->q<g->Fc4 U V top first W0 [.val (.int .u64 (IntKind.wrap .u64 ((g:Int)-1))),.val (.int .u64 (IntKind.wrap .u64 ((r:Int)+(first:Int))))] N/\
   Eh7 [.val (.int .u64 (IntKind.wrap .u64 ((g:Int)-1))),.val (.int .u64 (IntKind.wrap .u64 ((r:Int)+(first:Int))))] N<Eh7 [.val (.int .u64 (g:Int)),.val (.int .u64 (r:Int))] N:=λ f aO=>by
  have ea:(g:Int)-1=((g-1:Nat):Int):=by omega
  have eb:(r:Int)+(first:Int)=((r+first:Nat):Int):=by omega
  rw[ea,eb,Ab1 (by omega),Ab1 (by unfold B at *;omega)];refine⟨⟨w,g-1,r+first,rfl,rfl,?_,by rw[o];omega,by omega,by unfold B at *;omega⟩,?_⟩
  ·obtain⟨g',rfl⟩: ∃g',g=g'+1:=⟨g-1,by omega⟩
   rw[O,Nat.add_mul,Nat.add_sub_cancel];omega
  ·show Int.toNat ((g-1:Nat):Int)<Int.toNat (g:Int)
   omega
 refine⟨λ aP=>⟨λ ae=>?_,λ ae=>?_⟩,λ ae=>λ aQ aR=>⟨g,rfl,?_⟩⟩
 ·have f:r<B:=by unfold B;omega
  have aS:B<=g:=by unfold B;omega
  exact next f (by rw[o] at aq;omega)
 ·have f:r<B:=by unfold B;omega
  have e:g<B:=by unfold B;omega
  have e5:bits .or .u64 (Bc5 .u64 (r:Int) 32) (IntKind.wrap .u64 (c:Int))=((r*B+c:Nat):Int):=by
   rw[Ab1 (n:=c) (by unfold B at b2;omega),Eh5 f,Dq8 b2 f]
  have e6:IntKind.wrap .u64 ((g:Int)*IntKind.wrap .u64 (v2:Int))=((g*v2:Nat):Int):=by
   rw[Ab1 (n:=v2) (by unfold B at c2;omega),<-Int.natCast_mul,Ab1];have:=Nat.mul_le_mul (Nat.le_of_lt e) (Nat.le_of_lt c2);have h3:g*v2<=(B-1)*(B-1):=Nat.mul_le_mul (by omega) (by omega);unfold B at h3;omega
  refine⟨by unfold I64;omega,Ad4.inB (j.ext w) (by omega) (by omega),_,d2 (j.ext w),by unfold I64;omega,Ad4.inB (hu.ext w) (by omega) (by omega),_,a2 (hu.ext w),?_⟩;dsimp only;rw[e5,e6];refine⟨λ h=>next f (by rw[<-o];exact Ec0 L S ap Z O (by omega)),λ h aT aU=>⟨g,rfl,fin e (by omega)⟩⟩
 ·have f:B<=r:=by unfold B;omega
  have e:g<B:=by
   apply Nat.lt_of_not_le;intro h;have:=Nat.mul_le_mul_right first h;rw[Nat.add_mul,Nat.mul_comm first B] at ar;omega
  refine fin e ?_;have h1:=Nat.mul_le_mul (Nat.le_of_lt e) (Nat.le_of_lt c2);have F:=Nat.mul_le_mul_right B f;omega
theorem Dz5 {W:PW}{K:Value->PW->Prop}{v:Sl}(hu:Ad4 257 W u us)(e:Ad4 257 W v vs)(f:Dig us)(i:Dig vs)(j:us.length=vs.length+1)(n:2<=vs.length)(o: ∀h:vs.length-1<vs.length,vs[vs.length-1]≠0)(q:val us<val vs*B)(r:vs.length<=1099511627776)(w: ∀(g:Nat) (W':PW),Ext W W'->(val us/val vs<=g/\g<=val us/val vs+1/\g<B)->K (.int .u64 (g:Int)) W'):
  Aa1 Tryz.prog W0 M 258 [u.v,v.v] W K:=
 Mi4 (λ _ c=>Fb6 (hu.ext c) (e.ext c) f i j n o q r) fun | _,W',c,⟨g,rfl,h⟩=>w g W' c h
end Go.Proofs.YtkgeopnakkcdoaaGreatDoor
namespace Go.Proofs.YtkgeopnakkcdoaaGreatDoor
open Go Go.SX
def Fq3 (us vs:List Nat) (j:Nat) (g o:Nat) (cs:Array Value) (W0:PW) (l:List PL) (W:PW):Prop:=
 match l with
 | [.val (.int .u64 c),.val (.int .u64 low),.val (.int .i64 i)]=>∃(f h e:Nat) (ws:List Nat),c=(f:Int)/\low=(h:Int)/\i=(e:Int)/\Aq5 W0 W g cs 257 o (cv ws)/\e<=vs.length/\ws.length=us.length/\Dig ws/\ws.drop e=us.drop e/\
   val (ws.take e)+j*val (vs.take e)=val (us.take e)+B^e*(f+h)/\f<B/\h<=1
 | _=>False
def Fq7 (vs:List Nat) (l:List PL) (W:PW):Nat:=
 match l with
 | [_,_,.val (.int .i64 i)]=>vs.length-i.toNat
 | _=>0
theorem Dw7 {W0:PW}{u:Sl}{us:List Nat}{vs:List Nat}{g:Nat}{o:Nat}{f:Nat}{cs:Array Value}{v:Sl}(hm:Mut W0 257 u g o cs us)(N:Ad4 257 W0 v vs)(Z: ∀a:Addr,v.A=Option.some a->a.block≠g)(hl:us.length=vs.length+1)(F:Dig us)(ab:Dig vs)(hg:f<B)(hb:vs.length<=1099511627776):
  Aa0 Tryz.prog 259 [u.v,v.v,.int .u64 (f:Int)] W0 (λ b=>b=g) λ r W'=>∃(neg:Nat) (ws:List Nat),r = .bool (decide (neg=1))/\neg<=1/\ws.length=us.length/\Dig ws/\val ws+f*val vs=val us+B^us.length*neg/\Aq5 W0 W' g cs 257 o (cv ws):=by
 apply Dc5;have hn:=N.n;refine⟨Fq3 us vs f g o cs W0,Fq7 vs,⟨0,0,0,us,rfl,rfl,rfl,hm.start (Ext.refl _),by omega,rfl,F,rfl,by simp[val],by decide,by omega⟩,?_⟩;rintro i3 i4 i5 W6 ⟨c,low,i,ws,rfl,rfl,rfl,E,hi,C,O,G,P,hc,Q⟩;have ae:=hm.put E C;have A:=ae.row;have R:Ad4 257 W6 v vs:=Row.other N E.ext λ a ha=>Z a ha;have S:may W0 (λ b=>b=g) g:=.inl rfl;refine⟨λ ao=>?_,λ ap=>?_⟩
 ·have H:i<vs.length:=by omega
  have h:i<ws.length:=by omega
  have j:i<us.length:=by omega
  have dv:=ab.at H;have q:=F.at j;have I:ws[i]=us[i]:=by
   have h1:ws[i]?=us[i]?:=by
    have:=congrArg (λ l=>l[0]?) G
    simpa using this
   rw[List.getElem?_eq_getElem h,List.getElem?_eq_getElem j] at h1;exact Option.some.inj h1
  have T:=Ad4.at R H;have w:=Ad4.at A h;rw[I] at w;obtain⟨x,U⟩: ∃x,vs[i]=x:=⟨_,rfl⟩;obtain⟨y,D⟩: ∃y,us[i]=y:=⟨_,rfl⟩;rw[U] at T dv;rw[D] at w q;have V:c+f*x<=(B-1)*B:=by
   have h1:f*x<=(B-1)*(B-1):=Nat.mul_le_mul (by omega) (by omega);unfold B at *;omega
  have e1:IntKind.wrap .u64 ((c:Int)+IntKind.wrap .u64 ((f:Int)*IntKind.wrap .u64 (x:Int)))=((c+f*x:Nat):Int):=by
   have h1:f*x<=(B-1)*(B-1):=Nat.mul_le_mul (by omega) (by omega);rw[Ab1 (n:=x) (by unfold B at dv;omega),<-Int.natCast_mul,Ab1 (n:=f*x) (by unfold B at h1;omega),<-Int.natCast_add,Ab1 (by unfold B at V;omega)]
  have e2:bits .and .u64 ((c+f*x:Nat):Int) 4294967295=(((c+f*x)%B:Nat):Int):=by
   have:=bits_and_u64_nat (c+f*x) 4294967295 (by unfold B at V;omega) (by decide);rw[show((4294967295:Nat):Int)=4294967295 from rfl] at this;rw[this];congr 1;exact Nat.and_two_pow_sub_one_eq_mod _ 32
  have J:IntKind.wrap .u64 (y:Int)=(y:Int):=Ab1 (by unfold B at q;omega);obtain⟨z,neg,s1,s2,s3,s4,L⟩:=Cg9 (d:=(c+f*x)%B) q Q (Nat.mod_lt _ Ad3);refine⟨Ad4.inB R (by omega) (by omega),_,T,Ad4.inB A (by omega) (by omega),_,w,Ad4.inB A (by omega) (by omega),?_⟩;rw[e1,e2,J,s1,s2,Ao0,Nat.mul_one,Nat.add_zero,show Int.toNat (i:Int)=i from rfl];refine Ar7 hm E C h S λ W9 ai=>⟨by unfold I64;omega,⟨(c+f*x)/B,neg,i+1,_,rfl,rfl,by push_cast;rfl,ai,by omega,by simpa using C,O.set s4,?_,?_,?_,s3⟩,?_⟩
  ·rw[Ah5 (Nat.lt_succ_self i)]
   have:=congrArg (List.drop 1) G
   simpa[List.drop_drop] using this
  ·rw[Ac1 h,Aa4 H,Aa4 j,U,D,Nat.pow_succ]
   exact Ee8 P L
  ·rw[Nat.div_lt_iff_lt_mul Ad3]
   unfold B at *;omega
  ·show vs.length-Int.toNat ((i:Int)+1)<vs.length-Int.toNat (i:Int)
   omega
 ·have:i=vs.length:=by omega
  subst this;have h:vs.length<ws.length:=by omega
  have j:vs.length<us.length:=by omega
  have q:=F.at j;have I:ws[vs.length]=us[vs.length]:=by
   have h1:ws[vs.length]?=us[vs.length]?:=by
    have:=congrArg (λ l=>l[0]?) G
    simpa using this
   rw[List.getElem?_eq_getElem h,List.getElem?_eq_getElem j] at h1;exact Option.some.inj h1
  have w:=Ad4.at A h;rw[I] at w;obtain⟨y,D⟩: ∃y,us[vs.length]=y:=⟨_,rfl⟩;rw[D] at w q;have J:IntKind.wrap .u64 (y:Int)=(y:Int):=Ab1 (by unfold B at q;omega);obtain⟨z,neg,s1,s2,s3,s4,L⟩:=Cg9 (d:=c) q Q hc;rw[show(v.n:Int)=((vs.length:Nat):Int) by omega,show Int.toNat ((vs.length:Nat):Int)=vs.length from rfl];refine⟨Ad4.inB A (by omega) (by omega),_,w,Ad4.inB A (by omega) (by omega),?_⟩;rw[J,s1,s2,Nat.mul_one,Nat.add_zero];refine Ar7 hm E C h S λ ar aj au ak=>⟨neg,_,?_,s3,by simpa using C,O.set s4,?_,aj.ext' ak⟩
  ·congr 1
   apply decide_eq_decide.2;omega
  ·have h1:(ws.set vs.length z).take (vs.length+1)=ws.set vs.length z:=List.take_of_length_le (by simp;omega)
   have X:=Ac1 (d:=z) h;rw[h1] at X;have Y:=Aa4 j;rw[show us.take (vs.length+1)=us from List.take_of_length_le (by omega),D] at Y;rw[List.take_length] at P;rw[X,Y,hl,Nat.pow_succ];generalize B^vs.length=b at *;have:b*(z+low+c)=b*(y+B*neg):=by rw[L]
   have e:b*B*neg=b*(B*neg):=Nat.mul_assoc ..;have e4:b*(z+low+c)=b*z+b*(c+low):=by rw[Nat.add_assoc,Nat.mul_add,Nat.add_comm low c]
   have e5:b*(y+B*neg)=b*y+b*(B*neg):=Nat.mul_add ..;omega
end Go.Proofs.YtkgeopnakkcdoaaGreatDoor
