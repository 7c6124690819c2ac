import Derived.Test.YtkgeopnakkcdoaaGreatW5
import Derived.Test.YtkgeopnakkcdoaaGreatR4
import Derived.Test.YtkgeopnakkcdoaaGreatW3
import Derived.Test.YtkgeopnakkcdoaaGreatLib3
import Derived.Shelf.SlSortCmp.WholeK
import Derived.Shelf.SlGeneric
import Derived.Test.YtkgeopnakkcdoaaGreatProg
import Derived.Maps.Keyed
import Derived.DeepKeys5
import Derived.Test.YtkgeopnakkcdoaaGreatR5
import Derived.Shelf.Spec.SlicesGrow
set_option linter.unusedVariables false
set_option linter.unusedSimpArgs false
set_option maxRecDepth 100000
namespace Go.Proofs.YtkgeopnakkcdoaaGreat
open Go Go.SX
variable {K:Value->PW->Prop}{M:Nat->Prop}{W W0:PW}{b b':Bool}{k x:Nat}{p q:Rat}{s s' t t':Sl}{z:Int}
def ntI (x:Nat) (W0:PW) (l:List PL) (W:PW):Prop:=
 match l with
 | [.row e,.val (.slice A n c)]=>W0.w.heap.size<=W.w.heap.size/\∃(d:List Nat) (y:Nat),e=An4 d/\dec x=d ++ dec y/\nl y<=nl x/\Go.SX.Own W 214 1 ⟨A,n,c⟩ (cel (dg y))/\Aq4 W0 ⟨A,n,c⟩
 | _=>False
noncomputable def ntM (l:List PL) (W:PW):Nat:=
 match l with
 | [_,.val (.slice A n c)]=>slN W 214 ⟨A,n,c⟩
 | _=>0
def ntJ (y:Nat) (s:Sl) (W0:PW) (l:List PL) (W:PW):Prop:=
 match l with
 | [.val (.int .u64 r),.val (.int .i64 i)]=>W0.w.heap.size<=W.w.heap.size/\∃(c k:Nat) (ws:List Nat),r=(c:Int)/\i=(k:Int)-1/\k<=nl y/\c<10/\ws.length=nl y/\Dig ws/\Go.SX.Own W 214 1 s (cel ws)/\
   10*val (ws.drop k)+c=val ((dg y).drop k)/\ws.take k=(dg y).take k
 | _=>False
def dnM (l:List PL) (W:PW):Nat:=
 match l with
 | [_,.val (.int .i64 i)]=>(i+1).toNat
 | _=>0
theorem Fq8 {r:Nat}{d:Nat}{V:Nat}{U:Nat}(h:10*V+r=U)(c:r<10)(f:d<B):(r*B+d)/10<B/\10*((r*B+d)/10+B*V)+(r*B+d)%10=d+B*U:=by
 have e:=Nat.mod_add_div (r*B+d) 10;have j:B*U=10*(B*V)+r*B:=by rw[<-h,Nat.mul_add];grind
 generalize B*V=x at *;generalize B*U=y at *;unfold B at *;omega
theorem Dl5 (h:Aa6 214 W0 s x)(hx:nl x<=100000000):
  Aa0 Tryz.prog 97 [s.v] W0 M λ v W'=>v = .string (En3 x)/\True:=by
 apply Bn1;have hn:=h.n;have lx:(cel (dg x)).length=nl x:=Aa5 _;refine⟨λ h0 W1 aR=>⟨?_,trivial⟩,λ h0=>⟨cel (dg x),⟨_,h⟩,by omega,λ s3 W4 ak al am=>⟨ntI x W0,ntM,⟨ak.size,[],x,rfl,rfl,Nat.le_refl _,al,λ g o=>(am g o).1⟩,?_⟩⟩⟩
 ·have:x=0:=Ad0.1 (by omega)
  subst this;rfl
 have an:x≠0:=λ e=>by rw[e,Ag9] at hn;omega
 have ao:(dec x).length<=32*nl x:=by
  refine Dn5 _ ?_;have h1:=Bb4 x;rw[Bp0] at h1;exact Nat.lt_of_lt_of_le h1 (Nat.pow_le_pow_left (by decide) _)
 rintro l7 f H ⟨ap,c,y,rfl,I,aq,w,hF⟩;have w:Go.SX.Own H 214 1 f (cel (dg y)):=w;have hF:Aq4 W0 f:=hF;have aU:c.length<=32*nl x:=by rw[I,List.length_append] at ao;omega
 have ar:f.n=nl y:=by have:=w.n;rw[Aa5] at this;exact this
 refine⟨λ aV=>⟨by unfold I64;omega,ntJ y f W0,dnM,⟨ap,0,nl y,dg y,rfl,by omega,Nat.le_refl _,by decide,rfl,Ad8 y,w,?_,rfl⟩,?_⟩,λ hz D aX aY V au=>?_⟩
 ·rw[List.drop_eq_nil_of_le (by exact Nat.le_refl _)]
  rfl
 ·have R:y≠0:=λ e=>by rw[e,Ag9] at ar;omega
  rintro i12 i13 aZ ⟨X,r,k,ws,rfl,rfl,hk,hr,aw,S,C,Y,Z⟩;refine⟨λ ax=>?_,λ ay=>?_⟩
  ·have F:k-1<ws.length:=by omega
   have aa:k-1<(dg y).length:=by show k-1<nl y;omega
   have A:(k:Int)-1=((k-1:Nat):Int):=by omega
   have ab:ws[k-1]=(dg y)[k-1]:=by
    have:(ws.take k)[k-1]?=((dg y).take k)[k-1]?:=by rw[Z]
    rw[List.getElem?_take,List.getElem?_take,if_pos (by omega),if_pos (by omega),List.getElem?_eq_getElem F,List.getElem?_eq_getElem aa] at this;exact Option.some.inj this
   have J:=S.at F;obtain⟨d,hd⟩: ∃d,ws[k-1]=d:=⟨_,rfl⟩;rw[hd] at J ab;have ad:inB f ((k-1:Nat):Int):=Own.Fi5 C (by omega) (by rw[Aa5];omega);have a0:r*B<18446744073709551616:=by unfold B;omega
   have w0:Bc5 .u64 (r:Int) 32=((r*B:Nat):Int):=Eh5 (by unfold B;omega);have G:IntKind.wrap .u64 (d:Int)=(d:Int):=Ab1 (by unfold B at J;omega);have w2:bits .or .u64 ((r*B:Nat):Int) (d:Int)=((r*B+d:Nat):Int):=Dq8 J (by unfold B;omega);have w3:Int.tdiv ((r*B+d:Nat):Int) 10=(((r*B+d)/10:Nat):Int):=by rw[Int.tdiv_eq_ediv_of_nonneg (by omega)];rfl
   have w4:Int.tmod ((r*B+d:Nat):Int) 10=(((r*B+d)%10:Nat):Int):=by rw[Int.tmod_eq_emod_of_nonneg (by omega)];rfl
   have ae:=Ah9 aa;rw[<-ab,show k-1+1=k by omega] at ae;have N:=Fq8 Y hr J;have w5:IntKind.wrap .u32 (IntKind.wrap .u64 (((r*B+d)/10:Nat):Int))=(((r*B+d)/10:Nat):Int):=by
    rw[Ab1 (by have:=N.1;unfold B at this⊢;omega),Ab9,Nat.mod_eq_of_lt N.1]
   rw[A];refine⟨ad,(d:Int),by rw[<-hd];exact Own.at1 C (Au0 F),by decide,ad,?_⟩;rw[w0,G,w2,w3,w4,w5];refine Ao7 (j:=k-1) C (by rw[Aa5];exact F) rfl (λ u hu=>by rw[List.mem_singleton.1 hu];rfl) (λ g o=>.inr (hF g o)) λ a1 g o hw aE=>⟨by decide,by unfold I64;omega,⟨Nat.le_trans X hw.Fi9.size,(r*B+d)%10,k-1,ws.set (k-1) ((r*B+d)/10),rfl,by omega,by omega,by omega,by simpa using aw,S.set N.1,by rw[<-Ae9];exact aE,?_,?_⟩,?_⟩
   ·have h1:=Ah9 (l:=ws.set (k-1) ((r*B+d)/10)) (k:=k-1) (by simpa using F)
    rw[List.getElem_set_self,show k-1+1=k by omega,Ah5 (n:=k) (k:=k-1) (by omega)] at h1;rw[h1,ae];exact N.2
   ·rw[At3 (Nat.le_refl _)]
    have:=congrArg (List.take (k-1)) Z
    rwa [List.take_take,List.take_take,Nat.min_eq_left (by omega)] at this
   ·show Int.toNat (((k-1:Nat):Int)-1+1)<Int.toNat (((k-1:Nat):Int)+1)
    omega
  ·have aF:k=0:=by omega
   subst aF;rw[List.drop_zero,List.drop_zero,Ac5] at Y;have A:val ws=y/10:=by omega
   have O:r=y%10:=by omega
   have G:IntKind.wrap .u8 (IntKind.wrap .u64 (48+(r:Int)))=48+(r:Int):=by
    rw[show(48:Int)+(r:Int)=((48+r:Nat):Int) by push_cast;rfl,Ab1 (by omega),Du1 (by omega) (by omega)]
   rw[G];refine⟨by rw[Ah2];simp only[List.length_cons,List.length_nil];omega,Cm7 C.row S (by omega) λ k T U ⟨hk,he⟩=>⟨⟨f.A,k,f.c⟩,rfl,⟨Nat.le_trans X U.size,c ++ [r],y/10,?_,?_,Nat.le_trans (Ad1 (Nat.div_le_self ..)) aq,?_,λ g o=>hF g (Cj9 o)⟩,?_⟩⟩
   ·rw[Bp9];rfl
   ·rw[I,Dj5 R,O,List.append_assoc];rfl
   ·rw[<-A,he,<-Bo2]
    exact(C.ext U).take (by rw[Aa5];exact hk)
   ·have i1:Aa6 214 T ⟨f.A,k,f.c⟩ (y/10):=by
     show Ad4 214 T _ (dg (y/10));rw[<-A,he];exact Row.ext (Ad4.take C.row hk) U
    have i2:Aa6 214 H f y:=w.row;show slN T _ _<slN H _ f;rw[Bl5 i1,Bl5 i2];exact Nat.div_lt_self (by omega) (by decide)
 ·have R:y=0:=Ad0.1 (by omega)
  subst R;rw[Ay1,List.append_nil] at I;have P:(An4 c).length=c.length:=Ah2 c;have aG:D.n=c.length:=by rw[V.n,P]
  have one: ∀(z:Int) (u:Value),u∈[Value.int .u8 z]->u.oneCell'=true:=by
   intro z u hu;rw[List.mem_singleton.1 hu];rfl
  have G:IntKind.wrap .i64 (Int.tdiv (c.length:Int) 2)=((c.length/2:Nat):Int):=by
   rw[Int.tdiv_eq_ediv_of_nonneg (by omega),show(c.length:Int)/2=((c.length/2:Nat):Int) by rfl];simp[IntKind.wrap,IntKind.bits,IntKind.signed];omega
  rw[aG,G]
  refine⟨λ l W=>match l with
   | [.val (.int .i64 i)]=>∃(k:Nat) (ys:List (List Value)),i=(k:Int)/\Go.SX.Own W 5 1 D ys/\ys.length=c.length/\k<=c.length/2/\
     ∀a,a<(An4 c).length->ys[a]?=if a<k\/(An4 c).length<=a+k then(An4 c)[(An4 c).length-1-a]? else(An4 c)[a]?
   | _=>False,λ l _=>match l with | [.val (.int .i64 i)]=>c.length-i.toNat | _=>0,⟨0,An4 c,rfl,V,P,Nat.zero_le _,λ a ha=>by rw[if_neg (by omega)]⟩,?_⟩
  rintro i24 a3 ⟨k,ys,rfl,hO,aH,hk,Q⟩;refine⟨by decide,λ ay=>?_,λ ax=>⟨(dec x).reverse.map λ(d:Nat)=>48+(d:Int),?_,λ a4 _=>⟨?_,trivial⟩⟩⟩
  ·have a5:k<c.length-1-k:=by omega
   have ej:(c.length:Int)-1-(k:Int)=((c.length-1-k:Nat):Int):=by omega
   have aJ:c.length-1-k<c.length:=by omega
   have aK:k<c.length:=by omega
   have A:(An4 c)[c.length-1-k]?=some [.int .u8 (48+c[c.length-1-k]:Int)]:=by simp[An4,aJ]
   have O:(An4 c)[k]?=some [.int .u8 (48+c[k]:Int)]:=by simp[An4,aK]
   have y1:ys[c.length-1-k]?=some [.int .u8 (48+c[c.length-1-k]:Int)]:=by rw[Q _ (by omega),if_neg (by omega),A]
   have y2:ys[k]?=some [.int .u8 (48+c[k]:Int)]:=by rw[Q _ (by omega),if_neg (by omega),O]
   rw[ej];have af:inB D ((c.length-1-k:Nat):Int):=Own.Fi5 hO (by omega) (by omega);have ag:inB D ((k:Nat):Int):=Own.Fi5 hO (by omega) (by omega);have ah: ∀g,D.v.ownBlock=some g->may W0 M g:=λ g o=>.inr (au g o).1;refine⟨by unfold I64;omega,by unfold I64;omega,by unfold I64;omega,by unfold I64;omega,af,_,Own.at1 hO y1,ag,_,Own.at1 hO y2,ag,?_⟩;refine Ao7 (j:=k) hO (by omega) rfl (one _) ah λ W8 g o hw aN=>⟨af,?_⟩;refine Ao7 (j:=c.length-1-k) aN (by rw[List.length_set];omega) rfl (one _) ah λ H g' a8 a9 w=>⟨by unfold I64;omega,⟨k+1,_,by push_cast;rfl,w,by simp[aH],by omega,?_⟩,?_⟩
   ·have:=Dr2 (xs:=An4 c) (ys:=ys) (by omega) (by omega) (by rw[P];exact A) O Q
    rw[P] at this⊢;exact this
   ·show c.length-Int.toNat ((k:Int)+1)<c.length-Int.toNat (k:Int)
    omega
  ·have:=Do5 (xs:=An4 c) (ys:=ys) (k:=k) (by omega) (by omega) Q
   have e:((dec x).reverse.map λ(d:Nat)=>48+(d:Int)).map (λ i=>[Value.int .u8 i])=(An4 c).reverse:=by rw[I];simp[An4]
   rw[e,<-this];exact hO.row
  ·unfold En3
   rw[if_neg an]
theorem At9 (h:Aa6 214 W s x)(d:nl x<=100000000)(e: ∀(W':PW),Ext W W'->(True)->K (.string (En3 x)) W'):
  Aa1 Tryz.prog W0 M 97 [s.v] W K:=
 Mi4 (λ _ c=>Dl5 (h.ext c) d) fun | _,W',c,⟨rfl,h⟩=>e W' c h
theorem De9 (h:Ab5 214 W0 s b z)(c:nl z.natAbs<=100000000):
  Aa0 Tryz.prog 96 [.agg #[.bool b,s.v]] W0 M λ v W'=>v = .string (Dq2 z)/\True:=by
 apply Bn4;have j:=Av8 z.natAbs;have d:=h.2;refine⟨λ e=>At9 h.1 c λ n o _=>⟨_,rfl,?_,λ r _=>⟨?_,trivial⟩⟩,λ f=>At9 h.1 c λ u w _=>⟨_,rfl,λ A _=>⟨?_,trivial⟩⟩⟩
 ·show((1:Nat):Int)+_<=_
  omega
 ·have:z<0:=by rw[d] at e;exact of_decide_eq_true e
  unfold Dq2;rw[if_pos this]
 ·have:¬z<0:=by rw[d] at f;exact of_decide_eq_false f
  unfold Dq2;rw[if_neg this]
theorem Bf1 (h:Ab5 214 W s b z)(d:nl z.natAbs<=100000000)(e: ∀(W':PW),Ext W W'->(True)->K (.string (Dq2 z)) W'):
  Aa1 Tryz.prog W0 M 96 [.agg #[.bool b,s.v]] W K:=
 Mi4 (λ _ c=>De9 (h.ext c) d) fun | _,W',c,⟨rfl,h⟩=>e W' c h
theorem Di8 (h:Ab6 214 W0 b s t q)(j:Sz k q)(hk:k<=100000000):
  Aa0 Tryz.prog 44 [.agg #[.bool b,s.v,t.v]] W0 M λ v W'=>v = .string (Ed0 q)/\True:=by
 apply Bm4;have h1:=j.1;have D:=j.2;have F:=Cr1 q.num;have G:=Av8 q.den;refine Ag4 h λ s3 H n u=>⟨s3,rfl,Ae0 (x:=1) (by decide) λ w I d A=>⟨w,rfl,Aj3 (u.ext d) A (by omega) λ J o _=>⟨_,rfl,λ f=>?_,λ f=>?_⟩⟩⟩
 ·have c:q.den=1:=(Av7 _ 1).1 f
  refine Bf1 (h.1.ext ((n.trans d).trans o)) (by omega) λ N O _=>⟨_,rfl,λ P _=>⟨?_,trivial⟩⟩;unfold Ed0;rw[if_pos c]
 ·have c:q.den≠1:=λ e=>f ((Av7 _ 1).2 e)
  have B:Aa6 214 W0 t q.den:=by
   rcases h.2 with h | h
   ·exact h
   ·exact absurd h.1 c
  have r:=(n.trans d).trans o;refine Bf1 (h.1.ext r) (by omega) λ Q C _=>⟨_,rfl,?_,At9 (B.ext (r.trans C)) (by omega) λ R S _=>⟨_,rfl,?_,λ T _=>⟨?_,trivial⟩⟩⟩
  ·show _+((1:Nat):Int)<=_
   omega
  ·rw[ByteArray.size_append]
   show(((Dq2 q.num).size+1:Nat):Int)+_<=_;omega
  ·unfold Ed0
   rw[if_neg c]
theorem Cl5 (h:Ab6 214 W b s t q)(d:Sz k q)(hk:k<=100000000)(e: ∀(W':PW),Ext W W'->(True)->K (.string (Ed0 q)) W'):
  Aa1 Tryz.prog W0 M 44 [.agg #[.bool b,s.v,t.v]] W K:=
 Mi4 (λ _ c=>Di8 (h.ext c) d hk) fun | _,W',c,⟨rfl,h⟩=>e W' c h
theorem Ej2 (h1:Ab3 214 W0 s b t p)(c:Ab6 214 W0 b' s' t' q)(d:Sz k p)(e:Sz k q)(hk:k<=100000000):
  Aa0 Tryz.prog 13 [.agg #[s.v,.bool b,t.v],.agg #[.bool b',s'.v,t'.v]] W0 M λ v W'=>v = .bool (decide (Ed0 p=Ed0 q))/\True:=by
 apply Dl2;exact Dc4 h1 d hk λ h f _=>⟨_,rfl,Cl5 (c.ext f) e hk λ j n _=>⟨_,rfl,λ o _=>⟨rfl,trivial⟩⟩⟩
theorem Bv1 (h1:Ab3 214 W s b t p)(d:Ab6 214 W b' s' t' q)(e:Sz k p)(f:Sz k q)(hk:k<=100000000)(j: ∀(W':PW),Ext W W'->(True)->K (.bool (decide (Ed0 p=Ed0 q))) W'):
  Aa1 Tryz.prog W0 M 13 [.agg #[s.v,.bool b,t.v],.agg #[.bool b',s'.v,t'.v]] W K:=
 Mi4 (λ _ c=>Ej2 (h1.ext c) (d.ext c) e f hk) fun | _,W',c,⟨rfl,h⟩=>j W' c h
end Go.Proofs.YtkgeopnakkcdoaaGreat
namespace Go.Proofs.YtkgeopnakkcdoaaGreat
open Go Go.SX
variable {K:Value->PW->Prop}{M:Nat->Prop}{W W0:PW}{a b m:Mon}{k:Nat}{s:Sl}{x y:Int}
theorem De3:
  Aa0 Tryz.prog 191 [.int .i64 x] W0 M λ v W'=>v = .bool false/\True:=by
 apply Bi1;exact λ c _=>⟨by simp,trivial⟩
theorem Bf6 (d: ∀(W':PW),Ext W W'->(True)->K (.bool false) W'):
  Aa1 Tryz.prog W0 M 191 [.int .i64 x] W K:=
 Mi4 (λ _ c=>De3 ) fun | _,W',c,⟨rfl,h⟩=>d W' c h
theorem Du6:
  Aa0 Tryz.prog 206 [.int .u8 x] W0 M λ v W'=>v = .bool false/\True:=by
 apply Bb5;exact λ c _=>⟨by simp,trivial⟩
theorem Bk7 (d: ∀(W':PW),Ext W W'->(True)->K (.bool false) W'):
  Aa1 Tryz.prog W0 M 206 [.int .u8 x] W K:=
 Mi4 (λ _ c=>Du6 ) fun | _,W',c,⟨rfl,h⟩=>d W' c h
theorem Ed4:
  Aa0 Tryz.prog 159 [.int .i64 x,.int .i64 y] W0 M λ v W'=>v = .int .i64 (As4 x y)/\True:=by
 apply Ba9;refine Bf6 λ d _ _=>⟨false,rfl,Bf6 λ e _ _=>⟨false,rfl,λ h=>(by cases h),λ _=>⟨λ h=>(by cases h),λ _=>⟨λ h W _=>⟨?_,trivial⟩,λ h=>⟨λ c W _=>⟨?_,trivial⟩,λ c W _=>⟨?_,trivial⟩⟩⟩⟩⟩⟩
 ·unfold As4;rw[if_pos h]
 ·unfold As4;rw[if_neg h,if_neg (by omega)]
 ·unfold As4;rw[if_neg h,if_pos (by omega)]
theorem Dj2 (d: ∀(W':PW),Ext W W'->(True)->K (.int .i64 (As4 x y)) W'):
  Aa1 Tryz.prog W0 M 159 [.int .i64 x,.int .i64 y] W K:=
 Mi4 (λ _ c=>Ed4 ) fun | _,W',c,⟨rfl,h⟩=>d W' c h
theorem Eu5:
  Aa0 Tryz.prog 192 [.int .u8 x,.int .u8 y] W0 M λ v W'=>v = .int .i64 (As4 x y)/\True:=by
 apply Aw3;refine Bk7 λ d _ _=>⟨false,rfl,Bk7 λ e _ _=>⟨false,rfl,λ h=>(by cases h),λ _=>⟨λ h=>(by cases h),λ _=>⟨λ h W _=>⟨?_,trivial⟩,λ h=>⟨λ c W _=>⟨?_,trivial⟩,λ c W _=>⟨?_,trivial⟩⟩⟩⟩⟩⟩
 ·unfold As4;rw[if_pos h]
 ·unfold As4;rw[if_neg h,if_neg (by omega)]
 ·unfold As4;rw[if_neg h,if_pos (by omega)]
theorem Dy4 (d: ∀(W':PW),Ext W W'->(True)->K (.int .i64 (As4 x y)) W'):
  Aa1 Tryz.prog W0 M 192 [.int .u8 x,.int .u8 y] W K:=
 Mi4 (λ _ c=>Eu5 ) fun | _,W',c,⟨rfl,h⟩=>d W' c h
theorem Ew1 (h:Bf9 W0 1 s [[.int .i64 x],[.int .i64 y]]):
  Aa0 Tryz.prog 158 [s.v] W0 M λ v W'=>v = .int .i64 (if x≠0 then x else y)/\True:=by
 apply Cd0;have o:s.n=2:=let⟨_,h⟩:=h;h.1
 refine⟨λ l W=>match l with | [.val (.int .i64 i)]=>Ext W0 W/\∃k:Nat,i=(k:Int)/\k<=2/\(0<k->x=0)/\(1<k->y=0) | _=>False,λ l _=>match l with | [.val (.int .i64 i)]=>2-i.toNat | _=>0,⟨Ext.refl _,0,rfl,by omega,by omega,by omega⟩,?_⟩;rintro i3 f ⟨d,k,rfl,hk,c,j⟩;refine⟨λ r=>?_,λ u w _=>⟨?_,trivial⟩⟩
 ·have A:k<2:=by omega
  obtain⟨t,h⟩:=h.ext d;have n:Aa7 f s 1 k 0 [.int .i64 (if k=0 then x else y)]:=by
   rcases(by omega:k=0\/k=1) with rfl | rfl
   ·exact h.part (x:=[.int .i64 x]) rfl 0 rfl
   ·exact h.part (x:=[.int .i64 y]) rfl 0 rfl
  refine⟨h.inB (by omega) (by simp;omega),_,n,λ e B _=>⟨?_,trivial⟩,λ heq=>⟨by unfold I64;omega,⟨d,k+1,by push_cast;rfl,by omega,λ _=>?_,λ h1=>?_⟩,?_⟩⟩
  ·rcases(by omega:k=0\/k=1) with rfl | rfl
   ·rw[if_pos rfl] at e
    rw[if_pos rfl,if_pos e]
   ·rw[if_neg (by omega),if_neg (λ h=>h (c (by omega)))]
  ·rcases(by omega:k=0\/k=1) with rfl | rfl
   ·rw[if_pos rfl] at heq
    omega
   ·exact c (by omega)
  ·have:k=1:=by omega
   subst this;rw[if_neg (by omega)] at heq;omega
  ·show 2-Int.toNat ((k:Int)+1)<2-Int.toNat (k:Int)
   omega
 ·rw[if_neg (λ h=>h (c (by omega))),j (by omega)]
theorem Dw1 (h:Bf9 W 1 s [[.int .i64 x],[.int .i64 y]])(d: ∀(W':PW),Ext W W'->(True)->K (.int .i64 (if x≠0 then x else y)) W'):
  Aa1 Tryz.prog W0 M 158 [s.v] W K:=
 Mi4 (λ _ c=>Ew1 (h.ext c)) fun | _,W',c,⟨rfl,h⟩=>d W' c h
def An6 (m:Mon) (k:Nat):Int:=if k=0 then m.x else if k=1 then m.y else m.z
theorem Aw0 (m:Mon)(hk:k<3)(a b c:Int)(d:a=m.x)(e:b=m.y)(f:c=m.z):As9 [.int .u8 a,.int .u8 b,.int .u8 c] (0+Int.toNat (k:Int)*1+0) [.int .u8 (An6 m k)]:=by
 subst d;subst e;subst f;rcases(by omega:k=0\/k=1\/k=2) with rfl | rfl | rfl<;>exact⟨by simp,rfl⟩
theorem Cn5 (m:Mon)(hk:k<3):List.take 1 (List.drop (Int.toNat (k:Int)*1) [Value.int .u8 m.x,.int .u8 m.y,.int .u8 m.z]) = [.int .u8 (An6 m k)]:=by
 rcases(by omega:k=0\/k=1\/k=2) with rfl | rfl | rfl<;>rfl
theorem Dg9 (h:m.ok)(k:Nat):0<=An6 m k/\An6 m k<=255:=by
 unfold Mon.ok at h;unfold An6;split
 ·omega
 ·split<;>omega
theorem Ck8 (hm:m.ok):
  Aa0 Tryz.prog 99 [.agg ⟨[.int .u8 m.x,.int .u8 m.y,.int .u8 m.z]⟩] W0 M λ v W'=>v = .int .i64 m.deg/\True:=by
 apply Bp2;refine⟨λ l W=>match l with | [.val (.int .i64 a),.val (.int .i64 i)]=>Ext W0 W/\∃k:Nat,i=(k:Int)/\k<=3/\a=(if 0<k then m.x else 0)+(if 1<k then m.y else 0)+(if 2<k then m.z else 0) | _=>False,λ l _=>match l with | [_,.val (.int .i64 i)]=>3-i.toNat | _=>0,⟨Ext.refl _,0,rfl,by omega,by simp⟩,?_⟩;rintro i3 i4 f ⟨c,k,rfl,hk,rfl⟩;have d:=hm;unfold Mon.ok at d;refine⟨λ h=>?_,λ j n _=>⟨?_,trivial⟩⟩
 ·have e:k<3:=by omega
  have o:=Dg9 hm k;have r:0<=(if 0<k then m.x else 0)+(if 1<k then m.y else 0)+(if 2<k then m.z else 0)/\(if 0<k then m.x else 0)+(if 1<k then m.y else 0)+(if 2<k then m.z else 0)<=765:=by
   repeat' split
   all_goals omega
  refine⟨⟨by omega,by omega⟩,_,Cn5 m e,by unfold I64;omega,by unfold I64;omega,by unfold I64;omega,⟨c,k+1,by push_cast;rfl,by omega,?_⟩,?_⟩
  ·rcases(by omega:k=0\/k=1\/k=2) with rfl | rfl | rfl<;>simp[An6]
  ·show 3-Int.toNat ((k:Int)+1)<3-Int.toNat (k:Int)
   omega
 ·have:k=3:=by omega
  subst this;simp[Mon.deg]
theorem Ax1 (hm:m.ok)(d: ∀(W':PW),Ext W W'->(True)->K (.int .i64 m.deg) W'):
  Aa1 Tryz.prog W0 M 99 [.agg ⟨[.int .u8 m.x,.int .u8 m.y,.int .u8 m.z]⟩] W K:=
 Mi4 (λ _ c=>Ck8 hm) fun | _,W',c,⟨rfl,h⟩=>d W' c h
def Ey8 (a b:Mon):Int:=if a.x≠b.x then As4 a.x b.x else if a.y≠b.y then As4 a.y b.y else As4 a.z b.z
theorem Dh1 (hk:k<3)(h: ∀j,j<k->An6 a j=An6 b j)(d:An6 a k≠An6 b k):Ey8 a b=As4 (An6 a k) (An6 b k):=by
 unfold Ey8;rcases(by omega:k=0\/k=1\/k=2) with rfl | rfl | rfl
 ·rw[if_pos (by simpa[An6] using d)];rfl
 ·have c:=h 0 (by omega)
  rw[if_neg (λ e=>e (by simpa[An6] using c)),if_pos (by simpa[An6] using d)];rfl
 ·have c:=h 0 (by omega)
  have h1:=h 1 (by omega);rw[if_neg (λ e=>e (by simpa[An6] using c)),if_neg (λ e=>e (by simpa[An6] using h1))];rfl
theorem Eq5 (h: ∀j,j<3->An6 a j=An6 b j):Ey8 a b=0:=by
 have c:a.x=b.x:=by simpa[An6] using h 0 (by omega)
 have h1:a.y=b.y:=by simpa[An6] using h 1 (by omega)
 have d:a.z=b.z:=by simpa[An6] using h 2 (by omega)
 unfold Ey8 As4;rw[if_neg (λ e=>e c),if_neg (λ e=>e h1),if_neg (by omega),if_pos d]
theorem Ch0 (a b:Mon):a.cmp b=(if As4 a.deg b.deg≠0 then As4 a.deg b.deg else Ey8 a b):=by
 unfold Mon.cmp Mon.lt Ey8 As4
 by_cases h1:a.deg<b.deg
 ·simp[h1]
 ·by_cases c:a.deg=b.deg
  ·by_cases d:a.x=b.x
   ·by_cases f:a.y=b.y
    ·by_cases h:a.z=b.z
     ·have:a=b:=Mon.Fp2 d f h
      subst this;simp
     ·have:a≠b:=λ e=>h (by rw[e])
      simp[c,d,f,h,this]
    ·have:a≠b:=λ e=>f (by rw[e])
     simp[c,d,f,this]
   ·have:a≠b:=λ e=>d (by rw[e])
    simp[c,d,this]
  ·have:a≠b:=λ e=>c (by rw[e])
   simp[h1,c,this]
theorem Ef2 {t:TypeId}(h:Row W t 1 s [[.int .u8 m.x],[.int .u8 m.y],[.int .u8 m.z]])(hk:k<3):Aa7 W s 1 k 0 [.int .u8 (An6 m k)]:=by
 rcases(by omega:k=0\/k=1\/k=2) with rfl | rfl | rfl
 ·exact h.part (x:=[.int .u8 m.x]) rfl 0 rfl
 ·exact h.part (x:=[.int .u8 m.y]) rfl 0 rfl
 ·exact h.part (x:=[.int .u8 m.z]) rfl 0 rfl
theorem Ex1 {t:Sl}(h1:Bf9 W0 1 s [[.int .u8 a.x],[.int .u8 a.y],[.int .u8 a.z]])(c:Bf9 W0 1 t [[.int .u8 b.x],[.int .u8 b.y],[.int .u8 b.z]]):
  Aa0 Tryz.prog 160 [s.v,t.v] W0 M λ v W'=>v = .int .i64 (Ey8 a b)/\True:=by
 apply Am4;have A:s.n=3:=let⟨_,h⟩:=h1;h.1
 have B:t.n=3:=let⟨_,h⟩:=c;h.1
 refine⟨λ l W=>match l with | [.val (.int .i64 i)]=>Ext W0 W/\∃k:Nat,i=(k:Int)/\k<=3/\∀j,j<k->An6 a j=An6 b j | _=>False,λ l _=>match l with | [.val (.int .i64 i)]=>3-i.toNat | _=>0,⟨Ext.refl _,0,rfl,by omega,λ j d=>by omega⟩,?_⟩;rintro i3 C ⟨f,k,rfl,hk,d⟩;refine⟨λ D=>?_,λ F=>⟨λ h=>by omega,λ _ G _=>⟨?_,trivial⟩⟩⟩
 ·have n:k<3:=by omega
  obtain⟨_,o⟩:=h1.ext f;obtain⟨_,r⟩:=c.ext f;refine⟨o.inB (by omega) (by simp;omega),_,Ef2 (k:=k) o n,λ h=>by omega,λ _=>⟨r.inB (by omega) (by simp;omega),_,Ef2 (k:=k) r n,Dy4 λ H u _=>⟨_,rfl,λ w I _=>⟨?_,trivial⟩,λ heq=>⟨by unfold I64;omega,⟨f.trans u,k+1,by push_cast;rfl,by omega,λ j h=>?_⟩,?_⟩⟩⟩⟩
  ·have:An6 a k≠An6 b k:=λ e=>w (by rw[e];unfold As4;simp)
   rw[Dh1 n d this]
  ·by_cases e:j=k
   ·subst e
    unfold As4 at heq
    by_cases h1:An6 a j<An6 b j
    ·simp[h1] at heq
    ·by_cases c:An6 a j=An6 b j
     ·exact c
     ·simp[h1,c] at heq
   ·exact d j (by omega)
  ·show 3-Int.toNat ((k:Int)+1)<3-Int.toNat (k:Int)
   omega
 ·have:k=3:=by omega
  subst this;rw[Eq5 d]
theorem Eb5 {t:Sl}(h1:Bf9 W 1 s [[.int .u8 a.x],[.int .u8 a.y],[.int .u8 a.z]])(d:Bf9 W 1 t [[.int .u8 b.x],[.int .u8 b.y],[.int .u8 b.z]])(e: ∀(W':PW),Ext W W'->(True)->K (.int .i64 (Ey8 a b)) W'):
  Aa1 Tryz.prog W0 M 160 [s.v,t.v] W K:=
 Mi4 (λ _ c=>Ex1 (h1.ext c) (d.ext c)) fun | _,W',c,⟨rfl,h⟩=>e W' c h
theorem Dy0 (c:a.ok)(d:b.ok):
  Aa0 Tryz.prog 116 [.agg ⟨[.int .u8 a.x,.int .u8 a.y,.int .u8 a.z]⟩,.agg ⟨[.int .u8 b.x,.int .u8 b.y,.int .u8 b.z]⟩] W0 M λ v W'=>v = .int .i64 (a.cmp b)/\True:=by
 apply Cp6;refine Ax1 c λ j _ _=>⟨_,rfl,Ax1 d λ n _ _=>⟨_,rfl,Dj2 λ o _ _=>⟨_,rfl,λ r u w e _ A B f h _=>Eb5 (e.ext f) h λ C _ _=>⟨_,rfl,λ D F _ hO _=>Dw1 ⟨_,hO.row⟩ λ G _ _=>⟨_,rfl,λ H _=>⟨?_,trivial⟩⟩⟩⟩⟩⟩;rw[Ch0]
theorem Bk9 (d:a.ok)(e:b.ok)(f: ∀(W':PW),Ext W W'->(True)->K (.int .i64 (a.cmp b)) W'):
  Aa1 Tryz.prog W0 M 116 [.agg ⟨[.int .u8 a.x,.int .u8 a.y,.int .u8 a.z]⟩,.agg ⟨[.int .u8 b.x,.int .u8 b.y,.int .u8 b.z]⟩] W K:=
 Mi4 (λ _ c=>Dy0 d e) fun | _,W',c,⟨rfl,h⟩=>f W' c h
theorem Du1 {z:Int}(c:0<=z)(h:z<=255):IntKind.wrap .u8 z=z:=by simp[IntKind.wrap,IntKind.bits,IntKind.signed];omega
instance (m:Mon):Decidable m.ok:=by unfold Mon.ok;infer_instance
def mulMon (a b:Mon):Mon:=if(a.add b).ok then a.add b else⟨0,0,0⟩
def Fh0 (a b:Mon) (l:List PL):Prop:=match l with
 | [.val (.int .i64 i),_,.cells [.int .u8 x,.int .u8 y,.int .u8 z]]=>∃k:Nat,i=(k:Int)/\k<=3/\x=(if 0<k then a.x+b.x else a.x)/\y=(if 1<k then a.y+b.y else a.y)/\z=(if 2<k then a.z+b.z else a.z)/\∀j,j<k->An6 a j+An6 b j<=255
 | _=>False
theorem Dv9 (h:255<An6 a k+An6 b k):¬(a.add b).ok:=by
 unfold Mon.ok Mon.add;unfold An6 at h;split at h
 ·dsimp only;omega
 ·split at h
  ·dsimp only;omega
  ·dsimp only;omega
theorem Eb9 (w:a.ok)(A:b.ok):
  Aa0 Tryz.prog 171 [.agg ⟨[.int .u8 a.x,.int .u8 a.y,.int .u8 a.z]⟩,.agg ⟨[.int .u8 b.x,.int .u8 b.y,.int .u8 b.z]⟩] W0 M λ v W'=>v = .tuple ⟨[.agg ⟨[.int .u8 (mulMon a b).x,.int .u8 (mulMon a b).y,.int .u8 (mulMon a b).z]⟩,.bool (decide (a.add b).ok)]⟩/\True:=by
 apply Cw3;refine⟨λ l W=>Ext W0 W/\Fh0 a b l,λ l _=>match l with | [.val (.int .i64 i),_,_]=>3-i.toNat | _=>0,⟨Ext.refl _,0,rfl,by omega,rfl,rfl,rfl,λ j c=>by omega⟩,?_⟩;rintro i3 i4 i5 i6 i7 i8 i9 H ⟨o,k,rfl,hk,d,e,f,c⟩;refine⟨λ I=>?_,λ J N _=>⟨?_,trivial⟩⟩
 ·have D:k<3:=by omega
  have O:=Dg9 w k;have P:=Dg9 A k;have B:As9 [.int .u8 i6,.int .u8 i7,.int .u8 i8] (0+Int.toNat (k:Int)*1+0) [.int .u8 (An6 a k)]:=by
   rcases(by omega:k=0\/k=1\/k=2) with rfl | rfl | rfl
   ·simp at d;subst d;exact Aw0 ⟨a.x,i7,i8⟩ (k:=0) (by omega) _ _ _ rfl rfl rfl
   ·simp at e;subst e;exact Aw0 ⟨i6,a.y,i8⟩ (k:=1) (by omega) _ _ _ rfl rfl rfl
   ·simp at f;subst f;exact Aw0 ⟨i6,i7,a.z⟩ (k:=2) (by omega) _ _ _ rfl rfl rfl
  have n:(0:Int)<=(k:Int)/\(k:Int)<3:=⟨by omega,by omega⟩;refine⟨n,_,Cn5 b D,n,_,B,by unfold I64;omega,by unfold I64;omega,by unfold I64;omega,λ F Q _=>⟨?_,trivial⟩,λ hle=>⟨n,_,B,n,by omega,⟨⟨trivial,λ r=>?_⟩,λ h1=>?_⟩,λ u=>?_⟩⟩
  ·have:=Dv9 F
   rw[decide_eq_false this];unfold mulMon;rw[if_neg this]
  all_goals
   have hw:IntKind.wrap .u8 (An6 a k+An6 b k)=An6 a k+An6 b k:=Du1 (by omega) (by omega);rw[hw];have G:Int.toNat (k:Int)=k:=by omega
   rw[G] at *
  ·subst r
   refine⟨by unfold I64;omega,⟨o,1,rfl,by omega,by simp[An6],by simpa using e,by simpa using f,λ j h=>?_⟩,by show 3-Int.toNat (((0:Nat):Int)+1)<3-Int.toNat ((0:Nat):Int);omega⟩;have:j=0:=by omega
   subst this;omega
  ·subst h1
   refine⟨by unfold I64;omega,⟨o,2,rfl,by omega,by simpa using d,by simp[An6],by simpa using f,λ j h=>?_⟩,by show 3-Int.toNat (((1:Nat):Int)+1)<3-Int.toNat ((1:Nat):Int);omega⟩;rcases(by omega:j=0\/j=1) with rfl | rfl
   ·exact c 0 (by omega)
   ·omega
  ·subst u
   refine⟨by unfold I64;omega,⟨o,3,rfl,by omega,by simpa using d,by simpa using e,by simp[An6],λ j h=>?_⟩,by show 3-Int.toNat (((2:Nat):Int)+1)<3-Int.toNat ((2:Nat):Int);omega⟩;rcases(by omega:j<2\/j=2) with h | rfl
   ·exact c j h
   ·omega
 ·have:k=3:=by omega
  subst this;have r:=c 0 (by omega);have h1:=c 1 (by omega);have u:=c 2 (by omega);simp[An6] at r h1 u d e f;have C:(a.add b).ok:=by
   unfold Mon.ok at w A;unfold Mon.ok Mon.add;dsimp only;omega
  rw[decide_eq_true C];unfold mulMon;rw[if_pos C,d,e,f];rfl
theorem Cs6 (d:a.ok)(e:b.ok)(f: ∀(W':PW),Ext W W'->(True)->K (.tuple ⟨[.agg ⟨[.int .u8 (mulMon a b).x,.int .u8 (mulMon a b).y,.int .u8 (mulMon a b).z]⟩,.bool (decide (a.add b).ok)]⟩) W'):
  Aa1 Tryz.prog W0 M 171 [.agg ⟨[.int .u8 a.x,.int .u8 a.y,.int .u8 a.z]⟩,.agg ⟨[.int .u8 b.x,.int .u8 b.y,.int .u8 b.z]⟩] W K:=
 Mi4 (λ _ c=>Eb9 d e) fun | _,W',c,⟨rfl,h⟩=>f W' c h
theorem Dz4 {s1:Sl}{s2:Sl}{s3:Sl}{s4:Sl}{b1:Bool}{b2:Bool}(c:a.ok)(d:b.ok):
  Aa0 Tryz.prog 173 [.agg ⟨[.int .u8 a.x,.int .u8 a.y,.int .u8 a.z,s1.v,.bool b1,s2.v]⟩,.agg ⟨[.int .u8 b.x,.int .u8 b.y,.int .u8 b.z,s3.v,.bool b2,s4.v]⟩] W0 M λ v W'=>v = .int .i64 (a.cmp b)/\True:=by
 apply Az1;exact Bk9 c d λ e _ _=>⟨_,rfl,λ f _=>⟨rfl,trivial⟩⟩
end Go.Proofs.YtkgeopnakkcdoaaGreat
namespace Go.Proofs.YtkgeopnakkcdoaaGreat
open Go Go.Shelf Go.Proofs
def Dt7:Go.Shelf.Ren:=⟨fun | 6=>172 | 15=>200 | 14=>199 | 28=>122 | 29=>217 | 20=>209 | 21=>210 | 22=>211 | 23=>212 | 24=>213 | 25=>214 | 26=>215 | 27=>216 | 46=>218 | 47=>219 | 48=>220 | 49=>221 | 50=>222 | 57=>223 | n=>n,fun | 22=>78 | 24=>180 | 25=>267 | 3=>3 | 39=>215 | 0=>0 | 53=>214 | 55=>163 | 4=>4 | 46=>302 | 45=>301 | 50=>306 | 5=>5 | 9=>9 | 66=>309 | 70=>312 | 76=>314 | 77=>315 | n=>n,fun | n=>n⟩
theorem Fe0:Go.Proofs.SlLaysF0.n6 Tryz.prog Dt7 where
 mixed:=by kernel_rfl
 f6:=⟨ "slices.SortFunc[[]cincture/poly.Term,cincture/poly.Term]",by decide,Tryz.func172.trans (congrArg some (by kernel_rfl))⟩
 f14:=⟨ "slices.pdqsortCmpFunc[cincture/poly.Term]",by decide,Tryz.func199.trans (congrArg some (by kernel_rfl))⟩
 f15:=Tryz.func200.trans (congrArg some (by kernel_rfl))
 f20:=⟨ "slices.insertionSortCmpFunc[cincture/poly.Term]",by decide,Tryz.func209.trans (congrArg some (by kernel_rfl))⟩
 f21:=⟨ "slices.heapSortCmpFunc[cincture/poly.Term]",by decide,Tryz.func210.trans (congrArg some (by kernel_rfl))⟩
 f22:=⟨ "slices.breakPatternsCmpFunc[cincture/poly.Term]",by decide,Tryz.func211.trans (congrArg some (by kernel_rfl))⟩
 f23:=⟨ "slices.choosePivotCmpFunc[cincture/poly.Term]",by decide,Tryz.func212.trans (congrArg some (by kernel_rfl))⟩
 f24:=⟨ "slices.reverseRangeCmpFunc[cincture/poly.Term]",by decide,Tryz.func213.trans (congrArg some (by kernel_rfl))⟩
 f25:=⟨ "slices.partialInsertionSortCmpFunc[cincture/poly.Term]",by decide,Tryz.func214.trans (congrArg some (by kernel_rfl))⟩
 f26:=⟨ "slices.partitionEqualCmpFunc[cincture/poly.Term]",by decide,Tryz.func215.trans (congrArg some (by kernel_rfl))⟩
 f27:=⟨ "slices.partitionCmpFunc[cincture/poly.Term]",by decide,Tryz.func216.trans (congrArg some (by kernel_rfl))⟩
 f28:=Tryz.func122.trans (congrArg some (by kernel_rfl))
 f29:=Tryz.func217.trans (congrArg some (by kernel_rfl))
 f46:=⟨ "slices.siftDownCmpFunc[cincture/poly.Term]",by decide,Tryz.func218.trans (congrArg some (by kernel_rfl))⟩
 f47:=Tryz.func219.trans (congrArg some (by kernel_rfl))
 f48:=Tryz.func220.trans (congrArg some (by kernel_rfl))
 f49:=⟨ "slices.medianAdjacentCmpFunc[cincture/poly.Term]",by decide,Tryz.func221.trans (congrArg some (by kernel_rfl))⟩
 f50:=⟨ "slices.medianCmpFunc[cincture/poly.Term]",by decide,Tryz.func222.trans (congrArg some (by kernel_rfl))⟩
 f57:=⟨ "slices.order2CmpFunc[cincture/poly.Term]",by decide,Tryz.func223.trans (congrArg some (by kernel_rfl))⟩
 t0:=Tryz.underlying0
 a0:=Tryz.isAgg0
 z0:=Tryz.sizeOf0
 v0:=Tryz.zeroValue0
 t3:=Tryz.underlying3
 a3:=Tryz.isAgg3
 z3:=Tryz.sizeOf3
 v3:=Tryz.zeroValue3
 t4:=Tryz.underlying4
 a4:=Tryz.isAgg4
 z4:=Tryz.sizeOf4
 v4:=Tryz.zeroValue4
 t5:=Tryz.underlying5
 a5:=Tryz.isAgg5
 z5:=Tryz.sizeOf5
 v5:=Tryz.zeroValue5
 t9:=Tryz.underlying9
 a9:=Tryz.isAgg9
 z9:=Tryz.sizeOf9
 v9:=Tryz.zeroValue9
 t22:=Tryz.underlying78
 a22:=Tryz.isAgg78
 z22:=Tryz.sizeOf78
 v22:=Tryz.zeroValue78
 t25:=Tryz.underlying267
 a25:=Tryz.isAgg267
 z25:=Tryz.sizeOf267
 v25:=Tryz.zeroValue267
 t39:=Tryz.underlying215
 a39:=Tryz.isAgg215
 z39:=Tryz.sizeOf215
 v39:=Tryz.zeroValue215
 t45:=Tryz.underlying301
 a45:=Tryz.isAgg301
 z45:=Tryz.sizeOf301
 v45:=Tryz.zeroValue301
 t46:=Tryz.underlying302
 a46:=Tryz.isAgg302
 z46:=Tryz.sizeOf302
 v46:=Tryz.zeroValue302
 t50:=Tryz.underlying306
 a50:=Tryz.isAgg306
 z50:=Tryz.sizeOf306
 v50:=Tryz.zeroValue306
 t53:=Tryz.underlying214
 a53:=Tryz.isAgg214
 z53:=Tryz.sizeOf214
 v53:=Tryz.zeroValue214
 t55:=Tryz.underlying163
 a55:=Tryz.isAgg163
 z55:=Tryz.sizeOf163
 v55:=Tryz.zeroValue163
 t66:=Tryz.underlying309
 a66:=Tryz.isAgg309
 z66:=Tryz.sizeOf309
 v66:=Tryz.zeroValue309
 t70:=Tryz.underlying312
 a70:=Tryz.isAgg312
 z70:=Tryz.sizeOf312
 v70:=Tryz.zeroValue312
 t76:=Tryz.underlying314
 a76:=Tryz.isAgg314
 z76:=Tryz.sizeOf314
 v76:=Tryz.zeroValue314
 t77:=Tryz.underlying315
 a77:=Tryz.isAgg315
 z77:=Tryz.sizeOf315
 v77:=Tryz.zeroValue315
end Go.Proofs.YtkgeopnakkcdoaaGreat
namespace Go.Proofs.YtkgeopnakkcdoaaGreat
open Go Go.SX
variable {W:PW}{p:List Tm}{s:Sl}{xs:List (List Value)}
abbrev TmE:Type:={m:Mon // m.ok}×Sl×Bool×Sl
variable {L:List TmE}
instance:Inhabited TmE:=⟨⟨⟨0,0,0⟩,by decide⟩,⟨none,0,0⟩,false,⟨none,0,0⟩⟩
def Bq7 (x:TmE):List Value:=[.int .u8 x.1.1.x,.int .u8 x.1.1.y,.int .u8 x.1.1.z,x.2.1.v,.bool x.2.2.1,x.2.2.2.v]
def Er5 (x y:TmE):Int:=x.1.1.cmp y.1.1
theorem Bp1 (x:TmE):(Bq7 x).length=6:=rfl
theorem Cu3 (x:TmE): ∀v∈Bq7 x,v.oneCell'=true:=by
 intro v c;simp only[Bq7,List.mem_cons,List.not_mem_nil,or_false] at c;rcases c with rfl | rfl | rfl | rfl | rfl | rfl<;>rfl
theorem Fo8 (x y:TmE):Proofs.ltOf Er5 x y=decide (x.1.1.lt y.1.1):=by
 unfold Proofs.ltOf Er5;simp only[Mon.Dm2]
theorem Fr8:Go.Sort.SWO (Proofs.ltOf Er5) where
 irrefl x:=by rw[Fo8];exact decide_eq_false (Mon.lt_irrefl _)
 trans x y z h1 c:=by
  rw[Fo8] at *;exact decide_eq_true (Mon.lt_trans (of_decide_eq_true h1) (of_decide_eq_true c))
 ntrans x y z h1 c:=by
  rw[Fo8] at *;have h1:=of_decide_eq_false h1;have c:=of_decide_eq_false c;refine decide_eq_false λ h=>?_
  by_cases e:x.1.1=y.1.1
  ·rw[e] at h;exact c h
  ·have:=Mon.Bo9 h1 e
   exact c (Mon.lt_trans this h)
theorem Ej6 (g n:Nat)(w:World):Proofs.CmpLays Tryz.prog 173 #[] Bq7 6 Er5 g 0 n w:=by
 intro m os c _ x y;have h:=(Dz4 (W0:=⟨Proofs.sortWorldK Bq7 6 w g 0 m c os,λ _=>False⟩) (M:=λ _=>False) (a:=x.1.1) (b:=y.1.1) (s1:=x.2.1) (s2:=x.2.2.2) (s3:=y.2.1) (s4:=y.2.2.2) (b1:=x.2.2.1) (b2:=y.2.2.1) x.1.2 y.1.2).2 (λ b d=>d.elim);refine Calls.mono h ?_;rintro e w' ⟨v,rfl,f,rfl,_⟩;exact⟨rfl,Cw5 f⟩
theorem Ev8 (h:An5 (PT 214 W) xs p): ∃L:List TmE,xs=L.map Bq7/\An5 (λ(a:TmE) (t:Tm)=>a.1.1=t.1/\Ab3 214 W a.2.1 a.2.2.1 a.2.2.2 t.2) L p:=by
 induction xs generalizing p with
 | nil=>
  cases p with
  | nil=>exact⟨[],rfl,trivial⟩
  | cons t p=>exact h.elim
 | cons x xs ih=>
  cases p with
  | nil=>exact h.elim
  | cons t p=>
   obtain⟨L,h1,c⟩:=ih h.2;obtain⟨d,s,b,s',e,f⟩:=h.1;exact⟨(⟨t.1,d⟩,s,b,s')::L,by rw[List.map_cons,<-h1,e];rfl,⟨rfl,f⟩,c⟩
theorem Ew4 (h:An5 (λ(a:TmE) (t:Tm)=>a.1.1=t.1/\Ab3 214 W a.2.1 a.2.2.1 a.2.2.2 t.2) L p):An5 (PT 214 W) (L.map Bq7) p:=by
 induction L generalizing p with
 | nil=>
  cases p with
  | nil=>trivial
  | cons t p=>exact h.elim
 | cons x xs ih=>
  cases p with
  | nil=>exact h.elim
  | cons t p=>
   obtain⟨h1,c⟩:=h.1;refine⟨⟨by rw[<-h1];exact x.1.2,_,_,_,?_,c⟩,ih h.2⟩;rw[<-h1];rfl
theorem Ci0 (h:An5 (λ(a:TmE) (t:Tm)=>a.1.1=t.1/\Ab3 214 W a.2.1 a.2.2.1 a.2.2.2 t.2) L p)(c:L.Pairwise λ a b=>¬b.1.1.lt a.1.1):p.Pairwise λ a b=>¬b.1.lt a.1:=by
 have d:p.map (·.1)=L.map (·.1.1):=by
  clear c
  induction L generalizing p with
  | nil=>
   cases p with
   | nil=>rfl
   | cons t p=>exact h.elim
  | cons x xs ih=>
   cases p with
   | nil=>exact h.elim
   | cons t p=>rw[List.map_cons,List.map_cons,ih h.2,h.1.1]
 have h1:(L.map (·.1.1)).Pairwise λ a b:Mon=>¬b.lt a:=List.pairwise_map.2 c;rw[<-d] at h1;exact List.pairwise_map.1 h1
theorem Do0 {q:List Tm}(c:q.Perm p)(d:(p.map (·.1)).Nodup)(f: ∀t∈p,t.2≠0)(h:q.Pairwise λ a b=>¬b.1.lt a.1):q=Ag2 p:=by
 refine(Ds8 ⟨?_,λ t j=>f t (c.mem_iff.1 j)⟩ λ m=>Da7 c m).symm;have n:(q.map (·.1)).Nodup:=(c.map _).nodup_iff.2 d;have o:q.Pairwise λ a b=>a.1≠b.1:=List.pairwise_map.1 n;exact(h.and o).imp λ⟨h1,r⟩=>Mon.Bo9 h1 (λ e=>r e.symm)
theorem Ab3.wr {tu:TypeId}{g:Nat}{W':PW}{s':Sl}{b:Bool}{cs:Array Value}{tt:TypeId}{q:Rat}(h:Ab3 tu W s b s' q)(c:Au9 (· = g) W W')(d:W.w.heap[g]?=some (.cells cs tt (0,0)))(e:tu≠tt):Ab3 tu W' s b s' q:=
 ⟨⟨Row.put h.1.1 c d e,h.1.2⟩,Row.put h.2 c d e⟩
theorem Dh7 {W0:PW}(hO:Go.SX.Own W0 180 6 s xs)(G:An5 (PT 214 W0) xs p)(H:(p.map (·.1)).Nodup)(I: ∀t∈p,t.2≠0)(V:p.length<=1099511627776):
  Aa0 Tryz.prog 172 [s.v,.func (.func 173) #[] #[]] W0 (λ b=>s.v.ownBlock=some b) λ v W'=>v = .tuple #[]/\Ch2 214 180 W' s (Ag2 p):=by
 refine⟨⟨_,Tryz.func172,by kernel_rfl,by kernel_rfl⟩,λ X=>?_⟩;obtain⟨L,rfl,w⟩:=Ev8 G;have f:s.n=L.length:=by rw[hO.row.1];simp
 have hlen:L.length=p.length:=w.len
 by_cases A:L = []
 ·subst A
  have j:p = []:=List.eq_nil_of_length_eq_zero hlen.symm;subst j;have:=Proofs.AnyF.slices_SortFunc_none Fe0 s.A s.c (.func (.func 173) #[] #[]) W0.w
  change Calls Tryz.prog 172 _ _ _ at this
  have e:s.v = .slice s.A 0 s.c:=by simp only[Sl.v,f];rfl
  rw[e];refine Calls.mono this ?_;rintro e w' ⟨rfl,rfl⟩;exact⟨_,rfl,Am7.refl _ _,rfl,[],hO,trivial⟩
 ·obtain⟨d,rfl⟩: ∃d:Array TmE,d.toList=L:=⟨L.toArray,rfl⟩
  have B:d.size≠0:=λ e=>A (by simpa using e);obtain⟨g,cur,J,N,Y,o,hle,hH⟩:=Eh6 Bq7 Bp1 d hO B;have O:=(Array.getElem?_eq_some_iff.1 o).1;have C:=Proofs.AnyQ.slices_SortFunc Fe0 6 Tryz.isAgg180 Tryz.sizeOf180 Bq7 Bp1 Cu3 Er5 Fr8 173 #[] g 0 s.c d W0.w (enters_of Tryz.func173 (by kernel_rfl) rfl) (Ej6 g d.size W0.w) hH O (by simp at hlen;omega)
  change Calls Tryz.prog 172 _ _ _ at C
  have e:s.v = .slice (some ⟨g,0,none⟩) d.size s.c:=by simp only[Sl.v,f,J,Array.length_toList]
  rw[e];refine Calls.mono C ?_;rintro e w' ⟨rfl,P,n,os,j,r,rfl⟩;obtain⟨D,Q⟩:=Dh2 j;obtain⟨Z,c⟩:=Az2 Bq7 (k:=6) o n P os;obtain⟨q,R,F⟩:=w.perm Q.symm;have S:=Ch4 r D;have T:q=Ag2 p:=by
   refine Do0 R.symm H I (Ci0 F (S.imp fun {a b} h=>?_));rw[Fo8] at h;exact of_decide_eq_false h
  refine⟨_,rfl,?_,rfl,?_⟩
  ·refine⟨c.os,c.tape,c.output,c.size,λ b u f=>c.block b u λ e=>f ?_,c.drawn⟩
   subst e;rfl
  ·rw[<-T]
   have U:=Et6 Bq7 Bp1 Cu3 hO B D N n os;refine⟨_,U,Ew4 (F.mono λ a t h=>⟨h.1,?_⟩)⟩;refine Ab3.wr (g:=g) (tt:=180) h.2 ⟨c.size,λ b u r f=>⟨c.block b u f,r⟩⟩ o (by decide)
end Go.Proofs.YtkgeopnakkcdoaaGreat
namespace Go.Proofs.YtkgeopnakkcdoaaGreat
open Go Go.SX
theorem Fa9:laidOutB Tryz.prog=true:=by kernel_rfl
theorem Ck1:Maps.Keyed Tryz.prog 117:=Maps.Keyed.of_law (deep_law_laid Fa9 (m:=2) (by omega) (of_decide_eq_true (by kernel_rfl)) (by kernel_rfl) (by kernel_rfl))
theorem Ep2: ∃d,Tryz.prog.types.size+1=d+2:=⟨Tryz.prog.types.size-1,by
 have:1<=Tryz.prog.types.size:=of_decide_eq_true (by kernel_rfl);omega⟩
theorem Dr7 {m:Mon}(h:m.ok): ∃l,keyOf Tryz.prog 117 m.v=some l:=by
 have h1:Tryz.prog.keyType 117=true:=by kernel_rfl
 have c:Tryz.prog.cellsOf 117=3:=by kernel_rfl
 have e:Tryz.prog.cellsOf 5=1:=by kernel_rfl
 have f:m.v.formed Tryz.prog 117=true:=by
  simp only[Mon.v,Value.formed,Tryz.underlying117,c];rfl
 obtain⟨d,j⟩:=Ep2;unfold Mon.ok at h;have wf: ∀z:Int,0<=z/\z<=255->(Lit.int .u8 z).wf=true:=by
  intro z u;simp[Lit.wf,IntKind.min,IntKind.max,IntKind.bits,IntKind.signed];omega
 have n:=wf _ h.1;have o:=wf _ h.2.1;have r:=wf _ h.2.2;unfold keyOf;rw[Tryz.underlying117];simp only[h1,f,Bool.and_self,if_true,j];simp[Program.keyLits,Tryz.underlying117,Tryz.underlying5,c,e,Value.cells,n,o,r,List.range_succ]
theorem Er2 {W:PW}{g:Nat}{es:Array MapEntry}{E:List Tm}{c:Nat}(h:Ai4 214 W g es c E):En1 Tryz.prog 117 es:=λ e he=>by
 obtain⟨i,hi⟩:=List.mem_iff_getElem?.1 he;obtain⟨t,_,d,hk,_⟩:=h.all.Fo1 hi;rw[hk];exact Dr7 d
end Go.Proofs.YtkgeopnakkcdoaaGreat
namespace Go.Proofs.YtkgeopnakkcdoaaGreat
open Go Go.SX
variable {E:List Tm}{W0:PW}{b:Bool}{es:Array MapEntry}{g k:Nat}{m:Mon}{q:Rat}{s s':Sl}
theorem Aw2 {α:Type}: ∀{l:List α},l.Nodup->∀{i j:Nat} {a:α},l[i]?=some a->l[j]?=some a->i=j
 | [],_,i,j,a,h,_=>by simp at h
 | x::l,c,0,0,a,_,_=>rfl
 | x::l,c,0,j+1,a,h,k=>by
  simp only[List.getElem?_cons_zero,Option.some.injEq,List.getElem?_cons_succ] at h k;subst h;exact absurd (List.mem_of_getElem? k) (List.nodup_cons.1 c).1
 | x::l,c,i+1,0,a,h,k=>by
  simp only[List.getElem?_cons_zero,Option.some.injEq,List.getElem?_cons_succ] at h k;subst k;exact absurd (List.mem_of_getElem? h) (List.nodup_cons.1 c).1
 | x::l,c,i+1,j+1,a,h,k=>by
  simp only[List.getElem?_cons_succ] at h k;rw[Aw2 (List.nodup_cons.1 c).2 h k]
theorem Bg9 {i:Nat}{e:MapEntry}(h:es[i]?=some e)(f:MapEntry->MapEntry):(es.modify i f).toList=es.toList.set i (f e):=by
 apply List.ext_getElem?;intro j;rw[Array.getElem?_toList,Array.getElem?_modify,List.getElem?_set];have c:=(Array.getElem?_eq_some_iff.1 h).1;split
 ·rename_i d
  subst d;rw[h];simp[c]
 ·rw[Array.getElem?_toList]
theorem Dr3 {W':PW}{o:PW}{w:Nat}{A:Array MapEntry}{W0:PW}{c:Nat}(h:Ai4 214 W' g es c E)(hm:m.ok)(H:Au9 (· = g) W' o)(I:¬o.S g)(J:o.w.heap[g]?=some (.map A w))(R:Eg5 es c m.v (.agg ⟨[s.v,.bool b,s'.v]⟩) A w)(n:Rat)(N:(∃i:Nat,E[i]?=some (m,n))\/(∀t∈E,t.1≠m)/\n=0)(S:Ab3 214 W' s b s' (n+q)):
  ∃E',Ai4 214 o g A w E'/\Du7 E (m,q) E':=by
 have B:Ab3 214 o s b s' (n+q):=S.map H h.heap;have O:An5 (ME 214 o) es.toList E:=h.all.mono λ _ _ k=>k.map H h.heap;rcases R with⟨i,e,hi,hk,rfl,rfl⟩ | ⟨T,rfl,rfl⟩
 ·have C:es.toList[i]?=some e:=by rw[Array.getElem?_toList];exact hi
  obtain⟨t,f,D,U,_⟩:=h.all.Fo1 C;have P:t.1=m:=Mon.Ck0 (U.symm.trans hk);have Q:E[i]?=some (m,n):=by
   rcases N with⟨j,u⟩ | ⟨v,_⟩
   ·have F:(E.map (·.1))[i]?=some m:=by rw[List.getElem?_map,f];simp[P]
    have V:(E.map (·.1))[j]?=some m:=by rw[List.getElem?_map,u];rfl
    rw[Aw2 h.nd F V];exact u
   ·exact absurd P (v t (List.mem_of_getElem? f))
  refine⟨E.set i (m,n+q),⟨I,J,?_,?_,?_,?_⟩,Ei3 Q⟩
  ·rw[Bg9 hi]
   exact O.set i ⟨hm,rfl,s,b,s',rfl,B⟩
  ·rw[Dk2 Q]
   exact h.nd
  ·rw[Bg9 hi]
   have F:((es.toList.set i {e with key:=m.v,val:=.agg ⟨[s.v,.bool b,s'.v]⟩ }).map (·.born))=es.toList.map (·.born):=by
    rw[List.map_set];refine List.ext_getElem? λ j=>?_;rw[List.getElem?_set];split
    ·rename_i X
     subst X;rw[if_pos (by simpa using(Array.getElem?_eq_some_iff.1 hi).1),List.getElem?_map,C];rfl
    ·rfl
   rw[F];exact h.born
  ·rw[Bg9 hi]
   intro x d;rcases List.mem_or_eq_of_mem_set d with d | rfl
   ·exact h.lt x d
   ·exact h.lt e (List.mem_of_getElem? C)
 ·have v: ∀t∈E,t.1≠m:=by
   intro t f Y;obtain⟨i,hi⟩:=List.mem_iff_getElem?.1 f;obtain⟨e,he,D,hk,_⟩:=h.all.get hi;exact T e (List.mem_of_getElem? he) (by rw[hk,Y])
  have Z:n=0:=by
   rcases N with⟨j,u⟩ | ⟨_,D⟩
   ·exact absurd rfl (v _ (List.mem_of_getElem? u))
   ·exact D
  subst Z;rw[Rat.zero_add] at B;refine⟨E ++ [(m,q)],⟨I,J,?_,?_,?_,?_⟩,Du2 E m q⟩
  ·rw[Array.toList_push]
   exact O.snoc ⟨hm,rfl,s,b,s',rfl,B⟩
  ·rw[List.map_append,List.nodup_append]
   refine⟨h.nd,by simp,λ a G b' r=>?_⟩;obtain⟨t,f,rfl⟩:=List.mem_map.1 G;simp only[List.map_cons,List.map_nil,List.mem_singleton] at r;subst r;exact v t f
  ·rw[Array.toList_push,List.map_append,List.nodup_append]
   refine⟨h.born,by simp,λ a G b' r=>?_⟩;obtain⟨t,f,rfl⟩:=List.mem_map.1 G;simp only[List.map_cons,List.map_nil,List.mem_singleton] at r;subst r;have:=h.lt t f;omega
  ·rw[Array.toList_push]
   intro x d;rcases List.mem_append.1 d with d | d
   ·have:=h.lt x d;omega
   ·simp only[List.mem_singleton] at d
    subst d;exact Nat.lt_succ_self _
theorem Ea1 {c:Nat}(h:Ai4 214 W0 g es c E)(hm:m.ok)(N:Ab3 214 W0 s b s' q)(P: ∀t∈E,Sz k t.2)(O:Sz k q)(hk:k<=1073741824)(Q:1<=k):
  Aa0 Tryz.prog 128 [.map (some g),.agg ⟨[.int .u8 m.x,.int .u8 m.y,.int .u8 m.z]⟩,.agg ⟨[s.v,.bool b,s'.v]⟩] W0 (· = g) λ v W'=>v = .tuple ⟨[]⟩/\∃f j E',Ai4 214 W' g f j E'/\Du7 E (m,q) E':=by
 apply Bi9;refine⟨g,rfl,Ck1,Dr7 hm,es,c,h.pub,h.heap,Er2 h,?_,?_⟩
 ·intro e he R
  obtain⟨i,hi⟩:=List.mem_iff_getElem?.1 he;obtain⟨t,o,S,w,s0,b0,T,U,V⟩:=h.all.Fo1 hi;have X:t.1=m:=Mon.Ck0 (w.symm.trans R);refine⟨s0,b0,T,U,At2 V N (P t (List.mem_of_getElem? o)) O (by omega) (by omega) λ r j u Y A B=>⟨r,j,u,rfl,g,rfl,Ck1,Dr7 hm,λ W' n=>?_⟩⟩;have d:=h.ext (A.trans n);refine⟨es,c,d.pub,d.heap,Er2 d,.inl rfl,λ Z f C D F G H aa I=>?_⟩;obtain⟨E',h1,J⟩:=Dr3 (W0:=W0) d hm D F G H t.2 (.inl ⟨i,by rw[<-X];exact o⟩) (B.ext n);exact⟨rfl,f,C,E',h1.ext I,J⟩
 ·intro ab
  refine⟨⟨none,0,0⟩,false,⟨none,0,0⟩,rfl,At2 (Ar9 W0) N (Sz.zero Q) O (by omega) (by omega) λ r j u Y A B=>⟨r,j,u,rfl,g,rfl,Ck1,Dr7 hm,λ W' n=>?_⟩⟩;have d:=h.ext (A.trans n);refine⟨es,c,d.pub,d.heap,Er2 d,.inl rfl,λ Z f C D F G H aa I=>?_⟩;have ac: ∀t∈E,t.1≠m:=λ t o ad=>by
   obtain⟨i,hi⟩:=List.mem_iff_getElem?.1 o;obtain⟨e,he,S,w,_⟩:=h.all.get hi;exact ab e (List.mem_of_getElem? he) (by rw[w,ad])
  obtain⟨E',h1,J⟩:=Dr3 (W0:=W0) d hm D F G H 0 (.inr ⟨ac,rfl⟩) (B.ext n);exact⟨rfl,f,C,E',h1.ext I,J⟩
theorem Bj5 {W:PW}{M:Nat->Prop}{K:Value->PW->Prop}{c:Nat}(h:Ai4 214 W g es c E)(hm:m.ok)(r:Ab3 214 W s b s' q)(u: ∀t∈E,Sz k t.2)(w:Sz k q)(hk:k<=1073741824)(A:1<=k)(B:may W0 M g)(C: ∀W' d f j E',Ext W W'->Au9 (· = g) W' d->Ai4 214 W' g es c E->Ai4 214 d g f j E'->Du7 E (m,q) E'->K (.tuple ⟨[]⟩) d):
  Aa1 Tryz.prog W0 M 128 [.map (some g),.agg ⟨[.int .u8 m.x,.int .u8 m.y,.int .u8 m.z]⟩,.agg ⟨[s.v,.bool b,s'.v]⟩] W K:=by
 intro W' n;have o:=h.ext n;refine⟨(· = g),_,Ea1 o hm (r.ext n) u w hk A,λ H e=>?_,λ v d D F=>?_⟩
 ·subst e
  exact⟨o.pub,B⟩
 ·obtain⟨rfl,f,j,E',h1,G⟩:=F
  exact C W' d f j E' n D o h1 G
end Go.Proofs.YtkgeopnakkcdoaaGreat
namespace Go.Proofs.YtkgeopnakkcdoaaGreat
open Go Go.SX
variable {E:List Tm}{K:Value->PW->Prop}{M:Nat->Prop}{W W0:PW}{es:Array MapEntry}{g k:Nat}{sn:Array Nat}
def nzT (t:Tm):Bool:=decide (t.2≠0)
theorem Ff0 (l:List Tm)(m:Mon):Aj5 (l.filter nzT) m=Aj5 l m:=by
 induction l with
 | nil=>rfl
 | cons t r ih=>
  by_cases h:t.2=0
  ·rw[List.filter_cons_of_neg (by simp[nzT,h]),ih,Aj5,h]
   split<;>rw[Rat.zero_add]
  ·rw[List.filter_cons_of_pos (by simp[nzT,h]),Aj5,Aj5,ih]
theorem Dz3 {e:MapEntry}(h:e∈(leftOf es sn).toList):e∈es.toList/\sn.contains e.born=false:=by
 unfold leftOf at h;rw[Array.toList_filter,List.mem_filter] at h;exact⟨h.1,by simpa using h.2⟩
theorem Eb0 (h:(leftOf es sn).size=0): ∀e∈es.toList,sn.contains e.born=true:=by
 intro e he;refine Classical.byContradiction λ c=>?_;have:e∈(leftOf es sn).toList:=by
  unfold leftOf;rw[Array.toList_filter,List.mem_filter];exact⟨he,by simpa using c⟩
 rw[<-Array.length_toList] at h;rw[List.eq_nil_of_length_eq_zero h] at this;cases this
def spI (W0:PW) (c:Nat) (es:List MapEntry) (E:List Tm) (l:List PL) (W:PW):Prop:=match l with
 | [.row l11,PL.seen sn n]=>Ext W0 W/\n=c/\∃L,An5 (PT 214 W) l11 L/\(L ++ (At5 sn es E).filter nzT).Perm (E.filter nzT)
 | _=>False
def spM (es:List MapEntry) (E:List Tm) (l:List PL) (W:PW):Nat:=match l with
 | [_,PL.seen sn n]=>(At5 sn es E).length
 | _=>0
theorem De1 {c:Nat}(h:Ai4 214 W0 g es c E)(N: ∀t∈E,Sz k t.2)(hk:k<=1073741824)(hl:E.length<=1073741824):
  Aa0 Tryz.prog 129 [.map (some g)] W0 M λ v W'=>∃s:Sl,v = .agg ⟨[s.v]⟩/\Aq4 W0 s/\Ch2 214 180 W' s (Ag2 E):=by
 apply Bf8;have hlen:es.toList.length=E.length:=h.all.len;refine⟨g,rfl,es,c,h.pub,h.heap,⟨rfl,rfl⟩,spI W0 c es.toList E,spM es.toList E,⟨Ext.refl _,rfl,[],trivial,?_⟩,?_⟩
 ·rw[show(⟨[]⟩:Array Nat) = #[] from rfl,Bw6 hlen]
  exact .refl _
 rintro O P Q l11 aj hF;obtain⟨sn,R⟩: ∃sn,Ae4 O Q=sn:=⟨_,rfl⟩;rw[R] at hF⊢;obtain⟨u,rfl,L,o,d⟩:=hF;have f:=h.ext u;have ak:L.length<=E.length:=by
  have h1:=d.length_eq;have A:=List.length_filter_le nzT E;simp only[List.length_append] at h1;omega
 have al:=o.len;refine⟨es,P,f.pub,f.heap,λ e he=>h.lt e he,Nat.le_refl _,λ S T am U hO B=>?_,λ e he=>?_⟩
 ·have V:=Cp2 (sn:=sn) (es:=es.toList) (E:=E) (Eb0 S)
  rw[V,List.filter_nil,List.append_nil] at d;have X:(L.map (·.1)).Nodup:=(d.map _).nodup_iff.2 (List.Nodup.sublist (List.filter_sublist.map _) h.nd);have j: ∀t∈L,t.2≠0:=λ t r=>by
   have:=List.mem_filter.1 (d.mem_iff.1 r)
   simpa[nzT] using this.2
  have Y:Ag2 L=Ag2 E:=Bc1 λ m=>by rw[Da7 d,Ff0]
  intro W' C;have D:=hO.ext C;refine⟨_,_,Dh7 D (o.mono λ _ _ h=>h.ext (U.trans C)) X j (by omega),λ F G=>⟨D.2 F G,.inr (B F G).1⟩,λ v an hX Z=>?_⟩;obtain⟨rfl,hq⟩:=Z;refine⟨rfl,λ ap ab=>⟨T,rfl,λ g hg=>(B g hg).1,?_⟩⟩;rw[<-Y];exact hq.ext ab
 ·obtain⟨H,ad⟩:=Dz3 he
  obtain⟨i,hi⟩:=List.mem_iff_getElem?.1 H;obtain⟨t,r,h0,af,s,b,s',hv,I⟩:=f.all.Fo1 hi;have w:=Ce4 h.born hi r ad;have J:(At5 (sn.push e.born) es.toList E).length<(At5 sn es.toList E).length:=by
   rw[w.length_eq];simp
  refine⟨⟨es,f.pub,f.heap,H,h.born⟩,t.1.x,t.1.y,t.1.z,af,s,b,s',hv,Bk6 I (N t (List.mem_of_getElem? r)) (by omega) λ aq n _=>⟨_,rfl,λ ah=>⟨by simp;omega,⟨rfl,rfl⟩,⟨u.trans n,rfl,L ++ [t],(o.mono λ _ _ h=>h.ext n).snoc ⟨h0,s,b,s',rfl,I.ext n⟩,?_⟩,J⟩,λ heq=>⟨⟨rfl,rfl⟩,⟨u.trans n,rfl,L,o.mono λ _ _ h=>h.ext n,?_⟩,J⟩⟩⟩
  ·have j:nzT t=true:=by
    have:t.2≠0:=λ e=>ah ((Be6 _ _).2 e);simp[nzT,this]
   have h1:=w.filter nzT;rw[List.filter_cons_of_pos j] at h1;have A:(L ++ [t] ++ (At5 (sn.push e.born) es.toList E).filter nzT).Perm (L ++ (At5 sn es.toList E).filter nzT):=by
    rw[List.append_assoc];exact(h1.symm.append_left L)
   exact A.trans d
  ·have j:¬nzT t=true:=by
    have:t.2=0:=(Be6 _ _).1 (by omega);simp[nzT,this]
   have h1:=w.filter nzT;rw[List.filter_cons_of_neg j] at h1;exact(h1.symm.append_left L).trans d
theorem Ba0 {c:Nat}(h:Ai4 214 W g es c E)(e: ∀t∈E,Sz k t.2)(hk:k<=1073741824)(f:E.length<=1073741824)(j: ∀(s:Sl) (W':PW),Ext W W'->Aq4 W s->Ch2 214 180 W' s (Ag2 E)->K (.agg ⟨[s.v]⟩) W'):Aa1 Tryz.prog W0 M 129 [.map (some g)] W K:=
 Aa2 (λ W' d=>De1 (M:=λ _=>False) (h.ext d) e hk f) (λ W' v n d o r=>by
  obtain⟨s,rfl,u,w⟩:=r;exact j s n (d.trans o) (u.back d) w)
theorem Ch8 {c:Nat}(h:Ai4 214 W g es c E)(d: ∀t∈E,Sz k t.2)(hk:k<=1073741824)(e:E.length<=1073741824)(f: ∀(s:Sl) (W':PW),Ext W W'->Ab0 214 180 W' s (Ag2 E)->K (.agg ⟨[s.v]⟩) W'):Aa1 Tryz.prog W0 M 129 [.map (some g)] W K:=
 Ba0 h d hk e λ s W' j _ n=>f s W' j n.Ft4
end Go.Proofs.YtkgeopnakkcdoaaGreat
namespace Go.Proofs.YtkgeopnakkcdoaaGreat
open Go Go.SX
variable {K:Value->PW->Prop}{M:Nat->Prop}{W W0:PW}{b:Bool}{i:Int}{k:Nat}{l:List Tm}{q:Rat}{s t:Sl}{xs:List (List Value)}
theorem Fc3 {x:Nat}(h:x≠0):1<=nl x:=by
 have:nl x≠0:=λ e=>h (Ad0.1 e);omega
theorem As0 {α:Type}{j:Nat}{l:List α}(h:j<l.length):l.take (j+1)=l.take j ++ [l[j]]:=by
 rw[List.take_add_one,List.getElem?_eq_getElem h];rfl
theorem Dd5 (h:Ab0 214 180 W0 s l)(O:Bd k l)(hk:k<=536870912)(hl:l.length<=1073741824):
  Aa0 Tryz.prog 79 [s.v] W0 M λ v W'=>∃(s':Sl),v = .agg ⟨[Sl.v s']⟩/\Aq4 W0 s'/\Ch2 214 180 W' s' (Ag2 l):=by
 apply Da9;intro g W2 C _ P Q R;obtain⟨D,N,hF,e,f,r⟩:=O;have S:1<=k:=Nat.le_trans (Fc3 e) f
 refine⟨λ L W=>match L with
  | [.val (.int .i64 i)]=>∃j:Nat,i=(j:Int)/\j<=l.length/\W0.w.heap.size<=W.w.heap.size/\Ab0 214 180 W s l/\∃es c E a b,Ai4 214 W g es c E/\Dp6 D (l.take j) a E/\Fit D b (l.drop j)/\a+b<=N
  | _=>False,λ L _=>match L with | [.val (.int .i64 i)]=>l.length-i.toNat | _=>0,⟨0,rfl,by omega,C.size,h.ext C,#[],0,[],0,N,Ai4.new Q R,Dp6.nil D,hF,by omega⟩,?_⟩
 rintro i5 W6 ⟨j,rfl,hj,F,o,es,c,E,a,b,G,d,H,ak⟩;have hn:=o.n;refine⟨λ am=>?_,λ an=>?_⟩
 ·have u:j<l.length:=by omega
  obtain⟨T,s1,b1,s2,he,_,_,U⟩:=o.at (List.getElem?_eq_getElem u);rw[List.drop_eq_getElem_cons u] at H;obtain⟨n,k',ao,I,w⟩:=H;refine⟨o.inB (by omega) (by omega),_,_,_,s1,b1,s2,he,Bj5 (k:=k) G T U (λ t A=>((d.fit.mem A).mono (by omega:a<=N)).sz e f r) ((I.mono (by omega:n<=N)).sz e f r) (by omega) S (.inr P) λ W' ap V X E' B J Y Z hA=>⟨rfl,by unfold I64;omega,⟨j+1,by push_cast;rfl,by omega,Nat.le_trans F (Nat.le_trans B.size J.size),(o.ext B).map J Y.heap,V,X,E',a+n,k',Z,?_,w,by omega⟩,?_⟩⟩
  ·rw[As0 u]
   exact d.add hA I
  ·show l.length-Int.toNat ((j:Int)+1)<l.length-Int.toNat (j:Int)
   omega
 ·have ab:j=l.length:=by omega
  subst ab;rw[List.take_length] at d;have hlen:=d.len;exact Ba0 (k:=k) G (λ t A=>((d.fit.mem A).mono (by omega:a<=N)).sz e f r) (by omega) (by omega) λ s' W' B w ac=>⟨s',rfl,λ aq ad=>⟨s',rfl,λ g' af=>Nat.le_trans F (w g' af),by rw[<-d.norm];exact ac.ext ad⟩⟩
theorem Dt6 (h:Ab0 214 180 W0 s l)(c:Bd k l)(hk:k<=536870912)(d:l.length<=1073741824):
  Aa0 Tryz.prog 79 [s.v] W0 M λ v W'=>∃(s':Sl),v = .agg ⟨[Sl.v s']⟩/\Ab0 214 180 W' s' (Ag2 l):=by
 exact(Dd5 h c hk d).mono (λ _ h=>h) λ v W' _ ⟨s',e,_,f⟩=>⟨s',e,f.Ft4⟩
theorem An2 (h:Ab0 214 180 W s l)(d:Bd k l)(hk:k<=536870912)(e:l.length<=1073741824)(f: ∀(s':Sl) (W':PW),Ext W W'->(Ab0 214 180 W' s' (Ag2 l))->K (.agg ⟨[Sl.v s']⟩) W'):
  Aa1 Tryz.prog W0 M 79 [s.v] W K:=
 Mi4 (λ _ c=>Dt6 (h.ext c) d hk e) fun | _,W',c,⟨s',rfl,h⟩=>f s' W' c h
theorem Bf5 {p:List Tm}(h:Row W 180 6 s xs)(c:An5 (PT 214 W) xs p):Ab0 214 180 W s p:=⟨xs,h,c⟩
theorem Dz6 (h:Row W0 180 6 s xs)(n:xs.length<=1099511627776):
  Aa0 Tryz.prog 141 [s.v] W0 M λ v W'=>∃(s':Sl),v=Sl.v s'/\Aq4 W0 s'/\Go.SX.Own W' 180 6 s' xs:=by
 apply Ai9;refine⟨λ d o r=>?_,λ d=>⟨xs,⟨_,h⟩,by omega,λ s3 u w hO e A f=>⟨s3,rfl,λ g c=>(e g c).1,by rw[List.nil_append] at hO;exact hO.ext f⟩⟩⟩;have:xs = []:=Classical.byContradiction λ j=>by
  have:=h.some j;rw[d] at this;cases this
 subst this;exact⟨⟨none,0,0⟩,rfl,λ g c=>by simp[Sl.v,Value.ownBlock] at c,⟨by simp,rfl,.inl ⟨rfl,rfl⟩⟩,λ g c=>by simp[Sl.v,Value.ownBlock] at c⟩
theorem Cv0 (h:Row W 180 6 s xs)(d:xs.length<=1099511627776)(e: ∀(s':Sl) (W':PW),Ext W W'->(Aq4 W s'/\Go.SX.Own W' 180 6 s' xs)->K (Sl.v s') W'):
  Aa1 Tryz.prog W0 M 141 [s.v] W K:=
 Aa2 (λ W' c=>Dz6 (h.ext c) d) fun | W',_,f,c,j,⟨s',rfl,n,h⟩=>e s' f (c.trans j) ⟨n.back c,h⟩
theorem Cv7 (h:Row W0 180 6 s xs)(c:xs.length<=1099511627776):
  Aa0 Tryz.prog 98 [.agg ⟨[s.v]⟩] W0 M λ v W'=>∃(s':Sl),v=Sl.v s'/\Aq4 W0 s'/\Go.SX.Own W' 180 6 s' xs:=by
 apply Bc4;exact Cv0 h c λ s' f j ⟨d,hO⟩=>⟨s',rfl,λ n e=>⟨s',rfl,d,hO.ext e⟩⟩
theorem Ba1 (h:Row W 180 6 s xs)(d:xs.length<=1099511627776)(e: ∀(s':Sl) (W':PW),Ext W W'->(Aq4 W s'/\Go.SX.Own W' 180 6 s' xs)->K (Sl.v s') W'):
  Aa1 Tryz.prog W0 M 98 [.agg ⟨[s.v]⟩] W K:=
 Aa2 (λ W' c=>Cv7 (h.ext c) d) fun | W',_,f,c,j,⟨s',rfl,n,h⟩=>e s' f (c.trans j) ⟨n.back c,h⟩
theorem Cq4 {m:Mon}(h:Sz k q):Bd (k+3) [(m,q)]:=by
 have:=Bd.Co7 (k:=k) (l:=[(m,q)]) (by intro t c;simp at c;subst c;exact h);exact this.mono (by simp)
theorem Go5 (h:Ab3 214 W0 s b t q)(c:Sz k q)(hk:k<=268435456):
  Aa0 Tryz.prog 27 [.agg ⟨[s.v,.bool b,t.v]⟩] W0 M λ v W'=>∃(s':Sl),v = .agg ⟨[Sl.v s']⟩/\Ab0 214 180 W' s' (Ag2 [(⟨0,0,0⟩,q)]):=by
 apply Gk3;intro s1 j d hO _;exact An2 (Bf5 (p:=[(⟨0,0,0⟩,q)]) hO.row ⟨⟨(by decide:(⟨0,0,0⟩:Mon).ok),s,b,t,rfl,h.ext d⟩,trivial⟩) (Cq4 c) (by omega) (by simp) λ s' n o e=>⟨s',rfl,λ r f=>⟨s',rfl,e.ext f⟩⟩
theorem Gf5 (h:Ab3 214 W s b t q)(d:Sz k q)(hk:k<=268435456)(e: ∀(s':Sl) (W':PW),Ext W W'->(Ab0 214 180 W' s' (Ag2 [(⟨0,0,0⟩,q)]))->K (.agg ⟨[Sl.v s']⟩) W'):
  Aa1 Tryz.prog W0 M 27 [.agg ⟨[s.v,.bool b,t.v]⟩] W K:=
 Mi4 (λ _ c=>Go5 (h.ext c) d hk) fun | _,W',c,⟨s',rfl,h⟩=>e s' W' c h
def Da3 (i:Nat):Mon:=if i=0 then⟨1,0,0⟩ else if i=1 then⟨0,1,0⟩ else⟨0,0,1⟩
def Dc6 (i:Int):List Tm:=if 0<=i/\i<3 then[(Da3 i.toNat,1)] else[]
theorem Br8 (m:Mon):Ag2 [(m,(1:Rat))] = [(m,1)]:=by
 have:(1:Rat)≠0:=by decide
 simp[Ag2,Bg6,this]
theorem Dy3:
  Aa0 Tryz.prog 33 [.int .i64 i] W0 M λ v W'=>∃(s':Sl),v = .agg ⟨[Sl.v s']⟩/\Ab0 214 180 W' s' (Dc6 i):=by
 apply Ct2;refine⟨λ h H I=>⟨⟨none,0,0⟩,rfl,?_⟩,λ h=>⟨λ J N I=>⟨⟨none,0,0⟩,rfl,?_⟩,λ J=>⟨⟨by omega,by omega⟩,by omega,⟨⟨trivial,λ e=>?_⟩,λ e=>?_⟩,λ e=>?_⟩⟩⟩
 ·unfold Dc6;rw[if_neg (by omega)];exact Ab0.nil H
 ·unfold Dc6;rw[if_neg (by omega)];exact Ab0.nil N
 ·have j:Dc6 i=Ag2 [(Da3 0,1)]:=by unfold Dc6;rw[if_pos (by omega),Br8,e]
  rw[j];refine Ay8 (z:=1) (by unfold I64;omega) λ c d f w A n=>⟨c,d,f,rfl,λ B C o hO _=>?_⟩;exact An2 (Bf5 (p:=[(Da3 0,1)]) hO.row ⟨⟨by decide,c,d,f,rfl,n.ext o⟩,trivial⟩) (Cq4 (Sz.one (Nat.le_refl 1))) (by omega) (by simp) λ s' D F r=>⟨s',rfl,λ G u=>⟨s',rfl,r.ext u⟩⟩
 ·have j:Dc6 i=Ag2 [(Da3 1,1)]:=by unfold Dc6;rw[if_pos (by omega),Br8,e]
  rw[j];refine Ay8 (z:=1) (by unfold I64;omega) λ c d f w A n=>⟨c,d,f,rfl,λ B C o hO _=>?_⟩;exact An2 (Bf5 (p:=[(Da3 1,1)]) hO.row ⟨⟨by decide,c,d,f,rfl,n.ext o⟩,trivial⟩) (Cq4 (Sz.one (Nat.le_refl 1))) (by omega) (by simp) λ s' D F r=>⟨s',rfl,λ G u=>⟨s',rfl,r.ext u⟩⟩
 ·have j:Dc6 i=Ag2 [(Da3 2,1)]:=by unfold Dc6;rw[if_pos (by omega),Br8,e]
  rw[j];refine Ay8 (z:=1) (by unfold I64;omega) λ c d f w A n=>⟨c,d,f,rfl,λ B C o hO _=>?_⟩;exact An2 (Bf5 (p:=[(Da3 2,1)]) hO.row ⟨⟨by decide,c,d,f,rfl,n.ext o⟩,trivial⟩) (Cq4 (Sz.one (Nat.le_refl 1))) (by omega) (by simp) λ s' D F r=>⟨s',rfl,λ G u=>⟨s',rfl,r.ext u⟩⟩
theorem Cr4 (d: ∀(s':Sl) (W':PW),Ext W W'->(Ab0 214 180 W' s' (Dc6 i))->K (.agg ⟨[Sl.v s']⟩) W'):
  Aa1 Tryz.prog W0 M 33 [.int .i64 i] W K:=
 Mi4 (λ _ c=>Dy3 ) fun | _,W',c,⟨s',rfl,h⟩=>d s' W' c h
end Go.Proofs.YtkgeopnakkcdoaaGreat
namespace Go.Proofs.YtkgeopnakkcdoaaGreat
open Go Go.Shelf Go.Proofs
def Ay0:Go.Shelf.Ren:=⟨fun | 4=>188 | n=>n,fun | 22=>78 | 25=>180 | 3=>3 | 4=>4 | 9=>9 | 20=>20 | 0=>0 | n=>n,fun | n=>n⟩
theorem Fd7:Go.Proofs.Lays8.n4 Tryz.prog Ay0 where
 mixed:=by kernel_rfl
 f4:=⟨ "slices.Grow[[]cincture/poly.Term,cincture/poly.Term]",by decide,Tryz.func188.trans (congrArg some (by kernel_rfl))⟩
 t0:=Tryz.underlying0
 a0:=Tryz.isAgg0
 z0:=Tryz.sizeOf0
 v0:=Tryz.zeroValue0
 t3:=Tryz.underlying3
 a3:=Tryz.isAgg3
 z3:=Tryz.sizeOf3
 v3:=Tryz.zeroValue3
 t4:=Tryz.underlying4
 a4:=Tryz.isAgg4
 z4:=Tryz.sizeOf4
 v4:=Tryz.zeroValue4
 t9:=Tryz.underlying9
 a9:=Tryz.isAgg9
 z9:=Tryz.sizeOf9
 v9:=Tryz.zeroValue9
 t20:=Tryz.underlying20
 a20:=Tryz.isAgg20
 z20:=Tryz.sizeOf20
 v20:=Tryz.zeroValue20
 t22:=Tryz.underlying78
 a22:=Tryz.isAgg78
 z22:=Tryz.sizeOf78
 v22:=Tryz.zeroValue78
end Go.Proofs.YtkgeopnakkcdoaaGreat
namespace Go.Proofs.YtkgeopnakkcdoaaGreat
open Go Go.SX
theorem Es1 {W0:PW}{M:Nat->Prop}{n:Nat}(I:n<=1099511627776):
  Aa0 Tryz.prog 188 [.slice none 0 0,.int .i64 (n:Int)] W0 M λ v W'=>∃s:Sl,v=s.v/\Aq4 W0 s/\Go.SX.Own W' 180 6 s []:=by
 refine⟨⟨_,Tryz.func188,by kernel_rfl,by kernel_rfl⟩,λ f=>?_⟩
 by_cases j:n=0
 ·subst j
  have h:=Proofs.Any8.slices_Grow_room Fd7 none 0 0 0 W0.w (Nat.le_refl _) (by omega) (by omega) (by omega)
  change Calls Tryz.prog 188 _ _ _ at h
  refine Calls.mono h ?_;rintro e w' ⟨rfl,rfl⟩;exact⟨_,rfl,Am7.refl _ _,⟨none,0,0⟩,rfl,λ g c=>by simp[Sl.v,Value.ownBlock] at c,⟨by simp,rfl,.inl ⟨rfl,rfl⟩⟩,λ g c=>by simp[Sl.v,Value.ownBlock] at c⟩
 ·obtain⟨⟨inf,o,r,u,w⟩,_,_,J,_⟩:=Lg2
  have N:inf.size=6:=r;have A:inf.bytes=64:=u;have h:=Proofs.Any8.slices_Grow_grow Fd7 inf Lk6.zv o w (by omega) none 0 0 n [] W0.w (Nat.le_refl _) (by omega) (by rw[A];omega) (by omega) (by simp) (λ _=>rfl) (λ a B=>by cases B);have C:=grownCap_ge W0.w (0+n) 0 (Ay0.t 25);have d:=grownCap_le_maxLen W0.w (0+n) 0 (Ay0.t 25) (by simp only[maxLen];omega);obtain⟨G,D⟩: ∃G,G=grownCap W0.w (0+n) 0 (Ay0.t 25):=⟨_,rfl⟩;rw[<-D] at h C d
  change Calls Tryz.prog 188 _ _ _ at h
  refine Calls.mono h ?_;rintro e w' ⟨rfl,rfl⟩;refine⟨_,rfl,(Am7.alloc M W0.w.drew _).Fr9,⟨some ⟨W0.w.heap.size,0,none⟩,0,G⟩,rfl,λ g c=>?_,⟨by simp,rfl,.inr ⟨W0.w.heap.size,G,_,rfl,Nat.zero_le _,heap_alloc_new W0.w.drew _,Nat.zero_le _,d,?_,?_⟩⟩,λ g c F=>?_⟩
  ·simp[Sl.v,Value.ownBlock] at c
   omega
  ·have H:Lk6.zv.cells.size=6:=rfl
   simp only[Array.size_append,size_zeroCells,H];simp;omega
  ·simp
  ·simp[Sl.v,Value.ownBlock] at c
   have:=f g F;omega
end Go.Proofs.YtkgeopnakkcdoaaGreat
