import Derived.Test.YtkgeopnakkcdoaaGreatDoorW4
import Derived.Test.YtkgeopnakkcdoaaGreatDoorR4
import Derived.Test.YtkgeopnakkcdoaaGreatDoorLib3
import Derived.Test.YtkgeopnakkcdoaaGreatDoorW5
import Derived.Test.YtkgeopnakkcdoaaGreatDoorW3
import Derived.Test.YtkgeopnakkcdoaaGreatDoorR5
import Derived.Shelf.SlSortCmp.WholeK
import Derived.Shelf.SlGeneric
import Derived.Test.YtkgeopnakkcdoaaGreatDoorProg
import Derived.Maps.Keyed
import Derived.DeepKeys5
set_option linter.unusedVariables false
set_option linter.unusedSimpArgs false
set_option maxRecDepth 100000
namespace Go.Proofs.YtkgeopnakkcdoaaGreatDoor
open Go Go.SX
variable {K:Value->PW->Prop}{M:Nat->Prop}{W W0:PW}{b:Bool}{k x:Nat}{q:Rat}{s:Sl}{t:TypeId}{xs:List (List Value)}{z:Int}
theorem Own.Fi5 {i:Int}{sz:Nat}(h:Go.SX.Own W t sz s xs)(c:0<=i)(h1:i<(xs.length:Int)):inB s i:=
 ⟨c,by have:=h.n;omega,Row.some h.row λ e=>by subst e;simp at h1;omega⟩
theorem Own.at1 {v:Value}(h:Go.SX.Own W t 1 s xs){i:Nat}(hi:xs[i]?=some [v]):Aa7 W s 1 i 0 [v]:=Row.elem h.row hi λ j u c=>by simpa using c
theorem Ea5 {us:List Nat}(h:Go.SX.Own W0 5 1 s (An4 us))(N:us.length<=1099511627776):
  Aa0 Tryz.prog 248 [s.v] W0 (λ g=>s.v.ownBlock=some g) λ v W'=>v = .tuple #[]/\Go.SX.Own W' 5 1 s (An4 us.reverse):=by
 apply Ao1;have O:s.n=us.length:=by rw[h.n,Ah2]
 have f:(An4 us).length=us.length:=Ah2 us;have one: ∀(z:Int) (u:Value),u∈[Value.int .u8 z]->u.oneCell'=true:=by
  intro z u hu;rw[List.mem_singleton.1 hu];rfl
 refine⟨by unfold I64;omega,λ l W=>match l with
  | [.val (.int .i64 i),.val (.int .i64 j)]=>∃(k:Nat) (ys:List (List Value)),i=(k:Int)/\j=(us.length:Int)-1-(k:Int)/\Go.SX.Own W 5 1 s ys/\ys.length=us.length/\k<=us.length/\(us.length<=2*k+1\/k<us.length)/\
    ∀a,a<(An4 us).length->ys[a]?=if a<k\/(An4 us).length<=a+k then(An4 us)[(An4 us).length-1-a]? else(An4 us)[a]?
  | _=>False,λ l _=>match l with | [.val (.int .i64 i),_]=>us.length-i.toNat | _=>0,⟨0,An4 us,rfl,by omega,h,f,Nat.zero_le _,by omega,λ a P=>by rw[if_neg (by omega)]⟩,?_⟩
 rintro i3 i4 Q ⟨k,ys,rfl,rfl,hO,A,hk,R,c⟩;refine⟨λ S=>?_,λ T U B=>⟨rfl,?_⟩⟩
 ·have V:k<us.length-1-k:=by omega
  have C:(us.length:Int)-1-(k:Int)=((us.length-1-k:Nat):Int):=by omega
  have D:us.length-1-k<us.length:=by omega
  have F:k<us.length:=by omega
  have n:(An4 us)[us.length-1-k]?=some [.int .u8 (48+us[us.length-1-k]:Int)]:=by simp[An4,D]
  have o:(An4 us)[k]?=some [.int .u8 (48+us[k]:Int)]:=by simp[An4,F]
  have G:ys[us.length-1-k]?=some [.int .u8 (48+us[us.length-1-k]:Int)]:=by rw[c _ (by omega),if_neg (by omega),n]
  have H:ys[k]?=some [.int .u8 (48+us[k]:Int)]:=by rw[c _ (by omega),if_neg (by omega),o]
  rw[C];have r:inB s ((us.length-1-k:Nat):Int):=Own.Fi5 hO (by omega) (by omega);have w:inB s ((k:Nat):Int):=Own.Fi5 hO (by omega) (by omega);refine⟨r,_,Own.at1 hO G,w,_,Own.at1 hO H,w,?_⟩;refine Ao7 (j:=k) hO (by omega) rfl (one _) (λ g d=>.inl d) λ X g d hw I=>⟨r,?_⟩;refine Ao7 (j:=us.length-1-k) I (by rw[List.length_set];omega) rfl (one _) (λ g d=>.inl d) λ Y Z aa ab J=>⟨by unfold I64;omega,by unfold I64;omega,⟨k+1,_,by push_cast;rfl,by omega,J,by simp[A],by omega,by omega,?_⟩,?_⟩
  ·have:=Dr2 (xs:=An4 us) (ys:=ys) (by omega) (by omega) (by rw[f];exact n) o c
   rw[f] at this⊢;exact this
  ·show us.length-Int.toNat ((k:Int)+1)<us.length-Int.toNat (k:Int)
   omega
 ·have:=Do5 (xs:=An4 us) (ys:=ys) (k:=k) (by omega) (by omega) c
  have e:An4 us.reverse=(An4 us).reverse:=by simp[An4]
  rw[e,<-this];exact hO.ext B
theorem Ez1 {a:Nat}{p:Nat}{e:Nat}{r:Nat}(h:a+p*r=e):a+p*(r%10)+p*10*(r/10)=e:=by
 have h1:=Nat.mod_add_div r 10;have c:p*(r%10)+p*10*(r/10)=p*(r%10+10*(r/10)):=by grind
 rw[h1] at c;omega
theorem Fa1: ∀{l:List Nat} (h:l≠[]) (c:l[l.length-1]?=some 0),dvl (l.take (l.length-1))=dvl l:=by
 intro l h c;have d:=List.length_pos_iff.2 h;have e:l=l.take (l.length-1) ++ [0]:=by
  have:=List.dropLast_concat_getLast h;rw[List.getLast_eq_getElem,List.dropLast_eq_take] at this;rw[List.getElem?_eq_getElem (by omega)] at c;rw[Option.some.inj c] at this;exact this.symm
 conv=>rhs;rw[e,Ay5]
 simp[dvl]
theorem Dy5 (h:Aa6 257 W0 s x)(hx:nl x<=100000000):
  Aa0 Tryz.prog 207 [.agg #[s.v]] W0 M λ v W'=>v = .string (En3 x)/\True:=by
 apply Bn2;intro W1 X;refine⟨λ _=>False,_,Ds4 (M:=λ _=>False) (Row.ext h X) (by show nl x<=_;omega),λ _ h=>h.elim,?_⟩;rintro v W2 an ⟨s3,rfl,ao,ap⟩;refine⟨s3,rfl,?_⟩;have Y:=X.size
 refine⟨λ l W=>match l with
  | [.row Z,.val (.slice A n c)]=>W0.w.heap.size<=W.w.heap.size/\∃(j:List Nat) (y:Nat),Z=An4 j/\(∀d∈j,d<10)/\dvl j+10^j.length*y=x/\j.length<=32*nl x+9/\nl y<=100000000/\Go.SX.Own W 257 1 ⟨A,n,c⟩ (cel (dg y))/\Aq4 W0 ⟨A,n,c⟩
  | _=>False,λ l W=>match l with | [_,.val (.slice A n c)]=>slN W 257 ⟨A,n,c⟩ | _=>0,⟨Nat.le_trans Y an.size,[],x,rfl,λ d h=>(by simp at h),by simp[dvl],by simp,hx,ao,λ g o=>Nat.le_trans Y (ap g o)⟩,?_⟩
 rintro Z u P ⟨aq,j,y,rfl,aa,ab,hlen,hy,w,hF⟩;have w:Go.SX.Own P 257 1 u (cel (dg y)):=w;have hF:Aq4 W0 u:=hF;have au:u.n=nl y:=by have:=w.n;rw[Aa5] at this;exact this
 refine⟨λ av=>?_,λ hz aV aW aX aw ax=>?_⟩
 ·have Q:y≠0:=λ e=>by subst e;rw[Ag9] at au;omega
  have aY:j.length<32*nl x:=by
   have h1:10^j.length*1<=10^j.length*y:=Nat.mul_le_mul_left _ (by omega);have h2:2^j.length<=10^j.length:=Nat.pow_le_pow_left (by decide) _;have h3:=Bb4 x;rw[Bp0] at h3;exact(Nat.pow_lt_pow_iff_right (by decide:1<2)).1 (by omega)
  have ad:dg y≠[]:=λ e=>Q (by rw[<-Ac5 y,e];rfl);intro W' C;obtain⟨g,cs,hm,o⟩:=(w.ext C).mut ad;refine⟨_,_,Bw9 (by':=1000000000) hm (Ad8 y) (by decide) (by decide) (by show nl y<=_;omega),?_,?_⟩
  ·rintro b rfl
   exact⟨hm.S,.inr (hF _ o)⟩
  rintro v R az ⟨ws,rfl,ae,aA,S,aB⟩;rw[Ac5] at S⊢;have aC:Go.SX.Own R 257 1 u (cel ws):=(w.ext C).put hm aB ae;have aD:W0.w.heap.size<=R.w.heap.size:=Nat.le_trans (Nat.le_trans aq C.size) az.size;obtain⟨r,af⟩: ∃r,y%1000000000=r:=⟨_,rfl⟩;have a0:r<1000000000:=by omega
  rw[af]
  refine⟨_,rfl,λ l W=>match l with
   | [.row ag,.val (.int .u32 i15),.val (.int .i64 i16)]=>Ext R W/\∃(es:List Nat) (f:Nat),ag=An4 (j ++ es)/\i15=(f:Int)/\i16=(es.length:Int)/\es.length<=9/\(∀d∈es,d<10)/\dvl es+10^es.length*f=r/\f<=r
   | _=>False,λ l _=>match l with | [_,_,.val (.int .i64 i)]=>9-i.toNat | _=>0,⟨Ext.refl _,[],r,by simp,rfl,rfl,by simp,λ d h=>(by simp at h),by simp[dvl],Nat.le_refl _⟩,?_⟩
  rintro ag i15 i16 a1 ⟨T,es,f,rfl,rfl,rfl,D,ah,I,a2⟩;refine⟨λ a3=>?_,λ a4=>?_⟩
  ·have G:Int.tmod (f:Int) 10=((f%10:Nat):Int):=by rw[Int.tmod_eq_emod_of_nonneg (by omega)];rfl
   have e2:IntKind.wrap .u32 (48+Int.tmod (f:Int) 10)=((48+f%10:Nat):Int):=by
    rw[G,show(48:Int)+((f%10:Nat):Int)=((48+f%10:Nat):Int) by push_cast;rfl,Ab9,Nat.mod_eq_of_lt (by unfold B;omega)]
   have e3:IntKind.wrap .u8 (((48+f%10:Nat)):Int)=(48+((f%10:Nat):Int)):=by rw[Du1 (by omega) (by omega)];push_cast;rfl
   have e4:IntKind.wrap .u32 (Int.tdiv (f:Int) 10)=((f/10:Nat):Int):=by
    rw[Int.tdiv_eq_ediv_of_nonneg (by omega),show((f:Int)/10)=((f/10:Nat):Int) by rfl,Ab9,Nat.mod_eq_of_lt (by unfold B;omega)]
   rw[e2,e3,e4];refine⟨by decide,by rw[Ah2,List.length_append];simp only[List.length_cons,List.length_nil];omega,by decide,by unfold I64;omega,⟨T,es ++ [f%10],f/10,?_,rfl,by simp,by simp;omega,?_,?_,?_⟩,?_⟩
   ·rw[<-List.append_assoc,Bp9 (j ++ es)];rfl
   ·intro d F
    rcases List.mem_append.1 F with h | h
    ·exact ah d h
    ·rw[List.mem_singleton.1 h];omega
   ·rw[Ay5,List.length_append,List.length_singleton,Nat.pow_succ]
    simp only[dvl,Nat.mul_zero,Nat.add_zero];exact Ez1 I
   ·have:f/10<=f:=Nat.div_le_self ..
    omega
   ·show 9-Int.toNat ((es.length:Int)+1)<9-Int.toNat (es.length:Int)
    omega
  ·have aj:es.length=9:=by omega
   rw[aj] at I;have aG:dvl es=r:=by
    have:f=0:=by omega
    rw[this] at I
    simpa using I
   refine Ba4 (aC.ext T) aA (by rw[ae];show nl y<=_;omega) λ U ak aH ⟨J,aI⟩=>⟨U,rfl,⟨Nat.le_trans (Nat.le_trans aD T.size) aH.size,j ++ es,y/1000000000,rfl,?_,?_,by rw[List.length_append];omega,Nat.le_trans (Ad1 (Nat.div_le_self ..)) hy,?_,λ g' aJ=>hF g' (aI g' aJ)⟩,?_⟩
   ·intro d F
    rcases List.mem_append.1 F with h | h
    ·exact aa d h
    ·exact ah d h
   ·rw[Ay5,List.length_append,aj,aG,Nat.pow_add,<-af]
    have G:=Nat.mod_add_div y 1000000000;have e2:10^j.length*(y%1000000000)+10^j.length*10^9*(y/1000000000)=10^j.length*y:=by
     conv=>rhs;rw[<-G]
     rw[Nat.mul_add,Nat.mul_assoc]
    omega
   ·rw[S] at J
    exact J
   ·rw[S] at J
    have i20:Aa6 257 ak U (y/1000000000):=J.row;have i8:Aa6 257 P u y:=w.row;show slN ak _ U<slN P _ u;rw[Bl5 i20,Bl5 i8];exact Nat.div_lt_self (by omega) (by decide)
 ·have Q:y=0:=Ad0.1 (by omega)
  subst Q;rw[Nat.mul_zero,Nat.add_zero] at ab
  refine⟨λ l W=>match l with
   | [.val (.slice A n c)]=>∃es:List Nat,Go.SX.Own W 5 1 ⟨A,n,c⟩ (An4 es)/\dvl es=x/\(∀d∈es,d<10)/\es.length<=32*nl x+9/\Aq4 W0 ⟨A,n,c⟩
   | _=>False,λ l _=>match l with | [.val (.slice A n c)]=>n | _=>0,⟨j,aw,ab,aa,hlen,λ g o=>(ax g o).1⟩,?_⟩
  rintro H aK ⟨es,hO,V,F,hl,N⟩;have hO:Go.SX.Own aK 5 1 H (An4 es):=hO;have N:Aq4 W0 H:=N;have hn:H.n=es.length:=by rw[hO.n,Ah2]
  refine⟨λ av=>?_,λ hz=>⟨λ _ a7 _=>⟨?_,trivial⟩,λ ad=>absurd hz (by omega)⟩⟩
  ·have D:es.length-1<es.length:=by omega
   have G:((H.n:Int)-1)=((es.length-1:Nat):Int):=by omega
   rw[G,show Int.toNat ((es.length-1:Nat):Int)=es.length-1 from rfl];have hb:(An4 es)[es.length-1]?=some [.int .u8 (48+es[es.length-1]:Int)]:=by simp[An4,D]
   refine⟨by unfold I64;omega,Own.Fi5 hO (by omega) (by rw[Ah2];omega),_,Own.at1 hO hb,λ aM=>⟨by unfold I64;omega,⟨by omega,by omega,by have:=hO.row.2.1;omega⟩,?_,?_⟩,λ aM=>⟨λ h=>absurd h (by omega),λ _=>?_⟩⟩
   ·rw[show Int.toNat 0=0 from rfl,show TyI.size ty5=1 from rfl,Sl.Ar0]
    have ht:=hO.take (k:=es.length-1) (by rw[Ah2];omega);have e0:es[es.length-1]=0:=by omega
    have ee:An4 (es.take (es.length-1))=(An4 es).take (es.length-1):=by simp[An4,List.map_take]
    refine⟨es.take (es.length-1),by rw[ee];exact ht,?_,λ d hm=>F d (List.mem_of_mem_take hm),by simp;omega,λ g o=>N g (Cj9 o)⟩;rw[<-V];exact Fa1 (λ e=>by subst e;simp at D) (by rw[List.getElem?_eq_getElem D,e0])
   ·rw[show Int.toNat 0=0 from rfl,show TyI.size ty5=1 from rfl,Sl.Ar0]
    show es.length-1<H.n;omega
   ·intro W' C
    refine⟨_,_,Ea5 (hO.ext C) (by omega),λ g o=>⟨(hO.ext C).2 g o,.inr (N g o)⟩,?_⟩;rintro v a8 a9 ⟨rfl,hR⟩;refine⟨rfl,(es.reverse.map λ(d:Nat)=>(48+(d:Int))),?_,λ ba _=>⟨?_,trivial⟩⟩
    ·have:=hR.row
     have e:An4 es.reverse=List.map (λ i33=>[Value.int IntKind.u8 i33]) (es.reverse.map λ(d:Nat)=>(48+(d:Int))):=by simp[An4]
     rw[e] at this;exact this
    ·have aR:es.getLast?≠some 0:=by
      rw[List.getLast?_eq_getElem?,List.getElem?_eq_getElem D];intro e;have:=Option.some.inj e;omega
     have O:=Eo0 F aR;rw[V] at O;have aS:x≠0:=λ e=>by
      rw[e] at O;have:es = []:=by rw[<-O];exact Ay1
      subst this;simp at D
     unfold En3;rw[if_neg aS,O]
  ·have:es = []:=List.eq_nil_of_length_eq_zero (by omega)
   subst this;rw[<-V];rfl
theorem Av4 (h:Aa6 257 W s x)(d:nl x<=100000000)(e: ∀(W':PW),Ext W W'->(True)->K (.string (En3 x)) W'):
  Aa1 Tryz.prog W0 M 207 [.agg #[s.v]] W K:=
 Mi4 (λ _ c=>Dy5 (h.ext c) d) fun | _,W',c,⟨rfl,h⟩=>e W' c h
theorem Ct9 (h:Ab5 257 W0 s b z)(c:nl z.natAbs<=100000000):
  Aa0 Tryz.prog 206 [.agg #[s.v,.bool b]] W0 M λ v W'=>v = .string (Dq2 z)/\True:=by
 apply Bc7;have i:=Av8 z.natAbs;have d:=h.2;refine⟨λ e=>Av4 h.1 c λ j l _=>⟨_,rfl,?_,λ n _=>⟨?_,trivial⟩⟩,λ f=>Av4 h.1 c λ o r _=>⟨_,rfl,λ u _=>⟨?_,trivial⟩⟩⟩
 ·show((1:Nat):Int)+_<=_
  omega
 ·have:z<0:=by rw[d] at e;exact of_decide_eq_true e
  unfold Dq2;rw[if_pos this]
 ·have:¬z<0:=by rw[d] at f;exact of_decide_eq_false f
  unfold Dq2;rw[if_neg this]
theorem Ba3 (h:Ab5 257 W s b z)(d:nl z.natAbs<=100000000)(e: ∀(W':PW),Ext W W'->(True)->K (.string (Dq2 z)) W'):
  Aa1 Tryz.prog W0 M 206 [.agg #[s.v,.bool b]] W K:=
 Mi4 (λ _ c=>Ct9 (h.ext c) d) fun | _,W',c,⟨rfl,h⟩=>e W' c h
theorem Dw2 {t:Sl}(h:Ab3 257 W0 s b t q)(c:Sz k q)(hk:k<=100000000):
  Aa0 Tryz.prog 146 [.agg #[s.v,.bool b,t.v]] W0 M λ v W'=>v = .string (Ed0 q)/\True:=by
 apply Bn6;have o:=c.dn;have h1:=c.1;have r:=c.2;have u:=Cr1 q.num;have w:=Av8 q.den;refine Ac9 h.2 (by omega) λ A d _=>⟨_,rfl,λ i=>?_,λ i=>?_⟩
 ·have f:q.den=1:=Aq0.1 (Ag3.1 (by omega))
  refine Ba3 (h.1.ext d) (by omega) λ B C _=>⟨_,rfl,λ D _=>⟨?_,trivial⟩⟩;unfold Ed0;rw[if_pos f]
 ·have j:dn q≠0:=λ e=>i (by rw[e];rfl)
  have f:q.den≠1:=λ e=>j (Aq0.2 e);have l:=h.2;rw[Cl4 j] at l;refine Ba3 (h.1.ext d) (by omega) λ F n _=>⟨_,rfl,?_,Av4 ((l.ext d).ext n) (by omega) λ G H _=>⟨_,rfl,?_,λ I _=>⟨?_,trivial⟩⟩⟩
  ·show _+((1:Nat):Int)<=_
   omega
  ·rw[ByteArray.size_append]
   show(((Dq2 q.num).size+1:Nat):Int)+_<=_;omega
  ·unfold Ed0
   rw[if_neg f]
theorem Dc4 {t:Sl}(h:Ab3 257 W s b t q)(d:Sz k q)(hk:k<=100000000)(e: ∀(W':PW),Ext W W'->(True)->K (.string (Ed0 q)) W'):
  Aa1 Tryz.prog W0 M 146 [.agg #[s.v,.bool b,t.v]] W K:=
 Mi4 (λ _ c=>Dw2 (h.ext c) d hk) fun | _,W',c,⟨rfl,h⟩=>e W' c h
end Go.Proofs.YtkgeopnakkcdoaaGreatDoor
namespace Go.Proofs.YtkgeopnakkcdoaaGreatDoor
open Go Go.SX
variable {K:Value->PW->Prop}{M:Nat->Prop}{W W0:PW}{b:Bool}{k x:Nat}{q:Rat}{s t:Sl}{z:Int}
def ntI (x:Nat) (W0:PW) (l:List PL) (W:PW):Prop:=
 match l with
 | [.row e,.val (.slice A n c)]=>W0.w.heap.size<=W.w.heap.size/\∃(d:List Nat) (y:Nat),e=An4 d/\dec x=d ++ dec y/\nl y<=nl x/\Go.SX.Own W 257 1 ⟨A,n,c⟩ (cel (dg y))/\Aq4 W0 ⟨A,n,c⟩
 | _=>False
noncomputable def ntM (l:List PL) (W:PW):Nat:=
 match l with
 | [_,.val (.slice A n c)]=>slN W 257 ⟨A,n,c⟩
 | _=>0
def ntJ (y:Nat) (s:Sl) (W0:PW) (l:List PL) (W:PW):Prop:=
 match l with
 | [.val (.int .u64 r),.val (.int .i64 i)]=>W0.w.heap.size<=W.w.heap.size/\∃(c k:Nat) (ws:List Nat),r=(c:Int)/\i=(k:Int)-1/\k<=nl y/\c<10/\ws.length=nl y/\Dig ws/\Go.SX.Own W 257 1 s (cel ws)/\
   10*val (ws.drop k)+c=val ((dg y).drop k)/\ws.take k=(dg y).take k
 | _=>False
def dnM (l:List PL) (W:PW):Nat:=
 match l with
 | [_,.val (.int .i64 i)]=>(i+1).toNat
 | _=>0
theorem Fq8 {r:Nat}{d:Nat}{V:Nat}{U:Nat}(h:10*V+r=U)(c:r<10)(f:d<B):(r*B+d)/10<B/\10*((r*B+d)/10+B*V)+(r*B+d)%10=d+B*U:=by
 have e:=Nat.mod_add_div (r*B+d) 10;have i:B*U=10*(B*V)+r*B:=by rw[<-h,Nat.mul_add];grind
 generalize B*V=x at *;generalize B*U=y at *;unfold B at *;omega
theorem Dl5 (h:Aa6 257 W0 s x)(hx:nl x<=100000000):
  Aa0 Tryz.prog 209 [s.v] W0 M λ v W'=>v = .string (En3 x)/\True:=by
 apply Bn1;have hn:=h.n;have lx:(cel (dg x)).length=nl x:=Aa5 _;refine⟨λ h0 W1 aR=>⟨?_,trivial⟩,λ h0=>⟨cel (dg x),⟨_,h⟩,by omega,λ s3 W4 ak al am=>⟨ntI x W0,ntM,⟨ak.size,[],x,rfl,rfl,Nat.le_refl _,al,λ g o=>(am g o).1⟩,?_⟩⟩⟩
 ·have:x=0:=Ad0.1 (by omega)
  subst this;rfl
 have an:x≠0:=λ e=>by rw[e,Ag9] at hn;omega
 have ao:(dec x).length<=32*nl x:=by
  refine Dn5 _ ?_;have h1:=Bb4 x;rw[Bp0] at h1;exact Nat.lt_of_lt_of_le h1 (Nat.pow_le_pow_left (by decide) _)
 rintro l7 f H ⟨ap,c,y,rfl,I,aq,w,hF⟩;have w:Go.SX.Own H 257 1 f (cel (dg y)):=w;have hF:Aq4 W0 f:=hF;have aU:c.length<=32*nl x:=by rw[I,List.length_append] at ao;omega
 have ar:f.n=nl y:=by have:=w.n;rw[Aa5] at this;exact this
 refine⟨λ aV=>⟨by unfold I64;omega,ntJ y f W0,dnM,⟨ap,0,nl y,dg y,rfl,by omega,Nat.le_refl _,by decide,rfl,Ad8 y,w,?_,rfl⟩,?_⟩,λ hz D aX aY V au=>?_⟩
 ·rw[List.drop_eq_nil_of_le (by exact Nat.le_refl _)]
  rfl
 ·have R:y≠0:=λ e=>by rw[e,Ag9] at ar;omega
  rintro i12 i13 aZ ⟨X,r,k,ws,rfl,rfl,hk,hr,aw,S,C,Y,Z⟩;refine⟨λ ax=>?_,λ ay=>?_⟩
  ·have F:k-1<ws.length:=by omega
   have aa:k-1<(dg y).length:=by show k-1<nl y;omega
   have A:(k:Int)-1=((k-1:Nat):Int):=by omega
   have ab:ws[k-1]=(dg y)[k-1]:=by
    have:(ws.take k)[k-1]?=((dg y).take k)[k-1]?:=by rw[Z]
    rw[List.getElem?_take,List.getElem?_take,if_pos (by omega),if_pos (by omega),List.getElem?_eq_getElem F,List.getElem?_eq_getElem aa] at this;exact Option.some.inj this
   have J:=S.at F;obtain⟨d,hd⟩: ∃d,ws[k-1]=d:=⟨_,rfl⟩;rw[hd] at J ab;have ad:inB f ((k-1:Nat):Int):=Own.Fi5 C (by omega) (by rw[Aa5];omega);have a0:r*B<18446744073709551616:=by unfold B;omega
   have w0:Bc5 .u64 (r:Int) 32=((r*B:Nat):Int):=Eh5 (by unfold B;omega);have G:IntKind.wrap .u64 (d:Int)=(d:Int):=Ab1 (by unfold B at J;omega);have w2:bits .or .u64 ((r*B:Nat):Int) (d:Int)=((r*B+d:Nat):Int):=Dq8 J (by unfold B;omega);have w3:Int.tdiv ((r*B+d:Nat):Int) 10=(((r*B+d)/10:Nat):Int):=by rw[Int.tdiv_eq_ediv_of_nonneg (by omega)];rfl
   have w4:Int.tmod ((r*B+d:Nat):Int) 10=(((r*B+d)%10:Nat):Int):=by rw[Int.tmod_eq_emod_of_nonneg (by omega)];rfl
   have ae:=Ah9 aa;rw[<-ab,show k-1+1=k by omega] at ae;have N:=Fq8 Y hr J;have w5:IntKind.wrap .u32 (IntKind.wrap .u64 (((r*B+d)/10:Nat):Int))=(((r*B+d)/10:Nat):Int):=by
    rw[Ab1 (by have:=N.1;unfold B at this⊢;omega),Ab9,Nat.mod_eq_of_lt N.1]
   rw[A];refine⟨ad,(d:Int),by rw[<-hd];exact Own.at1 C (Au0 F),by decide,ad,?_⟩;rw[w0,G,w2,w3,w4,w5];refine Ao7 (j:=k-1) C (by rw[Aa5];exact F) rfl (λ u hu=>by rw[List.mem_singleton.1 hu];rfl) (λ g o=>.inr (hF g o)) λ a1 g o hw aE=>⟨by decide,by unfold I64;omega,⟨Nat.le_trans X hw.Fi9.size,(r*B+d)%10,k-1,ws.set (k-1) ((r*B+d)/10),rfl,by omega,by omega,by omega,by simpa using aw,S.set N.1,by rw[<-Ae9];exact aE,?_,?_⟩,?_⟩
   ·have h1:=Ah9 (l:=ws.set (k-1) ((r*B+d)/10)) (k:=k-1) (by simpa using F)
    rw[List.getElem_set_self,show k-1+1=k by omega,Ah5 (n:=k) (k:=k-1) (by omega)] at h1;rw[h1,ae];exact N.2
   ·rw[At3 (Nat.le_refl _)]
    have:=congrArg (List.take (k-1)) Z
    rwa [List.take_take,List.take_take,Nat.min_eq_left (by omega)] at this
   ·show Int.toNat (((k-1:Nat):Int)-1+1)<Int.toNat (((k-1:Nat):Int)+1)
    omega
  ·have aF:k=0:=by omega
   subst aF;rw[List.drop_zero,List.drop_zero,Ac5] at Y;have A:val ws=y/10:=by omega
   have O:r=y%10:=by omega
   have G:IntKind.wrap .u8 (IntKind.wrap .u64 (48+(r:Int)))=48+(r:Int):=by
    rw[show(48:Int)+(r:Int)=((48+r:Nat):Int) by push_cast;rfl,Ab1 (by omega),Du1 (by omega) (by omega)]
   rw[G];refine⟨by rw[Ah2];simp only[List.length_cons,List.length_nil];omega,Cm7 C.row S (by omega) λ k T U ⟨hk,he⟩=>⟨⟨f.A,k,f.c⟩,rfl,⟨Nat.le_trans X U.size,c ++ [r],y/10,?_,?_,Nat.le_trans (Ad1 (Nat.div_le_self ..)) aq,?_,λ g o=>hF g (Cj9 o)⟩,?_⟩⟩
   ·rw[Bp9];rfl
   ·rw[I,Dj5 R,O,List.append_assoc];rfl
   ·rw[<-A,he,<-Bo2]
    exact(C.ext U).take (by rw[Aa5];exact hk)
   ·have i1:Aa6 257 T ⟨f.A,k,f.c⟩ (y/10):=by
     show Ad4 257 T _ (dg (y/10));rw[<-A,he];exact Row.ext (Ad4.take C.row hk) U
    have i2:Aa6 257 H f y:=w.row;show slN T _ _<slN H _ f;rw[Bl5 i1,Bl5 i2];exact Nat.div_lt_self (by omega) (by decide)
 ·have R:y=0:=Ad0.1 (by omega)
  subst R;rw[Ay1,List.append_nil] at I;have P:(An4 c).length=c.length:=Ah2 c;have aG:D.n=c.length:=by rw[V.n,P]
  have one: ∀(z:Int) (u:Value),u∈[Value.int .u8 z]->u.oneCell'=true:=by
   intro z u hu;rw[List.mem_singleton.1 hu];rfl
  have G:IntKind.wrap .i64 (Int.tdiv (c.length:Int) 2)=((c.length/2:Nat):Int):=by
   rw[Int.tdiv_eq_ediv_of_nonneg (by omega),show(c.length:Int)/2=((c.length/2:Nat):Int) by rfl];simp[IntKind.wrap,IntKind.bits,IntKind.signed];omega
  rw[aG,G]
  refine⟨λ l W=>match l with
   | [.val (.int .i64 i)]=>∃(k:Nat) (ys:List (List Value)),i=(k:Int)/\Go.SX.Own W 5 1 D ys/\ys.length=c.length/\k<=c.length/2/\
     ∀a,a<(An4 c).length->ys[a]?=if a<k\/(An4 c).length<=a+k then(An4 c)[(An4 c).length-1-a]? else(An4 c)[a]?
   | _=>False,λ l _=>match l with | [.val (.int .i64 i)]=>c.length-i.toNat | _=>0,⟨0,An4 c,rfl,V,P,Nat.zero_le _,λ a ha=>by rw[if_neg (by omega)]⟩,?_⟩
  rintro i24 a3 ⟨k,ys,rfl,hO,aH,hk,Q⟩;refine⟨by decide,λ ay=>?_,λ ax=>⟨(dec x).reverse.map λ(d:Nat)=>48+(d:Int),?_,λ a4 _=>⟨?_,trivial⟩⟩⟩
  ·have a5:k<c.length-1-k:=by omega
   have ej:(c.length:Int)-1-(k:Int)=((c.length-1-k:Nat):Int):=by omega
   have aJ:c.length-1-k<c.length:=by omega
   have aK:k<c.length:=by omega
   have A:(An4 c)[c.length-1-k]?=some [.int .u8 (48+c[c.length-1-k]:Int)]:=by simp[An4,aJ]
   have O:(An4 c)[k]?=some [.int .u8 (48+c[k]:Int)]:=by simp[An4,aK]
   have y1:ys[c.length-1-k]?=some [.int .u8 (48+c[c.length-1-k]:Int)]:=by rw[Q _ (by omega),if_neg (by omega),A]
   have y2:ys[k]?=some [.int .u8 (48+c[k]:Int)]:=by rw[Q _ (by omega),if_neg (by omega),O]
   rw[ej];have af:inB D ((c.length-1-k:Nat):Int):=Own.Fi5 hO (by omega) (by omega);have ag:inB D ((k:Nat):Int):=Own.Fi5 hO (by omega) (by omega);have ah: ∀g,D.v.ownBlock=some g->may W0 M g:=λ g o=>.inr (au g o).1;refine⟨by unfold I64;omega,by unfold I64;omega,by unfold I64;omega,by unfold I64;omega,af,_,Own.at1 hO y1,ag,_,Own.at1 hO y2,ag,?_⟩;refine Ao7 (j:=k) hO (by omega) rfl (one _) ah λ W8 g o hw aN=>⟨af,?_⟩;refine Ao7 (j:=c.length-1-k) aN (by rw[List.length_set];omega) rfl (one _) ah λ H g' a8 a9 w=>⟨by unfold I64;omega,⟨k+1,_,by push_cast;rfl,w,by simp[aH],by omega,?_⟩,?_⟩
   ·have:=Dr2 (xs:=An4 c) (ys:=ys) (by omega) (by omega) (by rw[P];exact A) O Q
    rw[P] at this⊢;exact this
   ·show c.length-Int.toNat ((k:Int)+1)<c.length-Int.toNat (k:Int)
    omega
  ·have:=Do5 (xs:=An4 c) (ys:=ys) (k:=k) (by omega) (by omega) Q
   have e:((dec x).reverse.map λ(d:Nat)=>48+(d:Int)).map (λ i=>[Value.int .u8 i])=(An4 c).reverse:=by rw[I];simp[An4]
   rw[e,<-this];exact hO.row
  ·unfold En3
   rw[if_neg an]
theorem At9 (h:Aa6 257 W s x)(d:nl x<=100000000)(e: ∀(W':PW),Ext W W'->(True)->K (.string (En3 x)) W'):
  Aa1 Tryz.prog W0 M 209 [s.v] W K:=
 Mi4 (λ _ c=>Dl5 (h.ext c) d) fun | _,W',c,⟨rfl,h⟩=>e W' c h
theorem De9 (h:Ab5 257 W0 s b z)(c:nl z.natAbs<=100000000):
  Aa0 Tryz.prog 208 [.agg #[.bool b,s.v]] W0 M λ v W'=>v = .string (Dq2 z)/\True:=by
 apply Bn4;have i:=Av8 z.natAbs;have d:=h.2;refine⟨λ e=>At9 h.1 c λ j l _=>⟨_,rfl,?_,λ n _=>⟨?_,trivial⟩⟩,λ f=>At9 h.1 c λ o r _=>⟨_,rfl,λ u _=>⟨?_,trivial⟩⟩⟩
 ·show((1:Nat):Int)+_<=_
  omega
 ·have:z<0:=by rw[d] at e;exact of_decide_eq_true e
  unfold Dq2;rw[if_pos this]
 ·have:¬z<0:=by rw[d] at f;exact of_decide_eq_false f
  unfold Dq2;rw[if_neg this]
theorem Bf1 (h:Ab5 257 W s b z)(d:nl z.natAbs<=100000000)(e: ∀(W':PW),Ext W W'->(True)->K (.string (Dq2 z)) W'):
  Aa1 Tryz.prog W0 M 208 [.agg #[.bool b,s.v]] W K:=
 Mi4 (λ _ c=>De9 (h.ext c) d) fun | _,W',c,⟨rfl,h⟩=>e W' c h
theorem Di8 (h:Ab6 257 W0 b s t q)(i:Sz k q)(hk:k<=100000000):
  Aa0 Tryz.prog 147 [.agg #[.bool b,s.v,t.v]] W0 M λ v W'=>v = .string (Ed0 q)/\True:=by
 apply Bm4;have h1:=i.1;have B:=i.2;have C:=Cr1 q.num;have D:=Av8 q.den;refine Ag4 h λ s3 F j o=>⟨s3,rfl,Ae0 (x:=1) (by decide) λ r G d u=>⟨r,rfl,Aj3 (o.ext d) u (by omega) λ H l _=>⟨_,rfl,λ f=>?_,λ f=>?_⟩⟩⟩
 ·have c:q.den=1:=(Av7 _ 1).1 f
  refine Bf1 (h.1.ext ((j.trans d).trans l)) (by omega) λ I J _=>⟨_,rfl,λ N _=>⟨?_,trivial⟩⟩;unfold Ed0;rw[if_pos c]
 ·have c:q.den≠1:=λ e=>f ((Av7 _ 1).2 e)
  have w:Aa6 257 W0 t q.den:=by
   rcases h.2 with h | h
   ·exact h
   ·exact absurd h.1 c
  have n:=(j.trans d).trans l;refine Bf1 (h.1.ext n) (by omega) λ O A _=>⟨_,rfl,?_,At9 (w.ext (n.trans A)) (by omega) λ P Q _=>⟨_,rfl,?_,λ R _=>⟨?_,trivial⟩⟩⟩
  ·show _+((1:Nat):Int)<=_
   omega
  ·rw[ByteArray.size_append]
   show(((Dq2 q.num).size+1:Nat):Int)+_<=_;omega
  ·unfold Ed0
   rw[if_neg c]
theorem Cl5 (h:Ab6 257 W b s t q)(d:Sz k q)(hk:k<=100000000)(e: ∀(W':PW),Ext W W'->(True)->K (.string (Ed0 q)) W'):
  Aa1 Tryz.prog W0 M 147 [.agg #[.bool b,s.v,t.v]] W K:=
 Mi4 (λ _ c=>Di8 (h.ext c) d hk) fun | _,W',c,⟨rfl,h⟩=>e W' c h
end Go.Proofs.YtkgeopnakkcdoaaGreatDoor
namespace Go.Proofs.YtkgeopnakkcdoaaGreatDoor
open Go Go.SX
variable {K:Value->PW->Prop}{M:Nat->Prop}{W W0:PW}{a b m:Mon}{k:Nat}{s:Sl}{x y:Int}
theorem De3:
  Aa0 Tryz.prog 262 [.int .i64 x] W0 M λ v W'=>v = .bool false/\True:=by
 apply Bi1;exact λ c _=>⟨by simp,trivial⟩
theorem Bf6 (d: ∀(W':PW),Ext W W'->(True)->K (.bool false) W'):
  Aa1 Tryz.prog W0 M 262 [.int .i64 x] W K:=
 Mi4 (λ _ c=>De3 ) fun | _,W',c,⟨rfl,h⟩=>d W' c h
theorem Du6:
  Aa0 Tryz.prog 277 [.int .u8 x] W0 M λ v W'=>v = .bool false/\True:=by
 apply Bb5;exact λ c _=>⟨by simp,trivial⟩
theorem Bk7 (d: ∀(W':PW),Ext W W'->(True)->K (.bool false) W'):
  Aa1 Tryz.prog W0 M 277 [.int .u8 x] W K:=
 Mi4 (λ _ c=>Du6 ) fun | _,W',c,⟨rfl,h⟩=>d W' c h
theorem Ed4:
  Aa0 Tryz.prog 239 [.int .i64 x,.int .i64 y] W0 M λ v W'=>v = .int .i64 (As4 x y)/\True:=by
 apply Ba9;refine Bf6 λ d _ _=>⟨false,rfl,Bf6 λ e _ _=>⟨false,rfl,λ h=>(by cases h),λ _=>⟨λ h=>(by cases h),λ _=>⟨λ h W _=>⟨?_,trivial⟩,λ h=>⟨λ c W _=>⟨?_,trivial⟩,λ c W _=>⟨?_,trivial⟩⟩⟩⟩⟩⟩
 ·unfold As4;rw[if_pos h]
 ·unfold As4;rw[if_neg h,if_neg (by omega)]
 ·unfold As4;rw[if_neg h,if_pos (by omega)]
theorem Dj2 (d: ∀(W':PW),Ext W W'->(True)->K (.int .i64 (As4 x y)) W'):
  Aa1 Tryz.prog W0 M 239 [.int .i64 x,.int .i64 y] W K:=
 Mi4 (λ _ c=>Ed4 ) fun | _,W',c,⟨rfl,h⟩=>d W' c h
theorem Eu5:
  Aa0 Tryz.prog 263 [.int .u8 x,.int .u8 y] W0 M λ v W'=>v = .int .i64 (As4 x y)/\True:=by
 apply Aw3;refine Bk7 λ d _ _=>⟨false,rfl,Bk7 λ e _ _=>⟨false,rfl,λ h=>(by cases h),λ _=>⟨λ h=>(by cases h),λ _=>⟨λ h W _=>⟨?_,trivial⟩,λ h=>⟨λ c W _=>⟨?_,trivial⟩,λ c W _=>⟨?_,trivial⟩⟩⟩⟩⟩⟩
 ·unfold As4;rw[if_pos h]
 ·unfold As4;rw[if_neg h,if_neg (by omega)]
 ·unfold As4;rw[if_neg h,if_pos (by omega)]
theorem Dy4 (d: ∀(W':PW),Ext W W'->(True)->K (.int .i64 (As4 x y)) W'):
  Aa1 Tryz.prog W0 M 263 [.int .u8 x,.int .u8 y] W K:=
 Mi4 (λ _ c=>Eu5 ) fun | _,W',c,⟨rfl,h⟩=>d W' c h
theorem Ew1 (h:Bf9 W0 1 s [[.int .i64 x],[.int .i64 y]]):
  Aa0 Tryz.prog 238 [s.v] W0 M λ v W'=>v = .int .i64 (if x≠0 then x else y)/\True:=by
 apply Cd0;have o:s.n=2:=let⟨_,h⟩:=h;h.1
 refine⟨λ l W=>match l with | [.val (.int .i64 i)]=>Ext W0 W/\∃k:Nat,i=(k:Int)/\k<=2/\(0<k->x=0)/\(1<k->y=0) | _=>False,λ l _=>match l with | [.val (.int .i64 i)]=>2-i.toNat | _=>0,⟨Ext.refl _,0,rfl,by omega,by omega,by omega⟩,?_⟩;rintro i3 f ⟨d,k,rfl,hk,c,j⟩;refine⟨λ r=>?_,λ u w _=>⟨?_,trivial⟩⟩
 ·have A:k<2:=by omega
  obtain⟨t,h⟩:=h.ext d;have n:Aa7 f s 1 k 0 [.int .i64 (if k=0 then x else y)]:=by
   rcases(by omega:k=0\/k=1) with rfl | rfl
   ·exact h.part (x:=[.int .i64 x]) rfl 0 rfl
   ·exact h.part (x:=[.int .i64 y]) rfl 0 rfl
  refine⟨h.inB (by omega) (by simp;omega),_,n,λ e B _=>⟨?_,trivial⟩,λ heq=>⟨by unfold I64;omega,⟨d,k+1,by push_cast;rfl,by omega,λ _=>?_,λ h1=>?_⟩,?_⟩⟩
  ·rcases(by omega:k=0\/k=1) with rfl | rfl
   ·rw[if_pos rfl] at e
    rw[if_pos rfl,if_pos e]
   ·rw[if_neg (by omega),if_neg (λ h=>h (c (by omega)))]
  ·rcases(by omega:k=0\/k=1) with rfl | rfl
   ·rw[if_pos rfl] at heq
    omega
   ·exact c (by omega)
  ·have:k=1:=by omega
   subst this;rw[if_neg (by omega)] at heq;omega
  ·show 2-Int.toNat ((k:Int)+1)<2-Int.toNat (k:Int)
   omega
 ·rw[if_neg (λ h=>h (c (by omega))),j (by omega)]
theorem Dw1 (h:Bf9 W 1 s [[.int .i64 x],[.int .i64 y]])(d: ∀(W':PW),Ext W W'->(True)->K (.int .i64 (if x≠0 then x else y)) W'):
  Aa1 Tryz.prog W0 M 238 [s.v] W K:=
 Mi4 (λ _ c=>Ew1 (h.ext c)) fun | _,W',c,⟨rfl,h⟩=>d W' c h
def An6 (m:Mon) (k:Nat):Int:=if k=0 then m.x else if k=1 then m.y else m.z
theorem Aw0 (m:Mon)(hk:k<3)(a b c:Int)(d:a=m.x)(e:b=m.y)(f:c=m.z):As9 [.int .u8 a,.int .u8 b,.int .u8 c] (0+Int.toNat (k:Int)*1+0) [.int .u8 (An6 m k)]:=by
 subst d;subst e;subst f;rcases(by omega:k=0\/k=1\/k=2) with rfl | rfl | rfl<;>exact⟨by simp,rfl⟩
theorem Cn5 (m:Mon)(hk:k<3):List.take 1 (List.drop (Int.toNat (k:Int)*1) [Value.int .u8 m.x,.int .u8 m.y,.int .u8 m.z]) = [.int .u8 (An6 m k)]:=by
 rcases(by omega:k=0\/k=1\/k=2) with rfl | rfl | rfl<;>rfl
theorem Dg9 (h:m.ok)(k:Nat):0<=An6 m k/\An6 m k<=255:=by
 unfold Mon.ok at h;unfold An6;split
 ·omega
 ·split<;>omega
theorem Ck8 (hm:m.ok):
  Aa0 Tryz.prog 240 [.agg ⟨[.int .u8 m.x,.int .u8 m.y,.int .u8 m.z]⟩] W0 M λ v W'=>v = .int .i64 m.deg/\True:=by
 apply Bp2;refine⟨λ l W=>match l with | [.val (.int .i64 a),.val (.int .i64 i)]=>Ext W0 W/\∃k:Nat,i=(k:Int)/\k<=3/\a=(if 0<k then m.x else 0)+(if 1<k then m.y else 0)+(if 2<k then m.z else 0) | _=>False,λ l _=>match l with | [_,.val (.int .i64 i)]=>3-i.toNat | _=>0,⟨Ext.refl _,0,rfl,by omega,by simp⟩,?_⟩;rintro i3 i4 f ⟨c,k,rfl,hk,rfl⟩;have d:=hm;unfold Mon.ok at d;refine⟨λ h=>?_,λ j n _=>⟨?_,trivial⟩⟩
 ·have e:k<3:=by omega
  have o:=Dg9 hm k;have r:0<=(if 0<k then m.x else 0)+(if 1<k then m.y else 0)+(if 2<k then m.z else 0)/\(if 0<k then m.x else 0)+(if 1<k then m.y else 0)+(if 2<k then m.z else 0)<=765:=by
   repeat' split
   all_goals omega
  refine⟨⟨by omega,by omega⟩,_,Cn5 m e,by unfold I64;omega,by unfold I64;omega,by unfold I64;omega,⟨c,k+1,by push_cast;rfl,by omega,?_⟩,?_⟩
  ·rcases(by omega:k=0\/k=1\/k=2) with rfl | rfl | rfl<;>simp[An6]
  ·show 3-Int.toNat ((k:Int)+1)<3-Int.toNat (k:Int)
   omega
 ·have:k=3:=by omega
  subst this;simp[Mon.deg]
theorem Ax1 (hm:m.ok)(d: ∀(W':PW),Ext W W'->(True)->K (.int .i64 m.deg) W'):
  Aa1 Tryz.prog W0 M 240 [.agg ⟨[.int .u8 m.x,.int .u8 m.y,.int .u8 m.z]⟩] W K:=
 Mi4 (λ _ c=>Ck8 hm) fun | _,W',c,⟨rfl,h⟩=>d W' c h
def Ey8 (a b:Mon):Int:=if a.x≠b.x then As4 a.x b.x else if a.y≠b.y then As4 a.y b.y else As4 a.z b.z
theorem Dh1 (hk:k<3)(h: ∀j,j<k->An6 a j=An6 b j)(d:An6 a k≠An6 b k):Ey8 a b=As4 (An6 a k) (An6 b k):=by
 unfold Ey8;rcases(by omega:k=0\/k=1\/k=2) with rfl | rfl | rfl
 ·rw[if_pos (by simpa[An6] using d)];rfl
 ·have c:=h 0 (by omega)
  rw[if_neg (λ e=>e (by simpa[An6] using c)),if_pos (by simpa[An6] using d)];rfl
 ·have c:=h 0 (by omega)
  have h1:=h 1 (by omega);rw[if_neg (λ e=>e (by simpa[An6] using c)),if_neg (λ e=>e (by simpa[An6] using h1))];rfl
theorem Eq5 (h: ∀j,j<3->An6 a j=An6 b j):Ey8 a b=0:=by
 have c:a.x=b.x:=by simpa[An6] using h 0 (by omega)
 have h1:a.y=b.y:=by simpa[An6] using h 1 (by omega)
 have d:a.z=b.z:=by simpa[An6] using h 2 (by omega)
 unfold Ey8 As4;rw[if_neg (λ e=>e c),if_neg (λ e=>e h1),if_neg (by omega),if_pos d]
theorem Ch0 (a b:Mon):a.cmp b=(if As4 a.deg b.deg≠0 then As4 a.deg b.deg else Ey8 a b):=by
 unfold Mon.cmp Mon.lt Ey8 As4
 by_cases h1:a.deg<b.deg
 ·simp[h1]
 ·by_cases c:a.deg=b.deg
  ·by_cases d:a.x=b.x
   ·by_cases f:a.y=b.y
    ·by_cases h:a.z=b.z
     ·have:a=b:=Mon.Fp2 d f h
      subst this;simp
     ·have:a≠b:=λ e=>h (by rw[e])
      simp[c,d,f,h,this]
    ·have:a≠b:=λ e=>f (by rw[e])
     simp[c,d,f,this]
   ·have:a≠b:=λ e=>d (by rw[e])
    simp[c,d,this]
  ·have:a≠b:=λ e=>c (by rw[e])
   simp[h1,c,this]
theorem Ef2 {t:TypeId}(h:Row W t 1 s [[.int .u8 m.x],[.int .u8 m.y],[.int .u8 m.z]])(hk:k<3):Aa7 W s 1 k 0 [.int .u8 (An6 m k)]:=by
 rcases(by omega:k=0\/k=1\/k=2) with rfl | rfl | rfl
 ·exact h.part (x:=[.int .u8 m.x]) rfl 0 rfl
 ·exact h.part (x:=[.int .u8 m.y]) rfl 0 rfl
 ·exact h.part (x:=[.int .u8 m.z]) rfl 0 rfl
theorem Ex1 {t:Sl}(h1:Bf9 W0 1 s [[.int .u8 a.x],[.int .u8 a.y],[.int .u8 a.z]])(c:Bf9 W0 1 t [[.int .u8 b.x],[.int .u8 b.y],[.int .u8 b.z]]):
  Aa0 Tryz.prog 241 [s.v,t.v] W0 M λ v W'=>v = .int .i64 (Ey8 a b)/\True:=by
 apply Am4;have w:s.n=3:=let⟨_,h⟩:=h1;h.1
 have A:t.n=3:=let⟨_,h⟩:=c;h.1
 refine⟨λ l W=>match l with | [.val (.int .i64 i)]=>Ext W0 W/\∃k:Nat,i=(k:Int)/\k<=3/\∀j,j<k->An6 a j=An6 b j | _=>False,λ l _=>match l with | [.val (.int .i64 i)]=>3-i.toNat | _=>0,⟨Ext.refl _,0,rfl,by omega,λ j d=>by omega⟩,?_⟩;rintro i3 B ⟨f,k,rfl,hk,d⟩;refine⟨λ C=>?_,λ D=>⟨λ h=>by omega,λ _ F _=>⟨?_,trivial⟩⟩⟩
 ·have n:k<3:=by omega
  obtain⟨_,r1⟩:=h1.ext f;obtain⟨_,o⟩:=c.ext f;refine⟨r1.inB (by omega) (by simp;omega),_,Ef2 (k:=k) r1 n,λ h=>by omega,λ _=>⟨o.inB (by omega) (by simp;omega),_,Ef2 (k:=k) o n,Dy4 λ G r _=>⟨_,rfl,λ u H _=>⟨?_,trivial⟩,λ heq=>⟨by unfold I64;omega,⟨f.trans r,k+1,by push_cast;rfl,by omega,λ j h=>?_⟩,?_⟩⟩⟩⟩
  ·have:An6 a k≠An6 b k:=λ e=>u (by rw[e];unfold As4;simp)
   rw[Dh1 n d this]
  ·by_cases e:j=k
   ·subst e
    unfold As4 at heq
    by_cases h1:An6 a j<An6 b j
    ·simp[h1] at heq
    ·by_cases c:An6 a j=An6 b j
     ·exact c
     ·simp[h1,c] at heq
   ·exact d j (by omega)
  ·show 3-Int.toNat ((k:Int)+1)<3-Int.toNat (k:Int)
   omega
 ·have:k=3:=by omega
  subst this;rw[Eq5 d]
theorem Eb5 {t:Sl}(h1:Bf9 W 1 s [[.int .u8 a.x],[.int .u8 a.y],[.int .u8 a.z]])(d:Bf9 W 1 t [[.int .u8 b.x],[.int .u8 b.y],[.int .u8 b.z]])(e: ∀(W':PW),Ext W W'->(True)->K (.int .i64 (Ey8 a b)) W'):
  Aa1 Tryz.prog W0 M 241 [s.v,t.v] W K:=
 Mi4 (λ _ c=>Ex1 (h1.ext c) (d.ext c)) fun | _,W',c,⟨rfl,h⟩=>e W' c h
theorem Dy0 (c:a.ok)(d:b.ok):
  Aa0 Tryz.prog 193 [.agg ⟨[.int .u8 a.x,.int .u8 a.y,.int .u8 a.z]⟩,.agg ⟨[.int .u8 b.x,.int .u8 b.y,.int .u8 b.z]⟩] W0 M λ v W'=>v = .int .i64 (a.cmp b)/\True:=by
 apply Cp6;refine Ax1 c λ i _ _=>⟨_,rfl,Ax1 d λ j _ _=>⟨_,rfl,Dj2 λ l _ _=>⟨_,rfl,λ n o r e _ u w f h _=>Eb5 (e.ext f) h λ A _ _=>⟨_,rfl,λ B C _ hO _=>Dw1 ⟨_,hO.row⟩ λ D _ _=>⟨_,rfl,λ F _=>⟨?_,trivial⟩⟩⟩⟩⟩⟩;rw[Ch0]
theorem Bk9 (d:a.ok)(e:b.ok)(f: ∀(W':PW),Ext W W'->(True)->K (.int .i64 (a.cmp b)) W'):
  Aa1 Tryz.prog W0 M 193 [.agg ⟨[.int .u8 a.x,.int .u8 a.y,.int .u8 a.z]⟩,.agg ⟨[.int .u8 b.x,.int .u8 b.y,.int .u8 b.z]⟩] W K:=
 Mi4 (λ _ c=>Dy0 d e) fun | _,W',c,⟨rfl,h⟩=>f W' c h
theorem Du1 {z:Int}(c:0<=z)(h:z<=255):IntKind.wrap .u8 z=z:=by simp[IntKind.wrap,IntKind.bits,IntKind.signed];omega
instance (m:Mon):Decidable m.ok:=by unfold Mon.ok;infer_instance
theorem Dz4 {s1:Sl}{s2:Sl}{s3:Sl}{s4:Sl}{b1:Bool}{b2:Bool}(c:a.ok)(d:b.ok):
  Aa0 Tryz.prog 231 [.agg ⟨[.int .u8 a.x,.int .u8 a.y,.int .u8 a.z,s1.v,.bool b1,s2.v]⟩,.agg ⟨[.int .u8 b.x,.int .u8 b.y,.int .u8 b.z,s3.v,.bool b2,s4.v]⟩] W0 M λ v W'=>v = .int .i64 (a.cmp b)/\True:=by
 apply Az1;exact Bk9 c d λ e _ _=>⟨_,rfl,λ f _=>⟨rfl,trivial⟩⟩
end Go.Proofs.YtkgeopnakkcdoaaGreatDoor
namespace Go.Proofs.YtkgeopnakkcdoaaGreatDoor
open Go Go.Shelf Go.Proofs
def Dt7:Go.Shelf.Ren:=⟨fun | 6=>230 | 15=>261 | 14=>260 | 28=>173 | 29=>276 | 20=>268 | 21=>269 | 22=>270 | 23=>271 | 24=>272 | 25=>273 | 26=>274 | 27=>275 | 46=>278 | 47=>279 | 48=>280 | 49=>281 | 50=>282 | 57=>283 | n=>n,fun | 22=>65 | 24=>169 | 25=>313 | 3=>3 | 39=>290 | 0=>0 | 53=>257 | 55=>244 | 4=>4 | 46=>343 | 45=>342 | 50=>347 | 5=>5 | 9=>9 | 66=>352 | 70=>355 | 76=>357 | 77=>358 | n=>n,fun | n=>n⟩
theorem Fe0:Go.Proofs.SlLaysF0.n6 Tryz.prog Dt7 where
 mixed:=by kernel_rfl
 f6:=⟨ "slices.SortFunc[[]cincture/poly.Term,cincture/poly.Term]",by decide,Tryz.func230.trans (congrArg some (by kernel_rfl))⟩
 f14:=⟨ "slices.pdqsortCmpFunc[cincture/poly.Term]",by decide,Tryz.func260.trans (congrArg some (by kernel_rfl))⟩
 f15:=Tryz.func261.trans (congrArg some (by kernel_rfl))
 f20:=⟨ "slices.insertionSortCmpFunc[cincture/poly.Term]",by decide,Tryz.func268.trans (congrArg some (by kernel_rfl))⟩
 f21:=⟨ "slices.heapSortCmpFunc[cincture/poly.Term]",by decide,Tryz.func269.trans (congrArg some (by kernel_rfl))⟩
 f22:=⟨ "slices.breakPatternsCmpFunc[cincture/poly.Term]",by decide,Tryz.func270.trans (congrArg some (by kernel_rfl))⟩
 f23:=⟨ "slices.choosePivotCmpFunc[cincture/poly.Term]",by decide,Tryz.func271.trans (congrArg some (by kernel_rfl))⟩
 f24:=⟨ "slices.reverseRangeCmpFunc[cincture/poly.Term]",by decide,Tryz.func272.trans (congrArg some (by kernel_rfl))⟩
 f25:=⟨ "slices.partialInsertionSortCmpFunc[cincture/poly.Term]",by decide,Tryz.func273.trans (congrArg some (by kernel_rfl))⟩
 f26:=⟨ "slices.partitionEqualCmpFunc[cincture/poly.Term]",by decide,Tryz.func274.trans (congrArg some (by kernel_rfl))⟩
 f27:=⟨ "slices.partitionCmpFunc[cincture/poly.Term]",by decide,Tryz.func275.trans (congrArg some (by kernel_rfl))⟩
 f28:=Tryz.func173.trans (congrArg some (by kernel_rfl))
 f29:=Tryz.func276.trans (congrArg some (by kernel_rfl))
 f46:=⟨ "slices.siftDownCmpFunc[cincture/poly.Term]",by decide,Tryz.func278.trans (congrArg some (by kernel_rfl))⟩
 f47:=Tryz.func279.trans (congrArg some (by kernel_rfl))
 f48:=Tryz.func280.trans (congrArg some (by kernel_rfl))
 f49:=⟨ "slices.medianAdjacentCmpFunc[cincture/poly.Term]",by decide,Tryz.func281.trans (congrArg some (by kernel_rfl))⟩
 f50:=⟨ "slices.medianCmpFunc[cincture/poly.Term]",by decide,Tryz.func282.trans (congrArg some (by kernel_rfl))⟩
 f57:=⟨ "slices.order2CmpFunc[cincture/poly.Term]",by decide,Tryz.func283.trans (congrArg some (by kernel_rfl))⟩
 t0:=Tryz.underlying0
 a0:=Tryz.isAgg0
 z0:=Tryz.sizeOf0
 v0:=Tryz.zeroValue0
 t3:=Tryz.underlying3
 a3:=Tryz.isAgg3
 z3:=Tryz.sizeOf3
 v3:=Tryz.zeroValue3
 t4:=Tryz.underlying4
 a4:=Tryz.isAgg4
 z4:=Tryz.sizeOf4
 v4:=Tryz.zeroValue4
 t5:=Tryz.underlying5
 a5:=Tryz.isAgg5
 z5:=Tryz.sizeOf5
 v5:=Tryz.zeroValue5
 t9:=Tryz.underlying9
 a9:=Tryz.isAgg9
 z9:=Tryz.sizeOf9
 v9:=Tryz.zeroValue9
 t22:=Tryz.underlying65
 a22:=Tryz.isAgg65
 z22:=Tryz.sizeOf65
 v22:=Tryz.zeroValue65
 t25:=Tryz.underlying313
 a25:=Tryz.isAgg313
 z25:=Tryz.sizeOf313
 v25:=Tryz.zeroValue313
 t39:=Tryz.underlying290
 a39:=Tryz.isAgg290
 z39:=Tryz.sizeOf290
 v39:=Tryz.zeroValue290
 t45:=Tryz.underlying342
 a45:=Tryz.isAgg342
 z45:=Tryz.sizeOf342
 v45:=Tryz.zeroValue342
 t46:=Tryz.underlying343
 a46:=Tryz.isAgg343
 z46:=Tryz.sizeOf343
 v46:=Tryz.zeroValue343
 t50:=Tryz.underlying347
 a50:=Tryz.isAgg347
 z50:=Tryz.sizeOf347
 v50:=Tryz.zeroValue347
 t53:=Tryz.underlying257
 a53:=Tryz.isAgg257
 z53:=Tryz.sizeOf257
 v53:=Tryz.zeroValue257
 t55:=Tryz.underlying244
 a55:=Tryz.isAgg244
 z55:=Tryz.sizeOf244
 v55:=Tryz.zeroValue244
 t66:=Tryz.underlying352
 a66:=Tryz.isAgg352
 z66:=Tryz.sizeOf352
 v66:=Tryz.zeroValue352
 t70:=Tryz.underlying355
 a70:=Tryz.isAgg355
 z70:=Tryz.sizeOf355
 v70:=Tryz.zeroValue355
 t76:=Tryz.underlying357
 a76:=Tryz.isAgg357
 z76:=Tryz.sizeOf357
 v76:=Tryz.zeroValue357
 t77:=Tryz.underlying358
 a77:=Tryz.isAgg358
 z77:=Tryz.sizeOf358
 v77:=Tryz.zeroValue358
end Go.Proofs.YtkgeopnakkcdoaaGreatDoor
namespace Go.Proofs.YtkgeopnakkcdoaaGreatDoor
open Go Go.SX
variable {W:PW}{p:List Tm}{s:Sl}{xs:List (List Value)}
abbrev TmE:Type:={m:Mon // m.ok}×Sl×Bool×Sl
variable {L:List TmE}
instance:Inhabited TmE:=⟨⟨⟨0,0,0⟩,by decide⟩,⟨none,0,0⟩,false,⟨none,0,0⟩⟩
def Bq7 (x:TmE):List Value:=[.int .u8 x.1.1.x,.int .u8 x.1.1.y,.int .u8 x.1.1.z,x.2.1.v,.bool x.2.2.1,x.2.2.2.v]
def Er5 (x y:TmE):Int:=x.1.1.cmp y.1.1
theorem Bp1 (x:TmE):(Bq7 x).length=6:=rfl
theorem Cu3 (x:TmE): ∀v∈Bq7 x,v.oneCell'=true:=by
 intro v c;simp only[Bq7,List.mem_cons,List.not_mem_nil,or_false] at c;rcases c with rfl | rfl | rfl | rfl | rfl | rfl<;>rfl
theorem Fo8 (x y:TmE):Proofs.ltOf Er5 x y=decide (x.1.1.lt y.1.1):=by
 unfold Proofs.ltOf Er5;simp only[Mon.Dm2]
theorem Fr8:Go.Sort.SWO (Proofs.ltOf Er5) where
 irrefl x:=by rw[Fo8];exact decide_eq_false (Mon.lt_irrefl _)
 trans x y z h1 c:=by
  rw[Fo8] at *;exact decide_eq_true (Mon.lt_trans (of_decide_eq_true h1) (of_decide_eq_true c))
 ntrans x y z h1 c:=by
  rw[Fo8] at *;have h1:=of_decide_eq_false h1;have c:=of_decide_eq_false c;refine decide_eq_false λ h=>?_
  by_cases e:x.1.1=y.1.1
  ·rw[e] at h;exact c h
  ·have:=Mon.Bo9 h1 e
   exact c (Mon.lt_trans this h)
theorem Ej6 (g n:Nat)(w:World):Proofs.CmpLays Tryz.prog 231 #[] Bq7 6 Er5 g 0 n w:=by
 intro m os c _ x y;have h:=(Dz4 (W0:=⟨Proofs.sortWorldK Bq7 6 w g 0 m c os,λ _=>False⟩) (M:=λ _=>False) (a:=x.1.1) (b:=y.1.1) (s1:=x.2.1) (s2:=x.2.2.2) (s3:=y.2.1) (s4:=y.2.2.2) (b1:=x.2.2.1) (b2:=y.2.2.1) x.1.2 y.1.2).2 (λ b d=>d.elim);refine Calls.mono h ?_;rintro e w' ⟨v,rfl,f,rfl,_⟩;exact⟨rfl,Cw5 f⟩
theorem Ev8 (h:An5 (PT 257 W) xs p): ∃L:List TmE,xs=L.map Bq7/\An5 (λ(a:TmE) (t:Tm)=>a.1.1=t.1/\Ab3 257 W a.2.1 a.2.2.1 a.2.2.2 t.2) L p:=by
 induction xs generalizing p with
 | nil=>
  cases p with
  | nil=>exact⟨[],rfl,trivial⟩
  | cons t p=>exact h.elim
 | cons x xs ih=>
  cases p with
  | nil=>exact h.elim
  | cons t p=>
   obtain⟨L,h1,c⟩:=ih h.2;obtain⟨d,s,b,s',e,f⟩:=h.1;exact⟨(⟨t.1,d⟩,s,b,s')::L,by rw[List.map_cons,<-h1,e];rfl,⟨rfl,f⟩,c⟩
theorem Ew4 (h:An5 (λ(a:TmE) (t:Tm)=>a.1.1=t.1/\Ab3 257 W a.2.1 a.2.2.1 a.2.2.2 t.2) L p):An5 (PT 257 W) (L.map Bq7) p:=by
 induction L generalizing p with
 | nil=>
  cases p with
  | nil=>trivial
  | cons t p=>exact h.elim
 | cons x xs ih=>
  cases p with
  | nil=>exact h.elim
  | cons t p=>
   obtain⟨h1,c⟩:=h.1;refine⟨⟨by rw[<-h1];exact x.1.2,_,_,_,?_,c⟩,ih h.2⟩;rw[<-h1];rfl
theorem Ci0 (h:An5 (λ(a:TmE) (t:Tm)=>a.1.1=t.1/\Ab3 257 W a.2.1 a.2.2.1 a.2.2.2 t.2) L p)(c:L.Pairwise λ a b=>¬b.1.1.lt a.1.1):p.Pairwise λ a b=>¬b.1.lt a.1:=by
 have d:p.map (·.1)=L.map (·.1.1):=by
  clear c
  induction L generalizing p with
  | nil=>
   cases p with
   | nil=>rfl
   | cons t p=>exact h.elim
  | cons x xs ih=>
   cases p with
   | nil=>exact h.elim
   | cons t p=>rw[List.map_cons,List.map_cons,ih h.2,h.1.1]
 have h1:(L.map (·.1.1)).Pairwise λ a b:Mon=>¬b.lt a:=List.pairwise_map.2 c;rw[<-d] at h1;exact List.pairwise_map.1 h1
theorem Do0 {q:List Tm}(c:q.Perm p)(d:(p.map (·.1)).Nodup)(f: ∀t∈p,t.2≠0)(h:q.Pairwise λ a b=>¬b.1.lt a.1):q=Ag2 p:=by
 refine(Ds8 ⟨?_,λ t i=>f t (c.mem_iff.1 i)⟩ λ m=>Da7 c m).symm;have j:(q.map (·.1)).Nodup:=(c.map _).nodup_iff.2 d;have l:q.Pairwise λ a b=>a.1≠b.1:=List.pairwise_map.1 j;exact(h.and l).imp λ⟨h1,n⟩=>Mon.Bo9 h1 (λ e=>n e.symm)
theorem Ab3.wr {tu:TypeId}{g:Nat}{W':PW}{s':Sl}{b:Bool}{cs:Array Value}{tt:TypeId}{q:Rat}(h:Ab3 tu W s b s' q)(c:Au9 (· = g) W W')(d:W.w.heap[g]?=some (.cells cs tt (0,0)))(e:tu≠tt):Ab3 tu W' s b s' q:=
 ⟨⟨Row.put h.1.1 c d e,h.1.2⟩,Row.put h.2 c d e⟩
theorem Dh7 {W0:PW}(hO:Go.SX.Own W0 169 6 s xs)(D:An5 (PT 257 W0) xs p)(F:(p.map (·.1)).Nodup)(G: ∀t∈p,t.2≠0)(T:p.length<=1099511627776):
  Aa0 Tryz.prog 230 [s.v,.func (.func 231) #[] #[]] W0 (λ b=>s.v.ownBlock=some b) λ v W'=>v = .tuple #[]/\Ch2 257 169 W' s (Ag2 p):=by
 refine⟨⟨_,Tryz.func230,by kernel_rfl,by kernel_rfl⟩,λ U=>?_⟩;obtain⟨L,rfl,r⟩:=Ev8 D;have f:s.n=L.length:=by rw[hO.row.1];simp
 have hlen:L.length=p.length:=r.len
 by_cases u:L = []
 ·subst u
  have i:p = []:=List.eq_nil_of_length_eq_zero hlen.symm;subst i;have:=Proofs.AnyF.slices_SortFunc_none Fe0 s.A s.c (.func (.func 231) #[] #[]) W0.w
  change Calls Tryz.prog 230 _ _ _ at this
  have e:s.v = .slice s.A 0 s.c:=by simp only[Sl.v,f];rfl
  rw[e];refine Calls.mono this ?_;rintro e w' ⟨rfl,rfl⟩;exact⟨_,rfl,Am7.refl _ _,rfl,[],hO,trivial⟩
 ·obtain⟨d,rfl⟩: ∃d:Array TmE,d.toList=L:=⟨L.toArray,rfl⟩
  have w:d.size≠0:=λ e=>u (by simpa using e);obtain⟨g,cur,H,I,V,j,hle,hH⟩:=Eh6 Bq7 Bp1 d hO w;have J:=(Array.getElem?_eq_some_iff.1 j).1;have A:=Proofs.AnyQ.slices_SortFunc Fe0 6 Tryz.isAgg169 Tryz.sizeOf169 Bq7 Bp1 Cu3 Er5 Fr8 231 #[] g 0 s.c d W0.w (enters_of Tryz.func231 (by kernel_rfl) rfl) (Ej6 g d.size W0.w) hH J (by simp at hlen;omega)
  change Calls Tryz.prog 230 _ _ _ at A
  have e:s.v = .slice (some ⟨g,0,none⟩) d.size s.c:=by simp only[Sl.v,f,H,Array.length_toList]
  rw[e];refine Calls.mono A ?_;rintro e w' ⟨rfl,N,n,os,i,l,rfl⟩;obtain⟨B,O⟩:=Dh2 i;obtain⟨X,c⟩:=Az2 Bq7 (k:=6) j n N os;obtain⟨q,P,C⟩:=r.perm O.symm;have Q:=Ch4 l B;have R:q=Ag2 p:=by
   refine Do0 P.symm F G (Ci0 C (Q.imp fun {a b} h=>?_));rw[Fo8] at h;exact of_decide_eq_false h
  refine⟨_,rfl,?_,rfl,?_⟩
  ·refine⟨c.os,c.tape,c.output,c.size,λ b o f=>c.block b o λ e=>f ?_,c.drawn⟩
   subst e;rfl
  ·rw[<-R]
   have S:=Et6 Bq7 Bp1 Cu3 hO w B I n os;refine⟨_,S,Ew4 (C.mono λ a t h=>⟨h.1,?_⟩)⟩;refine Ab3.wr (g:=g) (tt:=169) h.2 ⟨c.size,λ b o l f=>⟨c.block b o f,l⟩⟩ j (by decide)
end Go.Proofs.YtkgeopnakkcdoaaGreatDoor
namespace Go.Proofs.YtkgeopnakkcdoaaGreatDoor
open Go Go.SX
theorem Fa9:laidOutB Tryz.prog=true:=by kernel_rfl
theorem Ck1:Maps.Keyed Tryz.prog 146:=Maps.Keyed.of_law (deep_law_laid Fa9 (m:=2) (by omega) (of_decide_eq_true (by kernel_rfl)) (by kernel_rfl) (by kernel_rfl))
theorem Ep2: ∃d,Tryz.prog.types.size+1=d+2:=⟨Tryz.prog.types.size-1,by
 have:1<=Tryz.prog.types.size:=of_decide_eq_true (by kernel_rfl);omega⟩
theorem Dr7 {m:Mon}(h:m.ok): ∃l,keyOf Tryz.prog 146 m.v=some l:=by
 have h1:Tryz.prog.keyType 146=true:=by kernel_rfl
 have c:Tryz.prog.cellsOf 146=3:=by kernel_rfl
 have e:Tryz.prog.cellsOf 5=1:=by kernel_rfl
 have f:m.v.formed Tryz.prog 146=true:=by
  simp only[Mon.v,Value.formed,Tryz.underlying146,c];rfl
 obtain⟨d,i⟩:=Ep2;unfold Mon.ok at h;have wf: ∀z:Int,0<=z/\z<=255->(Lit.int .u8 z).wf=true:=by
  intro z r;simp[Lit.wf,IntKind.min,IntKind.max,IntKind.bits,IntKind.signed];omega
 have j:=wf _ h.1;have n:=wf _ h.2.1;have o:=wf _ h.2.2;unfold keyOf;rw[Tryz.underlying146];simp only[h1,f,Bool.and_self,if_true,i];simp[Program.keyLits,Tryz.underlying146,Tryz.underlying5,c,e,Value.cells,j,n,o,List.range_succ]
theorem Er2 {W:PW}{g:Nat}{es:Array MapEntry}{E:List Tm}{c:Nat}(h:Ai4 257 W g es c E):En1 Tryz.prog 146 es:=λ e he=>by
 obtain⟨i,hi⟩:=List.mem_iff_getElem?.1 he;obtain⟨t,_,d,hk,_⟩:=h.all.Fo1 hi;rw[hk];exact Dr7 d
end Go.Proofs.YtkgeopnakkcdoaaGreatDoor
namespace Go.Proofs.YtkgeopnakkcdoaaGreatDoor
open Go Go.SX
variable {E:List Tm}{W0:PW}{b:Bool}{es:Array MapEntry}{g k:Nat}{m:Mon}{q:Rat}{s s':Sl}
theorem Aw2 {α:Type}: ∀{l:List α},l.Nodup->∀{i j:Nat} {a:α},l[i]?=some a->l[j]?=some a->i=j
 | [],_,i,j,a,h,_=>by simp at h
 | x::l,c,0,0,a,_,_=>rfl
 | x::l,c,0,j+1,a,h,k=>by
  simp only[List.getElem?_cons_zero,Option.some.injEq,List.getElem?_cons_succ] at h k;subst h;exact absurd (List.mem_of_getElem? k) (List.nodup_cons.1 c).1
 | x::l,c,i+1,0,a,h,k=>by
  simp only[List.getElem?_cons_zero,Option.some.injEq,List.getElem?_cons_succ] at h k;subst k;exact absurd (List.mem_of_getElem? h) (List.nodup_cons.1 c).1
 | x::l,c,i+1,j+1,a,h,k=>by
  simp only[List.getElem?_cons_succ] at h k;rw[Aw2 (List.nodup_cons.1 c).2 h k]
theorem Bg9 {i:Nat}{e:MapEntry}(h:es[i]?=some e)(f:MapEntry->MapEntry):(es.modify i f).toList=es.toList.set i (f e):=by
 apply List.ext_getElem?;intro j;rw[Array.getElem?_toList,Array.getElem?_modify,List.getElem?_set];have c:=(Array.getElem?_eq_some_iff.1 h).1;split
 ·rename_i d
  subst d;rw[h];simp[c]
 ·rw[Array.getElem?_toList]
theorem Dr3 {W':PW}{n:PW}{v:Nat}{w:Array MapEntry}{W0:PW}{c:Nat}(h:Ai4 257 W' g es c E)(hm:m.ok)(G:Au9 (· = g) W' n)(H:¬n.S g)(I:n.w.heap[g]?=some (.map w v))(Q:Eg5 es c m.v (.agg ⟨[s.v,.bool b,s'.v]⟩) w v)(l:Rat)(J:(∃i:Nat,E[i]?=some (m,l))\/(∀t∈E,t.1≠m)/\l=0)(R:Ab3 257 W' s b s' (l+q)):
  ∃E',Ai4 257 n g w v E'/\Du7 E (m,q) E':=by
 have A:Ab3 257 n s b s' (l+q):=R.map G h.heap;have N:An5 (ME 257 n) es.toList E:=h.all.mono λ _ _ k=>k.map G h.heap;rcases Q with⟨i,e,hi,hk,rfl,rfl⟩ | ⟨S,rfl,rfl⟩
 ·have B:es.toList[i]?=some e:=by rw[Array.getElem?_toList];exact hi
  obtain⟨t,f,C,T,_⟩:=h.all.Fo1 B;have O:t.1=m:=Mon.Ck0 (T.symm.trans hk);have P:E[i]?=some (m,l):=by
   rcases J with⟨j,r⟩ | ⟨u,_⟩
   ·have D:(E.map (·.1))[i]?=some m:=by rw[List.getElem?_map,f];simp[O]
    have U:(E.map (·.1))[j]?=some m:=by rw[List.getElem?_map,r];rfl
    rw[Aw2 h.nd D U];exact r
   ·exact absurd O (u t (List.mem_of_getElem? f))
  refine⟨E.set i (m,l+q),⟨H,I,?_,?_,?_,?_⟩,Ei3 P⟩
  ·rw[Bg9 hi]
   exact N.set i ⟨hm,rfl,s,b,s',rfl,A⟩
  ·rw[Dk2 P]
   exact h.nd
  ·rw[Bg9 hi]
   have D:((es.toList.set i {e with key:=m.v,val:=.agg ⟨[s.v,.bool b,s'.v]⟩ }).map (·.born))=es.toList.map (·.born):=by
    rw[List.map_set];refine List.ext_getElem? λ j=>?_;rw[List.getElem?_set];split
    ·rename_i V
     subst V;rw[if_pos (by simpa using(Array.getElem?_eq_some_iff.1 hi).1),List.getElem?_map,B];rfl
    ·rfl
   rw[D];exact h.born
  ·rw[Bg9 hi]
   intro x d;rcases List.mem_or_eq_of_mem_set d with d | rfl
   ·exact h.lt x d
   ·exact h.lt e (List.mem_of_getElem? B)
 ·have u: ∀t∈E,t.1≠m:=by
   intro t f X;obtain⟨i,hi⟩:=List.mem_iff_getElem?.1 f;obtain⟨e,he,C,hk,_⟩:=h.all.get hi;exact S e (List.mem_of_getElem? he) (by rw[hk,X])
  have Y:l=0:=by
   rcases J with⟨j,r⟩ | ⟨_,C⟩
   ·exact absurd rfl (u _ (List.mem_of_getElem? r))
   ·exact C
  subst Y;rw[Rat.zero_add] at A;refine⟨E ++ [(m,q)],⟨H,I,?_,?_,?_,?_⟩,Du2 E m q⟩
  ·rw[Array.toList_push]
   exact N.snoc ⟨hm,rfl,s,b,s',rfl,A⟩
  ·rw[List.map_append,List.nodup_append]
   refine⟨h.nd,by simp,λ a F b' o=>?_⟩;obtain⟨t,f,rfl⟩:=List.mem_map.1 F;simp only[List.map_cons,List.map_nil,List.mem_singleton] at o;subst o;exact u t f
  ·rw[Array.toList_push,List.map_append,List.nodup_append]
   refine⟨h.born,by simp,λ a F b' o=>?_⟩;obtain⟨t,f,rfl⟩:=List.mem_map.1 F;simp only[List.map_cons,List.map_nil,List.mem_singleton] at o;subst o;have:=h.lt t f;omega
  ·rw[Array.toList_push]
   intro x d;rcases List.mem_append.1 d with d | d
   ·have:=h.lt x d;omega
   ·simp only[List.mem_singleton] at d
    subst d;exact Nat.lt_succ_self _
theorem Ea1 {c:Nat}(h:Ai4 257 W0 g es c E)(hm:m.ok)(J:Ab3 257 W0 s b s' q)(O: ∀t∈E,Sz k t.2)(N:Sz k q)(hk:k<=1073741824)(P:1<=k):
  Aa0 Tryz.prog 177 [.map (some g),.agg ⟨[.int .u8 m.x,.int .u8 m.y,.int .u8 m.z]⟩,.agg ⟨[s.v,.bool b,s'.v]⟩] W0 (· = g) λ v W'=>v = .tuple ⟨[]⟩/\∃f j E',Ai4 257 W' g f j E'/\Du7 E (m,q) E':=by
 apply Bi9;refine⟨g,rfl,Ck1,Dr7 hm,es,c,h.pub,h.heap,Er2 h,?_,?_⟩
 ·intro e he Q
  obtain⟨i,hi⟩:=List.mem_iff_getElem?.1 he;obtain⟨t,n,R,o,s0,b0,S,T,U⟩:=h.all.Fo1 hi;have V:t.1=m:=Mon.Ck0 (o.symm.trans Q);refine⟨s0,b0,S,T,At2 U J (O t (List.mem_of_getElem? n)) N (by omega) (by omega) λ r j u X w A=>⟨r,j,u,rfl,g,rfl,Ck1,Dr7 hm,λ W' l=>?_⟩⟩;have d:=h.ext (w.trans l);refine⟨es,c,d.pub,d.heap,Er2 d,.inl rfl,λ Y f B C D F G Z H=>?_⟩;obtain⟨E',h1,I⟩:=Dr3 (W0:=W0) d hm C D F G t.2 (.inl ⟨i,by rw[<-V];exact n⟩) (A.ext l);exact⟨rfl,f,B,E',h1.ext H,I⟩
 ·intro aa
  refine⟨⟨none,0,0⟩,false,⟨none,0,0⟩,rfl,At2 (Ar9 W0) J (Sz.zero P) N (by omega) (by omega) λ r j u X w A=>⟨r,j,u,rfl,g,rfl,Ck1,Dr7 hm,λ W' l=>?_⟩⟩;have d:=h.ext (w.trans l);refine⟨es,c,d.pub,d.heap,Er2 d,.inl rfl,λ Y f B C D F G Z H=>?_⟩;have ab: ∀t∈E,t.1≠m:=λ t n ac=>by
   obtain⟨i,hi⟩:=List.mem_iff_getElem?.1 n;obtain⟨e,he,R,o,_⟩:=h.all.get hi;exact aa e (List.mem_of_getElem? he) (by rw[o,ac])
  obtain⟨E',h1,I⟩:=Dr3 (W0:=W0) d hm C D F G 0 (.inr ⟨ab,rfl⟩) (A.ext l);exact⟨rfl,f,B,E',h1.ext H,I⟩
theorem Bj5 {W:PW}{M:Nat->Prop}{K:Value->PW->Prop}{c:Nat}(h:Ai4 257 W g es c E)(hm:m.ok)(n:Ab3 257 W s b s' q)(o: ∀t∈E,Sz k t.2)(r:Sz k q)(hk:k<=1073741824)(u:1<=k)(w:may W0 M g)(A: ∀W' d f i E',Ext W W'->Au9 (· = g) W' d->Ai4 257 W' g es c E->Ai4 257 d g f i E'->Du7 E (m,q) E'->K (.tuple ⟨[]⟩) d):
  Aa1 Tryz.prog W0 M 177 [.map (some g),.agg ⟨[.int .u8 m.x,.int .u8 m.y,.int .u8 m.z]⟩,.agg ⟨[s.v,.bool b,s'.v]⟩] W K:=by
 intro W' j;have l:=h.ext j;refine⟨(· = g),_,Ea1 l hm (n.ext j) o r hk u,λ F e=>?_,λ v d B C=>?_⟩
 ·subst e
  exact⟨l.pub,w⟩
 ·obtain⟨rfl,f,i,E',h1,D⟩:=C
  exact A W' d f i E' j B l h1 D
end Go.Proofs.YtkgeopnakkcdoaaGreatDoor
namespace Go.Proofs.YtkgeopnakkcdoaaGreatDoor
open Go Go.SX
variable {E:List Tm}{M:Nat->Prop}{W0:PW}{es:Array MapEntry}{g k:Nat}{sn:Array Nat}
def nzT (t:Tm):Bool:=decide (t.2≠0)
theorem Ff0 (l:List Tm)(m:Mon):Aj5 (l.filter nzT) m=Aj5 l m:=by
 induction l with
 | nil=>rfl
 | cons t r ih=>
  by_cases h:t.2=0
  ·rw[List.filter_cons_of_neg (by simp[nzT,h]),ih,Aj5,h]
   split<;>rw[Rat.zero_add]
  ·rw[List.filter_cons_of_pos (by simp[nzT,h]),Aj5,Aj5,ih]
theorem Dz3 {e:MapEntry}(h:e∈(leftOf es sn).toList):e∈es.toList/\sn.contains e.born=false:=by
 unfold leftOf at h;rw[Array.toList_filter,List.mem_filter] at h;exact⟨h.1,by simpa using h.2⟩
theorem Eb0 (h:(leftOf es sn).size=0): ∀e∈es.toList,sn.contains e.born=true:=by
 intro e he;refine Classical.byContradiction λ c=>?_;have:e∈(leftOf es sn).toList:=by
  unfold leftOf;rw[Array.toList_filter,List.mem_filter];exact⟨he,by simpa using c⟩
 rw[<-Array.length_toList] at h;rw[List.eq_nil_of_length_eq_zero h] at this;cases this
def spI (W0:PW) (c:Nat) (es:List MapEntry) (E:List Tm) (l:List PL) (W:PW):Prop:=match l with
 | [.row d,PL.seen sn n]=>Ext W0 W/\n=c/\∃L,An5 (PT 257 W) d L/\(L ++ (At5 sn es E).filter nzT).Perm (E.filter nzT)
 | _=>False
def spM (es:List MapEntry) (E:List Tm) (l:List PL) (W:PW):Nat:=match l with
 | [_,PL.seen sn n]=>(At5 sn es E).length
 | _=>0
theorem De1 {c:Nat}(h:Ai4 257 W0 g es c E)(J: ∀t∈E,Sz k t.2)(hk:k<=1073741824)(hl:E.length<=1073741824):
  Aa0 Tryz.prog 178 [.map (some g)] W0 M λ v W'=>∃s:Sl,v = .agg ⟨[s.v]⟩/\Aq4 W0 s/\Ch2 257 169 W' s (Ag2 E):=by
 apply Bf8;have hlen:es.toList.length=E.length:=h.all.len;refine⟨g,rfl,es,c,h.pub,h.heap,⟨rfl,rfl⟩,spI W0 c es.toList E,spM es.toList E,⟨Ext.refl _,rfl,[],trivial,?_⟩,?_⟩
 ·rw[show(⟨[]⟩:Array Nat) = #[] from rfl,Bw6 hlen]
  exact .refl _
 rintro N O P ai aj hF;obtain⟨sn,Q⟩: ∃sn,Ae4 N P=sn:=⟨_,rfl⟩;rw[Q] at hF⊢;obtain⟨r,rfl,L,n,d⟩:=hF;have f:=h.ext r;have ak:L.length<=E.length:=by
  have h1:=d.length_eq;have w:=List.length_filter_le nzT E;simp only[List.length_append] at h1;omega
 have al:=n.len;refine⟨es,O,f.pub,f.heap,λ e he=>h.lt e he,Nat.le_refl _,λ R S am T hO A=>?_,λ e he=>?_⟩
 ·have U:=Cp2 (sn:=sn) (es:=es.toList) (E:=E) (Eb0 R)
  rw[U,List.filter_nil,List.append_nil] at d;have V:(L.map (·.1)).Nodup:=(d.map _).nodup_iff.2 (List.Nodup.sublist (List.filter_sublist.map _) h.nd);have j: ∀t∈L,t.2≠0:=λ t o=>by
   have:=List.mem_filter.1 (d.mem_iff.1 o)
   simpa[nzT] using this.2
  have X:Ag2 L=Ag2 E:=Bc1 λ m=>by rw[Da7 d,Ff0]
  intro W' B;have C:=hO.ext B;refine⟨_,_,Dh7 C (n.mono λ _ _ h=>h.ext (T.trans B)) V j (by omega),λ D F=>⟨C.2 D F,.inr (A D F).1⟩,λ v an hX Y=>?_⟩;obtain⟨rfl,Z⟩:=Y;refine⟨rfl,λ ap aa=>⟨S,rfl,λ g hg=>(A g hg).1,?_⟩⟩;rw[<-X];exact Z.ext aa
 ·obtain⟨G,ac⟩:=Dz3 he
  obtain⟨i,hi⟩:=List.mem_iff_getElem?.1 G;obtain⟨t,o,h0,ae,s,b,s',hv,H⟩:=f.all.Fo1 hi;have u:=Ce4 h.born hi o ac;have I:(At5 (sn.push e.born) es.toList E).length<(At5 sn es.toList E).length:=by
   rw[u.length_eq];simp
  refine⟨⟨es,f.pub,f.heap,G,h.born⟩,t.1.x,t.1.y,t.1.z,ae,s,b,s',hv,Bk6 H (J t (List.mem_of_getElem? o)) (by omega) λ aq l _=>⟨_,rfl,λ ag=>⟨by simp;omega,⟨rfl,rfl⟩,⟨r.trans l,rfl,L ++ [t],(n.mono λ _ _ h=>h.ext l).snoc ⟨h0,s,b,s',rfl,H.ext l⟩,?_⟩,I⟩,λ heq=>⟨⟨rfl,rfl⟩,⟨r.trans l,rfl,L,n.mono λ _ _ h=>h.ext l,?_⟩,I⟩⟩⟩
  ·have j:nzT t=true:=by
    have:t.2≠0:=λ e=>ag ((Be6 _ _).2 e);simp[nzT,this]
   have h1:=u.filter nzT;rw[List.filter_cons_of_pos j] at h1;have w:(L ++ [t] ++ (At5 (sn.push e.born) es.toList E).filter nzT).Perm (L ++ (At5 sn es.toList E).filter nzT):=by
    rw[List.append_assoc];exact(h1.symm.append_left L)
   exact w.trans d
  ·have j:¬nzT t=true:=by
    have:t.2=0:=(Be6 _ _).1 (by omega);simp[nzT,this]
   have h1:=u.filter nzT;rw[List.filter_cons_of_neg j] at h1;exact(h1.symm.append_left L).trans d
theorem Ba0 {W:PW}{K:Value->PW->Prop}{c:Nat}(h:Ai4 257 W g es c E)(e: ∀t∈E,Sz k t.2)(hk:k<=1073741824)(f:E.length<=1073741824)(i: ∀(s:Sl) (W':PW),Ext W W'->Aq4 W s->Ch2 257 169 W' s (Ag2 E)->K (.agg ⟨[s.v]⟩) W'):Aa1 Tryz.prog W0 M 178 [.map (some g)] W K:=
 Aa2 (λ W' d=>De1 (M:=λ _=>False) (h.ext d) e hk f) (λ W' v j d l n=>by
  obtain⟨s,rfl,o,r⟩:=n;exact i s j (d.trans l) (o.back d) r)
end Go.Proofs.YtkgeopnakkcdoaaGreatDoor
