import Derived.Test.YtkgeopnakkcdoaaGreatDoorSx1
import Derived.Test.YtkgeopnakkcdoaaGreatDoorSx2
import Derived.Laws.BitsAllLaws
set_option linter.unusedVariables false
set_option linter.unusedSimpArgs false
namespace Go.SX
variable {d x:Nat}{l:List Nat}
def B:Nat:=4294967296
theorem Ad3:0<B:=by decide
def val:List Nat->Nat
 | []=>0
 | d::r=>d+B*val r
def Dig (l:List Nat):Prop:=∀d,d∈l->d<B
theorem Dig.nil:Dig []:=λ _ h=>by cases h
theorem Dig.cons (h:d<B)(e:Dig l):Dig (d::l):=λ x c=>by
 rcases List.mem_cons.1 c with rfl | c
 ·exact h
 ·exact e x c
theorem Dig.head (h:Dig (d::l)):d<B:=h d (List.mem_cons_self ..)
theorem Dig.tail (h:Dig (d::l)):Dig l:=λ x c=>h x (List.mem_cons_of_mem _ c)
theorem Dig.append {r:List Nat}(h:Dig l)(k:Dig r):Dig (l ++ r):=λ x c=>(List.mem_append.1 c).elim (h x) (k x)
theorem Ag8: ∀(l r:List Nat),val (l ++ r)=val l+B^l.length*val r
 | [],r=>by simp[val]
 | d::l,r=>by
  simp only[List.cons_append,val,Ag8 l r,List.length_cons,Nat.pow_succ];grind
theorem Ax5: ∀{l:List Nat} (_:Dig l),val l<B^l.length
 | [],_=>by simp[val]
 | d::l,h=>by
  have h1:=h.head;have c:=Ax5 h.tail;simp only[val,List.length_cons,Nat.pow_succ];have:B*val l+B<=B^l.length*B:=by
   have:=Nat.mul_le_mul_left B c;grind
  omega
def dg (x:Nat):List Nat:=if h:x=0 then[] else x%B::dg (x/B)
 termination_by x
 decreasing_by exact Nat.div_lt_self (Nat.pos_of_ne_zero h) (by decide)
theorem Ae8:dg 0 = []:=by rw[dg];simp
theorem Bk2 (h:x≠0):dg x=x%B::dg (x/B):=by rw[dg];simp[h]
theorem Ac5: ∀(x:Nat),val (dg x)=x:=by
 intro x
 induction x using Nat.strongRecOn with
 | ind x ih=>
  by_cases h:x=0
  ·subst h;rw[Ae8];rfl
  ·rw[Bk2 h,val,ih _ (Nat.div_lt_self (Nat.pos_of_ne_zero h) (by decide))]
   exact Nat.mod_add_div x B
theorem Ad8: ∀(x:Nat),Dig (dg x):=by
 intro x
 induction x using Nat.strongRecOn with
 | ind x ih=>
  by_cases h:x=0
  ·subst h;rw[Ae8];exact Dig.nil
  ·rw[Bk2 h]
   exact Dig.cons (Nat.mod_lt _ Ad3) (ih _ (Nat.div_lt_self (Nat.pos_of_ne_zero h) (by decide)))
def Trim (l:List Nat):Prop:=l.getLast?≠some 0
theorem Cp1 (h:Trim (d::l)):Trim l/\(l = []->d≠0):=by
 cases l with
 | nil=>exact⟨by simp[Trim],λ _=>by simpa[Trim] using h⟩
 | cons e r=>exact⟨by simpa[Trim] using h,λ h=>by cases h⟩
theorem Ei2: ∀{l:List Nat} (_:Trim l) (_:l≠[]),val l≠0
 | [],_,h=>absurd rfl h
 | d::l,h,_=>by
  obtain⟨h1,e⟩:=Cp1 h;simp only[val]
  by_cases c:l = []
  ·have:=e c;omega
  ·have:=Ei2 h1 c
   have:=Nat.mul_pos Ad3 (Nat.pos_of_ne_zero this);omega
theorem Bk0: ∀{l:List Nat} (_:Dig l) (_:Trim l),dg (val l)=l
 | [],_,_=>Ae8
 | d::l,c,e=>by
  have h:=Ei2 e (by simp);obtain⟨h1,_⟩:=Cp1 e;rw[Bk2 h];have j:val (d::l)%B=d:=by
   simp only[val];rw[Nat.add_mul_mod_self_left,Nat.mod_eq_of_lt c.head]
  have n:val (d::l)/B=val l:=by
   simp only[val];rw[Nat.add_mul_div_left _ _ Ad3,Nat.div_eq_of_lt c.head,Nat.zero_add]
  rw[j,n,Bk0 c.tail h1]
theorem Df1: ∀(x:Nat),Trim (dg x):=by
 intro x
 induction x using Nat.strongRecOn with
 | ind x ih=>
  by_cases h:x=0
  ·subst h;rw[Ae8];simp[Trim]
  ·rw[Bk2 h]
   have e:=Nat.div_lt_self (Nat.pos_of_ne_zero h) (show 1<B by decide);have:=ih _ e
   by_cases c:x/B=0
   ·rw[c,Ae8]
    have:x<B:=(Nat.div_eq_zero_iff_lt Ad3).1 c;simp[Trim,Nat.mod_eq_of_lt this,h]
   ·rw[Bk2 c] at this⊢
    simpa[Trim] using this
def nl (x:Nat):Nat:=(dg x).length
theorem Bb4 (x:Nat):x<B^nl x:=by
 have:=Ax5 (Ad8 x)
 rwa [Ac5] at this
theorem Ag9:nl 0=0:=by simp[nl,Ae8]
theorem Ad0:nl x=0↔x=0:=by
 constructor
 ·intro h
  have:=Bb4 x;rw[h] at this
  simpa using this
 ·rintro rfl;exact Ag9
theorem Bc6 {n:Nat}(h:x<B^n):nl x<=n:=by
 induction n generalizing x with
 | zero=>
  have:x=0:=by simpa using h
  subst this;simp[Ag9]
 | succ n ih=>
  by_cases c:x=0
  ·subst c;simp[Ag9]
  ·have:x/B<B^n:=by
    rw[Nat.div_lt_iff_lt_mul Ad3]
    rwa [Nat.pow_succ] at h
   have:=ih this;simp only[nl] at this⊢;rw[Bk2 c];simp;exact this
theorem Ad1 {y:Nat}(h:x<=y):nl x<=nl y:=Bc6 (Nat.lt_of_le_of_lt h (Bb4 y))
theorem Ae5 (x y:Nat):nl (x*y)<=nl x+nl y:=by
 apply Bc6;rw[Nat.pow_add];have h1:=Bb4 x;have c:=Bb4 y;exact Nat.mul_lt_mul_of_lt_of_le h1 (Nat.le_of_lt c) (Nat.pow_pos Ad3)
theorem By9 (x y:Nat):nl (x+y)<=max (nl x) (nl y)+1:=by
 apply Bc6;have h1:=Nat.lt_of_lt_of_le (Bb4 x) (Nat.pow_le_pow_right Ad3 (Nat.le_max_left (nl x) (nl y)));have c:=Nat.lt_of_lt_of_le (Bb4 y) (Nat.pow_le_pow_right Ad3 (Nat.le_max_right (nl x) (nl y)));rw[Nat.pow_succ];have:2<=B:=by decide
 have:=Nat.mul_le_mul_left (B^max (nl x) (nl y)) this;omega
end Go.SX
namespace Go.SX
variable {K:Value->PW->Prop}{M:Nat->Prop}{P:Program}{W W0:PW}{args:List Value}{f:FuncId}{i k x:Nat}{l:List Nat}{t:TypeId}{xs:List (List Value)}
def cel (l:List Nat):List (List Value):=l.map λ(d:Nat)=>[Value.int .u32 (d:Int)]
theorem Aa5 (l:List Nat):(cel l).length=l.length:=by simp[cel]
theorem Au0 (h:i<l.length):(cel l)[i]?=some [Value.int .u32 ((l[i]:Nat):Int)]:=by simp[cel,h]
theorem Ae9 (l:List Nat)(i d:Nat):(cel l).set i [.int .u32 (d:Int)]=cel (l.set i d):=by simp[cel,List.map_set]
theorem Bh9 (l r:List Nat):cel l ++ cel r=cel (l ++ r):=by simp[cel]
theorem Ae3 (n:Nat):List.replicate n [Value.int .u32 0]=cel (List.replicate n 0):=by simp[cel]
theorem Es6 (l:List Nat): ∀x∈cel l,x.length=1/\∀u∈x,u.oneCell'=true:=by
 intro x c;obtain⟨d,_,rfl⟩:=List.mem_map.1 c;exact⟨rfl,λ u hu=>by simp at hu;subst hu;rfl⟩
abbrev Ad4 (t:TypeId) (W:PW) (s:Sl) (l:List Nat):Prop:=Row W t 1 s (cel l)
theorem Ad4.n {s:Sl}(h:Ad4 t W s l):s.n=l.length:=h.1.trans (Aa5 l)
theorem Ad4.at {s:Sl}(h:Ad4 t W s l)(hi:i<l.length):Aa7 W s 1 i 0 [.int .u32 (l[i]:Int)]:=
 Row.elem h (Au0 hi) λ j v c=>by simpa using c
theorem Row.some {sz:Nat}{s:Sl}(h:Row W t sz s xs)(c:xs≠[]):s.A.isSome=true:=by
 obtain⟨_,_,_,_,e⟩:=h;rcases e with rfl | ⟨b,o,cs,n,j,_⟩
 ·exact absurd rfl c
 ·rw[j];rfl
theorem Ad4.inB {s:Sl}(h:Ad4 t W s l){i:Int}(c:0<=i)(h1:i<(l.length:Int)):inB s i:=
 ⟨c,by rw[h.n];exact h1,Row.some h λ e=>by
  have:l = []:=by simpa[cel] using e
  subst this;simp at h1;omega⟩
def Aa6 (t:TypeId) (W:PW) (s:Sl) (x:Nat):Prop:=Ad4 t W s (dg x)
theorem Aa6.ext {W':PW}{s:Sl}(h:Aa6 t W s x)(c:Ext W W'):Aa6 t W' s x:=Row.ext h c
theorem Aa6.n {s:Sl}(h:Aa6 t W s x):s.n=nl x:=Ad4.n h
theorem Aa2 {e:PW->Value->PW->Prop}(h: ∀W',Ext W W'->Cd9 P f args W' (e W'))(hk: ∀W' v c,Ext W W'->Ext W' c->e W' v c->K v c):Aa1 P W0 M f args W K:=
 λ W' j=>⟨λ _=>False,e W',h W' j,λ _ h=>h.elim,λ v c n w=>hk W' v c j n.ext w⟩
theorem Mi4 {c:Value->PW->Prop}(h: ∀W',Ext W W'->Cd9 P f args W' c)(hk: ∀v W',Ext W W'->c v W'->K v W'):Aa1 P W0 M f args W K:=
 Aa2 h λ _ v e j n w=>hk v e (j.trans n) w
theorem Sl.Ar0 (s:Sl)(sz k:Nat):s.cut sz 0 k=⟨s.A,k,s.c⟩:=by
 unfold Sl.cut;have:s.A.map (·.add (0*sz))=s.A:=by
  cases s.A with
  | none=>rfl
  | some a=>simp[Addr.add]
 rw[this];simp
variable {s:Sl}
theorem Row.take {sz:Nat}(h:Row W t sz s xs)(hk:k<=xs.length):Row W t sz ⟨s.A,k,s.c⟩ (xs.take k):=by
 obtain⟨h1,F,hm,e,n⟩:=h;refine⟨by simp[hk],by show k<=s.c;omega,hm,λ x w=>e x (List.mem_of_mem_take w),?_⟩;rcases n with rfl | ⟨b,o,cs,A,B,C,D,E⟩
 ·exact .inl (by simp)
 ·refine .inr ⟨b,o,cs,A,B,C,D,λ j v c=>E j v ?_⟩
  have:xs.flatten=(xs.take k).flatten ++ (xs.drop k).flatten:=by rw[<-List.flatten_append,List.take_append_drop]
  rw[this,List.getElem?_append_left (List.getElem?_eq_some_iff.1 c).1];exact c
theorem Bo2 (l:List Nat)(k:Nat):(cel l).take k=cel (l.take k):=by simp[cel,List.map_take]
theorem Ad4.take (h:Ad4 t W s l)(hk:k<=l.length):Ad4 t W ⟨s.A,k,s.c⟩ (l.take k):=by
 have:=Row.take h (k:=k) (by rw[Aa5];exact hk)
 rwa [Bo2] at this
end Go.SX
namespace Go.SX
theorem wrap64 {z:Int}(h:0<=z)(c:z<18446744073709551616):IntKind.wrap .u64 z=z:=by
 simp[IntKind.wrap,IntKind.bits,IntKind.signed];omega
theorem Ab9 (n:Nat):IntKind.wrap .u32 (n:Int)=((n%B:Nat):Int):=by
 simp[IntKind.wrap,IntKind.bits,IntKind.signed,B]
theorem Ao0 (n:Nat):Ah0 (n:Int) 32=((n/B:Nat):Int):=by
 unfold Ah0;rw[Int.fdiv_eq_ediv_of_nonneg _ (by decide)];simp[B]
theorem Aa4: ∀{l:List Nat} {k:Nat} (h:k<l.length),val (l.take (k+1))=val (l.take k)+B^k*l[k]
 | d::l,0,h=>by simp[val]
 | d::l,k+1,h=>by
  simp only[List.take_succ_cons,val,List.getElem_cons_succ,Nat.pow_succ];rw[Aa4 (by simpa using h)];grind
theorem Ao6 (n:Nat):val (List.replicate n 0)=0:=by
 induction n with
 | zero=>rfl
 | succ n ih=>simp[List.replicate_succ,val,ih]
end Go.SX
namespace Go.SX
theorem Own.Fi8 {W:PW}{W':PW}{t:TypeId}{s:Sl}{xs:List (List Value)}{sz:Nat}(h:Own W t sz s xs)(w:Ext W W'):Own W' t sz s xs:=by
 obtain⟨⟨j,hlen,A⟩,B⟩:=h;rcases A with⟨c,C⟩ | ⟨g,cap,cur,c,D,n,h1,E,F,G⟩
 ·refine⟨⟨j,hlen,.inl ⟨c,C⟩⟩,λ g e=>?_⟩
  rw[c] at e;simp[Value.ownBlock] at e
 ·have e:s.v.ownBlock=some g:=by rw[c];rfl
  have hk:=w.Ai1 g (Array.getElem?_eq_some_iff.1 n).1 (B g e);refine⟨⟨j,hlen,.inr ⟨g,cap,cur,c,D,hk.1.trans n,h1,E,F,G⟩⟩,λ H v=>?_⟩;rw[e] at v;cases v;exact hk.2
end Go.SX
namespace Go.SX
variable {P U V first g q r top u2 v2:Nat}
theorem Dv6 {B X:Nat}(j:0<P)(n:0<B)(c:first*(B*P)<=V)(v:U<(top+1)*(B*P))(w:q*V<=U)(e:0<first):q<=top/first:=by
 rw[Nat.le_div_iff_mul_le e];have h1:q*(first*(B*P))<=q*V:=Nat.mul_le_mul_left q c;have h:q*first*(B*P)<(top+1)*(B*P):=by
  have:q*(first*(B*P))=q*first*(B*P):=by grind
  omega
 have:=Nat.lt_of_mul_lt_mul_right h;omega
theorem Ec0 {B:Nat}(n:0<P)(c:(first*B+v2)*P<=V)(v:U<(top*B+u2+1)*P)(w:q*V<=U)(e:top=g*first+r)(A:r*B+u2<g*v2):q<g:=by
 apply Nat.lt_of_not_le;intro h;have h1:g*V<=q*V:=Nat.mul_le_mul_right V h;have C:g*((first*B+v2)*P)<=g*V:=Nat.mul_le_mul_left g c;have j:g*(first*B+v2)*P<(top*B+u2+1)*P:=by
  have:g*((first*B+v2)*P)=g*(first*B+v2)*P:=by grind
  omega
 have D:=Nat.lt_of_mul_lt_mul_right j;have E:g*(first*B+v2)=g*first*B+g*v2:=by grind
 have F:top*B=g*first*B+r*B:=by rw[e];grind
 omega
theorem Ee6 {B:Nat}(n:(first*B+v2)*P<=V)(v:V<(first*B+v2+1)*P)(w:(top*B+u2)*P<=U)(c:0<first)(e:top=g*first+r)(A:g*v2<=r*B+u2)(C:g<B)(h:0<V):g<=U/V+1:=by
 rcases Nat.eq_zero_or_pos g with rfl | D
 ·exact Nat.zero_le _
 have j:g-1<=U/V:=by
  rw[Nat.le_div_iff_mul_le h,Nat.sub_mul,Nat.one_mul];have h1:g*V<=g*((first*B+v2+1)*P):=Nat.mul_le_mul_left g (by omega);have E:g*((first*B+v2+1)*P)=(g*first*B+g*v2)*P+g*P:=by grind
  have F:(g*first*B+g*v2)*P<=(top*B+u2)*P:=Nat.mul_le_mul_right P (by
   have G:top*B=g*first*B+r*B:=by rw[e];grind
   omega)
  have H:g*P<=(first*B+v2)*P:=Nat.mul_le_mul_right P (by
   have:=Nat.mul_le_mul_right B c;omega)
  omega
 generalize U/V=y at j⊢;omega
end Go.SX
namespace Go.SX
variable {a d g k low u:Nat}{l zs:List Nat}
theorem Am8 (l:List Nat)(h:k<=l.length):val l=val (l.take k)+B^k*val (l.drop k):=by
 have:=Ag8 (l.take k) (l.drop k);rw[List.take_append_drop,List.length_take,Nat.min_eq_left h] at this;exact this
theorem Ah9 (h:k<l.length):val (l.drop k)=l[k]+B*val (l.drop (k+1)):=by
 rw[List.drop_eq_getElem_cons h];rfl
theorem Dig.take (h:Dig l)(k:Nat):Dig (l.take k):=λ d c=>h d (List.mem_of_mem_take c)
theorem Dig.drop (h:Dig l)(k:Nat):Dig (l.drop k):=λ d c=>h d (List.mem_of_mem_drop c)
theorem Dig.set (h:Dig l)(c:d<B):Dig (l.set k d):=λ x e=>by
 rcases List.mem_or_eq_of_mem_set e with h1 | rfl
 ·exact h x h1
 ·exact c
theorem Dig.at (h:Dig l)(hk:k<l.length):l[k]<B:=h _ (List.getElem_mem hk)
theorem Ac1 (h:k<zs.length):val ((zs.set k d).take (k+1))=val (zs.take k)+B^k*d:=by
 rw[Aa4 (by simpa using h)];have:(zs.set k d).take k=zs.take k:=by
  rw[List.take_set];exact List.set_eq_of_length_le (by simp;omega)
 rw[this];simp
theorem At3 {n:Nat}(h:n<=k):(zs.set k d).take n=zs.take n:=by
 rw[List.take_set];exact List.set_eq_of_length_le (by simp;omega)
theorem Ah5 {n:Nat}(h:k<n):(zs.set k d).drop n=zs.drop n:=by
 apply List.ext_getElem?;intro i;simp only[List.getElem?_drop,List.getElem?_set];rw[if_neg (by omega)]
theorem Bh5 (zs:List Nat)(d:Nat)(h:k<zs.length):val (zs.set k d)+B^k*zs[k]=val zs+B^k*d:=by
 have c:k+1<=(zs.set k d).length:=by rw[List.length_set];exact h
 have h1:=Am8 (zs.set k d) c;have e:=Am8 zs (k:=k+1) h;rw[Ac1 h,Ah5 (Nat.lt_succ_self k)] at h1;rw[Aa4 h] at e;generalize B^(k+1)=b1 at *;generalize B^k=b at *;generalize b1*val (List.drop (k+1) zs)=r at *;omega
theorem Ae6 (h:Dig l)(k:Nat):val (l.take k)<B^k:=by
 have h1:=Ax5 (h.take k);have c:(l.take k).length<=k:=by simp;omega
 exact Nat.lt_of_lt_of_le h1 (Nat.pow_le_pow_right Ad3 c)
theorem Cg9 (hu:u<B)(c:low<=1)(e:d<B):
  ∃x neg:Nat,IntKind.wrap .u32 (IntKind.wrap .u64 (IntKind.wrap .u64 ((u:Int)-(low:Int))-(d:Int)))=(x:Int)/\Ah0 (IntKind.wrap .u64 (IntKind.wrap .u64 ((u:Int)-(low:Int))-(d:Int))) 63=(neg:Int)/\neg<=1/\x<B/\x+low+d=u+B*neg:=by
 unfold B at *
 by_cases h:low+d<=u
 ·refine⟨u-low-d,0,?_,?_,by omega,by omega,by omega⟩
  ·rw[IntKind.wrap_u32',IntKind.wrap_u64,IntKind.wrap_u64];omega
  ·unfold Ah0;rw[Int.fdiv_eq_ediv_of_nonneg _ (by decide),IntKind.wrap_u64,IntKind.wrap_u64];omega
 ·refine⟨u+4294967296-low-d,1,?_,?_,by omega,by omega,by omega⟩
  ·rw[IntKind.wrap_u32',IntKind.wrap_u64,IntKind.wrap_u64];omega
  ·unfold Ah0;rw[Int.fdiv_eq_ediv_of_nonneg _ (by decide),IntKind.wrap_u64,IntKind.wrap_u64];omega
theorem Eh3 (hu:u<B)(c:low<=1):
  ∃x neg:Nat,IntKind.wrap .u32 (IntKind.wrap .u64 ((u:Int)-(low:Int)))=(x:Int)/\Ah0 (IntKind.wrap .u64 ((u:Int)-(low:Int))) 63=(neg:Int)/\neg<=1/\x<B/\x+low=u+B*neg:=by
 unfold B at *
 by_cases h:low<=u
 ·refine⟨u-low,0,?_,?_,by omega,by omega,by omega⟩
  ·rw[IntKind.wrap_u32',IntKind.wrap_u64];omega
  ·unfold Ah0;rw[Int.fdiv_eq_ediv_of_nonneg _ (by decide),IntKind.wrap_u64];omega
 ·refine⟨u+4294967296-low,1,?_,?_,by omega,by omega,by omega⟩
  ·rw[IntKind.wrap_u32',IntKind.wrap_u64];omega
  ·unfold Ah0;rw[Int.fdiv_eq_ediv_of_nonneg _ (by decide),IntKind.wrap_u64];omega
theorem Ee8 {β:Nat}{j:Nat}{n:Nat}{w:Nat}{p:Nat}{x:Nat}{c neg v:Nat}(h:j+g*w=n+p*(c+low))(A:x+low+(c+g*v)%β=u+β*neg):
  (j+p*x)+g*(w+p*v)=(n+p*u)+(p*β)*((c+g*v)/β+neg):=by
 have:=Nat.mod_add_div (c+g*v) β;generalize (c+g*v)%β=m at *;generalize (c+g*v)/β=k at *;have e:p*(x+low+m)=p*(u+β*neg):=by rw[A]
 have B:p*(m+β*k)=p*(c+g*v):=by rw[this]
 grind
theorem Eu9 {U:Nat}{V:Nat}{q:Nat}{z:Nat}{neg n:Nat}(c:0<V)(w:V<=B^n)(e:q=U/V)(j:g=q\/g=q+1)(A:z<B^(n+1))(h:z+g*V=U+B^(n+1)*neg)(C:neg<=1)(D:U<B^(n+1)):
  (neg=0/\g=q/\z=U%V)\/(neg=1/\g=q+1/\z+V=U%V+B^(n+1)):=by
 have v:=Nat.mod_add_div U V;have hm:=Nat.mod_lt U c;rw[<-e] at v;have E:V*q=q*V:=Nat.mul_comm ..;have F:(q+1)*V=q*V+V:=by grind
 have G:B^n<=B^(n+1):=Nat.pow_le_pow_right Ad3 (by omega);rcases j with rfl | rfl
 ·have:neg=0:=by
   rcases(show neg=0\/neg=1 by omega) with h | h
   ·exact h
   ·subst h;omega
  subst this;exact .inl ⟨rfl,rfl,by omega⟩
 ·have:neg=1:=by
   rcases(show neg=0\/neg=1 by omega) with h | h
   ·subst h;omega
   ·exact h
  subst this;exact .inr ⟨rfl,rfl,by omega⟩
theorem Dq8 {b:Nat}(c:b<B)(e:a<B):bits .or .u64 ((a*B:Nat):Int) (b:Int)=((a*B+b:Nat):Int):=by
 unfold B at *;rw[bits_or_u64_nat _ _ (by omega) (by omega),nat_join 32 _ _ (by omega) (by omega)]
theorem Eh5 (c:a<B):Bc5 .u64 (a:Int) 32=((a*B:Nat):Int):=by
 unfold Bc5;unfold B at *;rw[IntKind.wrap_u64];omega
end Go.SX
namespace Go.SX
variable {W W':PW}{cs:Array Value}{g o p:Nat}{l:List Value}{s:Sl}{t:TypeId}{us ws:List Nat}
theorem Bf4: ∀(r l:List Value) (o:Nat),(Aj6 l o r).length=l.length
 | [],l,o=>rfl
 | x::r,l,o=>by simp[Aj6,Bf4 r]
theorem Ap0: ∀(r l:List Value) (o k:Nat),(Aj6 l o r)[k]?=if o<=k/\k<o+r.length/\k<l.length then r[k-o]? else l[k]?
 | [],l,o,k=>by
  rw[if_neg (by simp;omega)];rfl
 | x::r,l,o,k=>by
  simp only[Aj6,Ap0 r,List.length_set,List.length_cons,List.getElem?_set]
  by_cases h1:o=k
  ·subst h1
   rw[if_neg (by omega),if_pos rfl]
   by_cases c:o<l.length
   ·rw[if_pos c,if_pos (by omega)];simp
   ·rw[if_neg c,if_neg (by omega),List.getElem?_eq_none (by omega)]
  ·by_cases c:o+1<=k/\k<o+1+r.length/\k<l.length
   ·rw[if_pos c,if_pos (by omega),show k-o=(k-(o+1))+1 by omega]
    simp
   ·rw[if_neg c,if_neg h1,if_neg (by omega)]
def cv (l:List Nat):List Value:=l.map λ(d:Nat)=>Value.int .u32 (d:Int)
theorem Ag7 (l:List Nat):(cv l).length=l.length:=by simp[cv]
theorem Al2: ∀(l:List Nat),(cel l).flatten=cv l
 | []=>rfl
 | d::r=>by
  have:=Al2 r;simp only[cel,cv,List.map_cons,List.flatten_cons] at this⊢;rw[this];rfl
structure Mut (W:PW) (t:TypeId) (s:Sl) (g o:Nat) (cs:Array Value) (us:List Nat):Prop where
 A:s.A=some ⟨g,o,none⟩
 n:s.n=us.length
 nc:s.n<=s.c
 cm:s.c<=maxLen
 S:¬W.S g
 heap:W.w.heap[g]?=some (.cells cs t (0,0))
 room:o+us.length<=cs.size
 at': ∀j v,(cv us)[j]?=some v->cs[o+j]?=some v
theorem Mut.row (h:Mut W t s g o cs us):Ad4 t W s us:=
 ⟨h.n.trans (Aa5 us).symm,h.nc,h.cm,Es6 us,.inr ⟨g,o,cs,(0,0),h.A,h.S,h.heap,λ j v c=>h.at' j v (by rwa [Al2] at c)⟩⟩
theorem Mut.ext (h:Mut W t s g o cs us)(c:Ext W W'):Mut W' t s g o cs us:=by
 have hk:=c.Ai1 g (Array.getElem?_eq_some_iff.1 h.heap).1 h.S;exact⟨h.A,h.n,h.nc,h.cm,hk.2,hk.1.trans h.heap,h.room,h.at'⟩
theorem Mut.lt (h:Mut W t s g o cs us):g<W.w.heap.size:=(Array.getElem?_eq_some_iff.1 h.heap).1
theorem Mut.cut {lo:Nat}{hi:Nat}(h:Mut W t s g o cs us)(h1:lo<hi)(w:hi<=us.length):Mut W t (s.cut 1 lo hi) g (o+lo) cs ((us.take hi).drop lo):=by
 have A:=h.n;have B:=h.nc;have C:=h.cm;have D:=h.room;have c:((us.take hi).drop lo).length=hi-lo:=by simp;omega
 refine⟨?_,c.symm,?_,?_,h.S,h.heap,by rw[c];omega,λ j v e=>?_⟩
 ·unfold Sl.cut
  rw[if_neg (by omega)];simp[h.A,Addr.add]
 ·show hi-lo<=s.c-lo;omega
 ·show s.c-lo<=maxLen;omega
 ·have n:=(List.getElem?_eq_some_iff.1 e).1
  rw[Ag7,c] at n;have:(cv us)[lo+j]?=some v:=by
   rw[<-e];simp only[cv,List.getElem?_map,List.getElem?_drop,List.getElem?_take];rw[if_pos (by omega)]
  have:=h.at' _ _ this
  rwa [Nat.add_assoc]
theorem Mut.put (h:Mut W t s g o cs us)(c:Aq5 W W' g cs t o (cv ws))(n:ws.length=us.length):Mut W' t s g o (Aj6 cs.toList o (cv ws)).toArray ws:=by
 have A:=h.room;refine⟨h.A,h.n.trans n.symm,h.nc,h.cm,c.S,c.heap,?_,λ j v e=>?_⟩
 ·simp only[List.size_toArray,Bf4]
  simp;omega
 ·have w:=(List.getElem?_eq_some_iff.1 e).1
  rw[Ag7] at w;simp only[List.getElem?_toArray,Ap0,Ag7];rw[if_pos (by simp;omega),show o+j-o=j by omega];exact e
theorem Db5 (h:o<=p)(hw:p+ws.length<=o+us.length):Aj6 (Aj6 l o (cv us)) p (cv ws)=Aj6 l o (cv (us.take (p-o) ++ ws ++ us.drop (p-o+ws.length))):=by
 apply List.ext_getElem?;intro k;have hlen:(us.take (p-o) ++ ws ++ us.drop (p-o+ws.length)).length=us.length:=by simp;omega
 simp only[Ap0,Bf4,Ag7,hlen]
 by_cases c:o<=k/\k<o+us.length/\k<l.length
 ·rw[if_pos c]
  by_cases h1:p<=k/\k<p+ws.length/\k<l.length
  ·rw[if_pos h1,if_pos c]
   simp only[cv,List.getElem?_map];congr 1;have e:(us.take (p-o)).length=p-o:=by rw[List.length_take,Nat.min_eq_left (by omega)]
   rw[List.getElem?_append_left (by rw[List.length_append,e];omega),List.getElem?_append_right (by rw[e];omega),e];rw[show k-o-(p-o)=k-p by omega]
  ·rw[if_neg h1,if_pos c]
   simp only[cv,List.getElem?_map];congr 1
   by_cases j:k<p
   ·rw[List.append_assoc,List.getElem?_append_left (by simp;omega),List.getElem?_take,if_pos (by omega)]
   ·rw[List.getElem?_append_right (by simp;omega),List.getElem?_drop]
    congr 1;simp[Nat.min_eq_left (show p-o<=us.length by omega)];omega
 ·rw[if_neg c,if_neg (by intro h1;apply c;omega),if_neg c]
theorem Fd8 (us:List Nat)(i d:Nat)(h:i<us.length):us.set i d=us.take i ++ [d] ++ us.drop (i+1):=by
 apply List.ext_getElem?;intro k;rw[List.getElem?_set]
 by_cases h1:i=k
 ·subst h1
  rw[if_pos rfl,if_pos h,List.getElem?_append_left (by simp;omega),List.getElem?_append_right (by simp;omega)];simp[Nat.min_eq_left (Nat.le_of_lt h)]
 ·rw[if_neg h1]
  by_cases c:k<i
  ·rw[List.append_assoc,List.getElem?_append_left (by simp;omega),List.getElem?_take,if_pos c]
  ·rw[List.getElem?_append_right (by simp;omega),List.getElem?_drop]
   congr 1;simp;omega
theorem Mut.start (h:Mut W t s g o cs us)(c:Ext W W'):Aq5 W W' g cs t o (cv us):=by
 refine⟨c.toM _,(h.ext c).S,?_⟩;rw[(h.ext c).heap];congr 2;apply Array.ext';apply List.ext_getElem?;intro k;have j:=h.room;simp only[Ap0,Ag7];split
 ·rename_i hk
  have e:k-o<(cv us).length:=by rw[Ag7];omega
  have:=h.at' (k-o) _ (List.getElem?_eq_getElem e);rw[show o+(k-o)=k by omega] at this;rw[List.getElem?_eq_getElem e]
  simpa using this
 ·rfl
theorem Aq5.ext' {A:PW}(h:Aq5 A W g cs t o l)(c:Ext W W'):Aq5 A W' g cs t o l:=by
 have hk:=c.Ai1 g (Array.getElem?_eq_some_iff.1 h.heap).1 h.S;exact⟨h.ext.trans (c.toM _),hk.2,hk.1.trans h.heap⟩
theorem Aq5.then {A:PW}(h:Aq5 A W g cs t o (cv us))(k:Aq5 W W' g (Aj6 cs.toList o (cv us)).toArray t p (cv ws))(c:o<=p)(hw:p+ws.length<=o+us.length):
  Aq5 A W' g cs t o (cv (us.take (p-o) ++ ws ++ us.drop (p-o+ws.length))):=
 ⟨h.ext.trans k.ext,k.S,by rw[k.heap,Db5 c hw]⟩
theorem Row.other {xs:List (List Value)}{M:Nat->Prop}{sz:Nat}(h:Row W t sz s xs)(j:Au9 M W W')(n: ∀a:Addr,s.A=Option.some a->¬M a.block):Row W' t sz s xs:=by
 obtain⟨h1,v,hm,w,A⟩:=h;refine⟨h1,v,hm,w,?_⟩;rcases A with rfl | ⟨b,o,cs,B,c,C,e,D⟩
 ·exact .inl rfl
 ·have hk:=j.Ai1 b (Array.getElem?_eq_some_iff.1 e).1 C (n _ c)
  exact .inr ⟨b,o,cs,B,c,hk.2,hk.1.trans e,D⟩
end Go.SX
namespace Go.SX
variable {T l us:List Nat}{W W':PW}{d hi i k lo p x:Nat}{s:Sl}{t:TypeId}{xs:List (List Value)}
theorem Own.ext {sz:Nat}(h:Own W t sz s xs)(c:Ext W W'):Own W' t sz s xs:=h.Fi8 c
def Aj9 (x:Nat):Nat:=if x=0 then 0 else Nat.log2 x+1
theorem Fh5 {n:Nat}(h1:2^n<=x)(e:x<2^(n+1)):Aj9 x=n+1:=by
 have c:x≠0:=by have:=Nat.two_pow_pos n;omega
 unfold Aj9;rw[if_neg c];have a:Nat.log2 x<n+1:=(Nat.log2_lt c).2 e;have b:n<=Nat.log2 x:=(Nat.le_log2 c).2 h1;omega
theorem Eq1:Aj9 0=0:=rfl
theorem Ax2 (h:x≠0): ∃n,Aj9 x=n+1/\2^n<=x/\x<2^(n+1):=
 ⟨Nat.log2 x,by simp[Aj9,h],(Nat.le_log2 h).1 (Nat.le_refl _),(Nat.log2_lt h).1 (Nat.lt_succ_self _)⟩
theorem Ag3:Aj9 x=0↔x=0:=by
 unfold Aj9;split<;>simp_all
theorem Ah4:Aj9 x<2↔x<2:=by
 by_cases h:x=0
 ·subst h;simp[Aj9]
 ·obtain⟨n,h1,c,e⟩:=Ax2 h
  rw[h1];constructor
  ·intro j
   have:n=0:=by omega
   subst this
   simpa using e
  ·intro v
   cases n with
   | zero=>omega
   | succ n=>
    exfalso;have:=Nat.two_pow_pos n;rw[Nat.pow_succ] at c;omega
theorem Bb9 {n:Nat}(h:x<2^n):Aj9 x<=n:=by
 by_cases c:x=0
 ·subst c;simp[Aj9]
 ·obtain⟨m,h1,e,j⟩:=Ax2 c
  rw[h1];have:2^m<2^n:=by omega
  have:=(Nat.pow_lt_pow_iff_right (by decide:1<2)).1 this;omega
theorem Bg3 (k:Nat)(h:2^k<=x):Aj9 x=k+Aj9 (x/2^k):=by
 have c:=Nat.two_pow_pos k;have e:x/2^k≠0:=by
  have:=Nat.div_pos h c;omega
 obtain⟨n,h1,j,v⟩:=Ax2 e;rw[h1,<-Nat.add_assoc];apply Fh5
 ·rw[Nat.pow_add]
  have:=(Nat.le_div_iff_mul_le c).1 j;rw[Nat.mul_comm];exact this
 ·rw[Nat.add_assoc,Nat.pow_add]
  have:=(Nat.div_lt_iff_lt_mul c).1 v;rw[Nat.mul_comm];exact this
theorem Bp0 (n:Nat):B^n=2^(32*n):=by
 show(2^32)^n=_;rw[<-Nat.pow_mul]
theorem Do4 {t n:Nat}(c:lo<B^n)(e:t≠0):Aj9 (lo+B^n*t)=32*n+Aj9 t:=by
 have h:2^(32*n)<=lo+B^n*t:=by
  rw[Bp0];have:=Nat.mul_le_mul_left (2^(32*n)) (Nat.pos_of_ne_zero e);omega
 rw[Bg3 _ h,<-Bp0,Nat.add_mul_div_left _ _ (Nat.pow_pos Ad3),Nat.div_eq_of_lt c,Nat.zero_add]
theorem Ab1 {n:Nat}(h:n<18446744073709551616):IntKind.wrap .u64 (n:Int)=(n:Int):=by
 rw[IntKind.wrap_u64];omega
theorem Ay2 (n k:Nat):Ah0 (n:Int) k=((n/2^k:Nat):Int):=by
 unfold Ah0;rw[Int.fdiv_eq_ediv_of_nonneg _ (Int.pow_nonneg (by decide))];simp
theorem Dr8 {n:Nat}(h:n*2^k<18446744073709551616):Bc5 .u64 (n:Int) k=((n*2^k:Nat):Int):=by
 unfold Bc5;rw[<-Ab1 h];simp
theorem Fj7 (h:k<=1048576):mn (mx (k:Int) 0) 1048576=(k:Int):=by
 unfold mn mx;split<;>split<;>omega
theorem Eg1 (h:k<=1099511627776):IntKind.wrap .i64 (Int.tdiv (k:Int) 32)=((k/32:Nat):Int):=by
 have:Int.tdiv (k:Int) 32=((k/32:Nat):Int):=by
  rw[Int.tdiv_eq_ediv_of_nonneg (by omega)];rfl
 rw[this];simp[IntKind.wrap,IntKind.bits,IntKind.signed];omega
theorem Em5 (k:Nat):Int.tmod (k:Int) 32=((k%32:Nat):Int):=by
 rw[Int.tmod_eq_emod_of_nonneg (by omega)];rfl
theorem Cs9 {sz:Nat}(h: ∀x∈xs,x.length=sz)(hk:k<=xs.length):(xs.drop k).flatten=xs.flatten.drop (k*sz):=by
 have e:xs.flatten=(xs.take k).flatten ++ (xs.drop k).flatten:=by rw[<-List.flatten_append,List.take_append_drop]
 have c:(xs.take k).flatten.length=k*sz:=by
  clear e
  induction xs generalizing k with
  | nil=>
   have:k=0:=by simpa using hk
   subst this;simp
  | cons x r ih=>
   cases k with
   | zero=>simp
   | succ k=>
    simp only[List.take_succ_cons,List.flatten_cons,List.length_append];rw[ih (λ y j=>h y (List.mem_cons_of_mem _ j)) (by simpa using hk),h x (List.mem_cons_self ..),Nat.add_mul];omega
 rw[e,List.drop_left' c]
theorem Row.cut {sz:Nat}(h:Row W t sz s xs)(h1:lo<=hi)(w:hi<=xs.length):Row W t sz (s.cut sz lo hi) ((xs.take hi).drop lo):=by
 obtain⟨I,J,L,n,A⟩:=h;refine⟨?_,?_,?_,λ x c=>n x (List.mem_of_mem_take (List.mem_of_mem_drop c)),?_⟩
 ·show hi-lo=_
  simp;omega
 ·show hi-lo<=s.c-lo;omega
 ·show s.c-lo<=maxLen;omega
 ·by_cases he:lo=hi
  ·left
   apply List.eq_nil_of_length_eq_zero;simp;omega
  ·rcases A with rfl | ⟨b,o,cs,B,C,D,E,F⟩
   ·simp at w;omega
   ·refine .inr ⟨b,o+lo*sz,cs,B,?_,D,E,λ j v e=>?_⟩
    ·unfold Sl.cut
     rw[if_neg (by omega)];simp[C,Addr.add]
    ·have G:lo<=(xs.take hi).length:=by simp;omega
     rw[Cs9 (λ x c=>(n x (List.mem_of_mem_take c)).1) G,List.getElem?_drop] at e;have:xs.flatten=(xs.take hi).flatten ++ (xs.drop hi).flatten:=by rw[<-List.flatten_append,List.take_append_drop]
     have H:xs.flatten[lo*sz+j]?=Option.some v:=by
      rw[this,List.getElem?_append_left (List.getElem?_eq_some_iff.1 e).1];exact e
     have:=F _ _ H
     rwa [Nat.add_assoc]
theorem Ad4.cut (h:Ad4 t W s l)(h1:lo<=hi)(c:hi<=l.length):Ad4 t W (s.cut 1 lo hi) ((l.take hi).drop lo):=by
 have:=Row.cut h (lo:=lo) (hi:=hi) h1 (by rw[Aa5];exact c);have e:((cel l).take hi).drop lo=cel ((l.take hi).drop lo):=by simp[cel,List.map_take,List.map_drop]
 rwa [e] at this
theorem Own.mut (h:Own W t 1 s (cel us))(C:us≠[]): ∃g cs,Mut W t s g 0 cs us/\s.v.ownBlock=some g:=by
 have D:=h.row;obtain⟨E,F,G,_,_⟩:=D;obtain⟨⟨N,hlen,H⟩,I⟩:=h;rcases H with⟨n,e⟩ | ⟨g,cap,cur,n,e,J,h1,O,L,w⟩
 ·exact absurd (by rw[Aa5] at e;exact List.eq_nil_of_length_eq_zero e) C
 ·have A:s.A=some ⟨g,0,none⟩/\s.n=(cel us).length/\s.c=cap:=by simpa[Sl.v] using n
  have B:s.v.ownBlock=some g:=by simp[Sl.v,Value.ownBlock,A.1]
  refine⟨g,cur,⟨A.1,by rw[E,Aa5],F,G,I g B,J,?_,λ j v c=>?_⟩,B⟩
  ·rw[Aa5] at h1
   rw[L];omega
  ·rw[Al2] at w
   rw[<-w] at c;rw[List.getElem?_take] at c;split at c
   ·simpa using c
   ·cases c
def Aq4 (W:PW) (s:Sl):Prop:=∀g,s.v.ownBlock=some g->W.w.heap.size<=g
theorem Aq4.back (h:Aq4 W' s)(c:Ext W W'):Aq4 W s:=λ g e=>Nat.le_trans c.size (h g e)
theorem Bt4 (h:x≠0): ∃hk:nl x-1<(dg x).length,(dg x)[nl x-1]≠0/\(dg x)[nl x-1]<B/\x=val ((dg x).take (nl x-1))+B^(nl x-1)*(dg x)[nl x-1]:=by
 have j:nl x≠0:=λ e=>h (Ad0.1 e);have c:(dg x).length=nl x:=rfl;have hk:nl x-1<(dg x).length:=by omega
 refine⟨hk,?_,(Ad8 x).at hk,?_⟩
 ·have:=Df1 x
  unfold Trim at this;rw[List.getLast?_eq_getElem?] at this;rw[c,List.getElem?_eq_getElem hk] at this;exact λ e=>this (by rw[e])
 ·rw[<-Aa4 hk,show nl x-1+1=(dg x).length by omega,List.take_length,Ac5]
theorem Ad4.atq (h:Ad4 t W s l)(hi:l[i]?=Option.some d):Aa7 W s 1 i 0 [.int .u32 (d:Int)]:=
 Row.elem h (x:=[.int .u32 (d:Int)]) (by simp[cel,hi]) λ j v c=>by simpa using c
theorem Ar7 {W0:PW}{M:Nat->Prop}{g:Nat}{o:Nat}{cs:Array Value}{ws:List Nat}{K:PW->Prop}{A:PW}(j:Mut A t s g o cs us)(e:Aq5 A W g cs t o (cv ws))(n:ws.length=us.length)(hi:i<ws.length)(v:may W0 M g)(w: ∀c,Aq5 A c g cs t o (cv (ws.set i d))->K c):An9 W0 M s i [.int .u32 (d:Int)] W K:=by
 intro W' h;have hm:=(j.put e n).ext h;refine⟨g,o,_,t,hm.A,hm.S,hm.heap,?_,v,λ c B=>w c ?_⟩
 ·have:=hm.room
  show o+i+1<=_;omega
 ·have:=(e.ext' h).then (p:=o+i) (ws:=[d]) B (by omega) (by simp;omega)
  rw[show o+i-o=i by omega] at this;rw[Fd8 ws i d hi];exact this
theorem Eo4 {A R:List Nat}(c:A.length=p)(hi:i<T.length):(A ++ T ++ R)[p+i]?=T[i]?:=by
 rw[List.append_assoc,List.getElem?_append_right (by omega),c,Nat.add_sub_cancel_left,List.getElem?_append_left hi]
theorem Ef6 {A R:List Nat}(c:A.length=p)(hi:i<T.length):(A ++ T ++ R).set (p+i) d=A ++ T.set i d ++ R:=by
 rw[List.append_assoc,List.set_append_right _ _ (by omega),c,Nat.add_sub_cancel_left,List.set_append_left _ _ hi,List.append_assoc]
end Go.SX
namespace Go.SX
variable {W W':PW}{a b q:Rat}{k l y:Nat}{s:Sl}{t:TypeId}{x z:Int}
def Ab5 (t:TypeId) (W:PW) (s:Sl) (b:Bool) (z:Int):Prop:=Aa6 t W s z.natAbs/\b=decide (z<0)
def dn (q:Rat):Nat:=if q.den=1 then 0 else q.den
def Ab3 (t:TypeId) (W:PW) (s:Sl) (b:Bool) (s':Sl) (q:Rat):Prop:=Ab5 t W s b q.num/\Aa6 t W s' (dn q)
theorem Ab5.ext {b:Bool}(h:Ab5 t W s b z)(c:Ext W W'):Ab5 t W' s b z:=⟨h.1.ext c,h.2⟩
theorem Ab3.ext {s':Sl}{b:Bool}(h:Ab3 t W s b s' q)(c:Ext W W'):Ab3 t W' s b s' q:=⟨h.1.ext c,h.2.ext c⟩
theorem En9 (q:Rat):max (dn q) 1=q.den:=by
 unfold dn;have:=q.den_pos;split<;>omega
theorem Fq5 (q:Rat):dn q<=q.den:=by
 unfold dn;split<;>omega
def Sz (k:Nat) (q:Rat):Prop:=nl q.num.natAbs<=k/\nl q.den<=k
theorem Sz.mono {k':Nat}(h:Sz k q)(hk:k<=k'):Sz k' q:=⟨Nat.le_trans h.1 hk,Nat.le_trans h.2 hk⟩
theorem Sz.dn (h:Sz k q):nl (dn q)<=k:=Nat.le_trans (Ad1 (Fq5 q)) h.2
theorem Cx2 (z:Int)(y:Nat):(mkRat z y).num.natAbs<=z.natAbs:=by
 rw[Rat.num_mkRat];split
 ·simp
 ·rename_i h
  have:z.natAbs/y.gcd z.natAbs<=z.natAbs:=Nat.div_le_self ..;have e:(z/(y.gcd z.natAbs:Int)).natAbs=z.natAbs/y.gcd z.natAbs:=by
   rw[Int.natAbs_ediv_of_dvd]
   ·simp
   ·exact Int.ofNat_dvd_left.2 (Nat.gcd_dvd_right ..)
  omega
theorem Cr5 (z:Int)(h:y≠0):(mkRat z y).den<=y:=by
 rw[Rat.den_mkRat,if_neg h];exact Nat.div_le_self ..
theorem Sz.mk (h1:nl z.natAbs<=k)(c:nl y<=k)(h:y≠0):Sz k (mkRat z y):=
 ⟨Nat.le_trans (Ad1 (Cx2 z y)) h1,Nat.le_trans (Ad1 (Cr5 z h)) c⟩
theorem Sz.mul (c:Sz k a)(e:Sz l b):Sz (k+l) (a*b):=by
 rw[Rat.mul_def'];refine Sz.mk ?_ ?_ (Nat.mul_ne_zero a.den_nz b.den_nz)
 ·rw[Int.natAbs_mul]
  exact Nat.le_trans (Ae5 _ _) (Nat.add_le_add c.1 e.1)
 ·exact Nat.le_trans (Ae5 _ _) (Nat.add_le_add c.2 e.2)
theorem Cw6 {x:Nat}(c:nl x<=k)(e:nl y<=k):nl (x+y)<=k+1:=by
 have:=By9 x y;omega
theorem Sz.add (c:Sz k a)(e:Sz l b):Sz (k+l+1) (a+b):=by
 rw[Rat.add_def'];refine Sz.mk ?_ ?_ (Nat.mul_ne_zero a.den_nz b.den_nz)
 ·have h1:nl (a.num*b.den).natAbs<=k+l:=by
   rw[Int.natAbs_mul];exact Nat.le_trans (Ae5 _ _) (Nat.add_le_add c.1 e.2)
  have h:nl (b.num*a.den).natAbs<=k+l:=by
   rw[Int.natAbs_mul];exact Nat.le_trans (Ae5 _ _) (by have:=Nat.add_le_add e.1 c.2;simp at this⊢;omega)
  exact Nat.le_trans (Ad1 (Int.natAbs_add_le _ _)) (Cw6 h1 h)
 ·exact Nat.le_trans (Ae5 _ _) (by have:=Nat.add_le_add c.2 e.2;omega)
theorem Sz.neg (c:Sz k a):Sz k (-a):=⟨by simpa using c.1,c.2⟩
theorem Sz.sub (c:Sz k a)(e:Sz l b):Sz (k+l+1) (a-b):=by
 rw[Rat.sub_eq_add_neg];exact c.add e.neg
theorem Ax0:nl 1=1:=by
 have h1:nl 1<=1:=Bc6 (by decide);have c:nl 1≠0:=λ h=>by have:=Ad0.1 h;omega
 omega
theorem Sz.inv (c:Sz k a)(hk:1<=k):Sz k a⁻¹:=by
 refine⟨?_,?_⟩
 ·rw[Rat.num_inv,Int.natAbs_mul]
  have:a.num.sign.natAbs<=1:=by
   rcases Int.sign_trichotomy a.num with h | h | h<;>rw[h]<;>decide
  refine Nat.le_trans (Ad1 (Nat.mul_le_mul_right _ this)) ?_
  simpa using c.2
 ·rw[Rat.den_inv]
  split
  ·rw[Ax0];exact hk
  ·exact c.1
theorem Sz.div (c:Sz k a)(e:Sz l b)(h:1<=l):Sz (k+l) (a/b):=by
 rw[Rat.div_def];exact c.mul (e.inv h)
theorem Sz.zero (hk:1<=k):Sz k 0:=⟨by simp[Ag9],by simpa[Ax0] using hk⟩
theorem Sz.one (hk:1<=k):Sz k 1:=⟨by simpa[Ax0] using hk,by simpa[Ax0] using hk⟩
def As4 (x y:Int):Int:=if x<y then -1 else if x=y then 0 else 1
def By8 (x:Int):Int:=if x<0 then -1 else if x=0 then 0 else 1
def Co4 (x y:Rat):Int:=if x<y then -1 else if x=y then 0 else 1
theorem Bh1 {y:Int}(h:x<y):As4 x y = -1:=by rw[As4,if_pos h]
theorem Bw1 {y:Int}(h:x=y):As4 x y=0:=by rw[As4,if_neg (by omega),if_pos h]
theorem Bh3 {y:Int}(h:y<x):As4 x y=1:=by rw[As4,if_neg (by omega),if_neg (by omega)]
theorem Dn0 (a b:Rat):As4 (a.num*b.den) (b.num*a.den)=Co4 a b:=by
 unfold As4 Co4;simp only[Rat.lt_iff a b,Rat.eq_iff_mul_eq_mul (p:=a) (q:=b)]
theorem Be6 (a b:Rat):Co4 a b=0↔a=b:=by
 unfold Co4;split
 ·rename_i h
  constructor
  ·intro h;cases h
  ·rintro rfl;exact(Rat.lt_irrefl h).elim
 ·split<;>simp_all
theorem Bo6 (a:Rat):By8 a.num=Co4 a 0:=by
 rw[<-Dn0];simp[By8,As4]
end Go.SX
namespace Go.SX
variable {W W':PW}{b:Bool}{f:Nat->Rat}{i n0 r:Nat}{m:Nat->Nat->Rat}{q:Rat}{s s':Sl}{t tq ts tu:TypeId}{xs:List (List Value)}
abbrev Eo1 (n0:Nat) (W W':PW):Prop:=Au9 (λ b=>n0<=b) W W'
theorem Row.new {sz:Nat}(h:Row W t sz s xs)(e:Eo1 n0 W W')(E:W.w.heap.size<=n0):Row W' t sz s xs:=by
 obtain⟨h1,j,hm,n,v⟩:=h;refine⟨h1,j,hm,n,?_⟩;rcases v with rfl | ⟨b,o,cs,w,A,B,c,C⟩
 ·exact .inl rfl
 ·have D:=(Array.getElem?_eq_some_iff.1 c).1
  have hk:=e.Ai1 b D B (by show ¬n0<=b;omega);exact .inr ⟨b,o,cs,w,A,hk.2,hk.1.trans c,C⟩
theorem Row.put {c:TypeId}{cs:Array Value}{j:Nat×Nat}{sz:Nat}{g:Nat}(h:Row W t sz s xs)(n:Au9 (· = g) W W')(v:W.w.heap[g]?=Option.some (Obj.cells cs c j))(w:t≠c):Row W' t sz s xs:=
 Row.Fi9 h n λ b A B C e=>by
  subst A;rw[v] at e;cases e;exact absurd rfl w
theorem Aa6.new {x:Nat}(h:Aa6 t W s x)(c:Eo1 n0 W W')(e:W.w.heap.size<=n0):Aa6 t W' s x:=Row.new h c e
theorem Ab3.new (h:Ab3 t W s b s' q)(c:Eo1 n0 W W')(e:W.w.heap.size<=n0):Ab3 t W' s b s' q:=⟨⟨h.1.1.new c e,h.1.2⟩,h.2.new c e⟩
def Qs (t:TypeId) (W:PW) (xs:List (List Value)) (n:Nat) (f:Nat->Rat):Prop:=
 xs.length=n/\∀i,i<n->∃(s:Sl) (b:Bool) (s':Sl),xs[i]?=some [s.v,.bool b,s'.v]/\Ab3 t W s b s' (f i)
theorem Qs.ext {n:Nat}(h:Qs t W xs n f)(c:Ext W W'):Qs t W' xs n f:=
 ⟨h.1,λ i hi=>let⟨s,b,s',h1,e⟩:=h.2 i hi;⟨s,b,s',h1,e.ext c⟩⟩
theorem Qs.new {n:Nat}(h:Qs t W xs n f)(c:Eo1 n0 W W')(e:W.w.heap.size<=n0):Qs t W' xs n f:=
 ⟨h.1,λ i hi=>let⟨s,b,s',h1,j⟩:=h.2 i hi;⟨s,b,s',h1,j.new c e⟩⟩
theorem Qs.set {n:Nat}(h:Qs t W xs n f)(hi:i<n)(c:Ab3 t W s b s' q):Qs t W (xs.set i [s.v,.bool b,s'.v]) n (λ k=>if k=i then q else f k):=by
 refine⟨by simpa using h.1,λ k hk=>?_⟩;have j:=h.1
 by_cases e:k=i
 ·subst e
  exact⟨s,b,s',by simp[j,hk],by simpa using c⟩
 ·obtain⟨s1,b1,v,h1,w⟩:=h.2 k hk
  exact⟨s1,b1,v,by rw[List.getElem?_set_ne (λ h=>e h.symm)];exact h1,by simpa[e] using w⟩
theorem Qs.congr {g:Nat->Rat}{n:Nat}(h:Qs t W xs n f)(c: ∀i,i<n->f i=g i):Qs t W xs n g:=
 ⟨h.1,λ i hi=>by rw[<-c i hi];exact h.2 i hi⟩
def Gv6 (tu tq:TypeId) (W:PW) (s:Sl) (n:Nat) (f:Nat->Rat):Prop:=∃xs,Row W tq 3 s xs/\Qs tu W xs n f
theorem Gv6.ext {n:Nat}(h:Gv6 tu tq W s n f)(c:Ext W W'):Gv6 tu tq W' s n f:=let⟨xs,h1,e⟩:=h;⟨xs,h1.ext c,e.ext c⟩
theorem Gv6.new {n:Nat}(h:Gv6 tu tq W s n f)(c:Eo1 n0 W W')(e:W.w.heap.size<=n0):Gv6 tu tq W' s n f:=let⟨xs,h1,j⟩:=h;⟨xs,h1.new c e,j.new c e⟩
theorem Gv6.n {n:Nat}(h:Gv6 tu tq W s n f):s.n=n:=let⟨xs,h1,c⟩:=h;h1.1.trans c.1
theorem Gv6.inB {n:Nat}(h:Gv6 tu tq W s n f){i:Int}(c:0<=i)(h1:i<(n:Int)):inB s i:=by
 have w:=h.n;obtain⟨xs,j,v⟩:=h;refine⟨c,by omega,Row.some j λ e=>?_⟩;subst e;have:=v.1;simp at this;omega
theorem Gv6.at {n:Nat}(h:Gv6 tu tq W s n f)(hi:i<n): ∃(s1:Sl) (b:Bool) (s2:Sl),Aa7 W s 3 i 0 [s1.v,.bool b,s2.v]/\Ab3 tu W s1 b s2 (f i):=by
 obtain⟨xs,c,e⟩:=h;obtain⟨s1,b,s2,h1,w⟩:=e.2 i hi;exact⟨s1,b,s2,Row.elem c h1 λ j v A=>by simpa using A,w⟩
def Gf9 (tu tq ts:TypeId) (W:PW) (s:Sl) (r:Nat) (c:Nat->Nat) (m:Nat->Nat->Rat):Prop:=
 ∃e:List Sl,Row W ts 1 s (e.map λ x=>[x.v])/\e.length=r/\∀i (h:i<e.length),Gv6 tu tq W e[i] (c i) (m i)
theorem Gf9.ext {c:Nat->Nat}(h:Gf9 tu tq ts W s r c m)(e:Ext W W'):Gf9 tu tq ts W' s r c m:=
 let⟨j,h1,n,v⟩:=h;⟨j,h1.ext e,n,λ i hi=>(v i hi).ext e⟩
theorem Gf9.new {c:Nat->Nat}(h:Gf9 tu tq ts W s r c m)(e:Eo1 n0 W W')(j:W.w.heap.size<=n0):Gf9 tu tq ts W' s r c m:=
 let⟨n,h1,v,w⟩:=h;⟨n,h1.new e j,v,λ i hi=>(w i hi).new e j⟩
theorem Gf9.n {c:Nat->Nat}(h:Gf9 tu tq ts W s r c m):s.n=r:=let⟨j,h1,e,_⟩:=h;h1.1.trans (by simpa using e)
theorem Gf9.inB {c:Nat->Nat}(h:Gf9 tu tq ts W s r c m){i:Int}(j:0<=i)(h1:i<(r:Int)):inB s i:=by
 have A:=h.n;obtain⟨n,v,w,_⟩:=h;refine⟨j,by omega,Row.some v λ e=>?_⟩;have:n = []:=by simpa using e
 subst this;simp at w;omega
theorem Gf9.at {c:Nat->Nat}(h:Gf9 tu tq ts W s r c m)(hi:i<r): ∃x:Sl,Aa7 W s 1 i 0 [x.v]/\Gv6 tu tq W x (c i) (m i):=by
 obtain⟨e,w,C,A⟩:=h;have n:i<e.length:=by omega
 exact⟨e[i],Row.elem w (x:=[e[i].v]) (by simp[n]) λ j v B=>by simpa using B,A i n⟩
theorem Aa7.inj {off:Nat}{l:List Value}{e:List Value}{sz:Nat}(h:Aa7 W s sz i off l)(B:Aa7 W s sz i off e)(n:l.length=e.length):l=e:=by
 obtain⟨b,o,cs,t,G,C,_,D,E⟩:=h;obtain⟨b',o',H,I,J,v,_,w,F⟩:=B;rw[C] at v;cases v;rw[D] at w;cases w;apply List.ext_getElem?;intro j
 by_cases c:j<l.length
 ·have h1:=E j _ (List.getElem?_eq_getElem c)
  have A:=F j _ (List.getElem?_eq_getElem (n ▸ c));rw[h1] at A;rw[List.getElem?_eq_getElem c,List.getElem?_eq_getElem (n ▸ c),Option.some.inj A]
 ·rw[List.getElem?_eq_none (by omega),List.getElem?_eq_none (by omega)]
end Go.SX
namespace Go.SX
variable {f:Nat->Rat}
def Mu5 (f:Nat->Rat):Nat->Rat
 | 0=>0
 | k+1=>Mu5 f k+f k
theorem Mu6 {g:Nat->Rat}: ∀{n:Nat} (_: ∀j,j<n->f j=g j),Mu5 f n=Mu5 g n
 | 0,_=>rfl
 | n+1,h=>by
  simp only[Mu5];rw[Mu6 (λ j c=>h j (by omega)),h n (by omega)]
theorem Mv9 {f:Nat->Rat}{k:Nat}: ∀{n:Nat} (_:k<=n) (_: ∀j,k<=j->j<n->f j=0),Mu5 f n=Mu5 f k
 | 0,hk,_=>by
  have:k=0:=by omega
  subst this;rfl
 | n+1,hk,h=>by
  by_cases e:k=n+1
  ·subst e;rfl
  ·simp only[Mu5]
   rw[Mv9 (k:=k) (by omega) (λ j h1 c=>h j h1 (by omega)),h n (by omega) (by omega),Rat.add_zero]
theorem Mv7 {n:Nat}(h: ∀j,j<n->f j=0):Mu5 f n=0:=by
 rw[Mv9 (k:=0) (Nat.zero_le _) (λ j _ c=>h j c)];rfl
theorem Mv4 {k:Nat}{n:Nat}(hk:k<n)(h: ∀j,j<n->j≠k->f j=0):Mu5 f n=f k:=by
 rw[Mv9 (k:=k+1) hk (λ j h1 c=>h j c (by omega))];simp only[Mu5];rw[Mv7 (λ j e=>h j (by omega) (by omega)),Rat.zero_add]
def Nl0 (a b:Nat->Nat->Rat) (p i k:Nat):Rat:=Mu5 (λ j=>a i j*b j k) p
end Go.SX
