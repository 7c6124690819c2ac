import Derived.Test.YtkgeopnakkcdoaaGreatDoorLib5
import Derived.Test.YtkgeopnakkcdoaaGreatDoorLib4
set_option linter.unusedVariables false
set_option linter.unusedSimpArgs false
namespace Go.SX
variable {a b:Rat}{x:Iv}
def Ft1 (x y:Iv):Prop:=y.1<=x.1/\x.2<=y.2
def ovS (l:Nat->Iv):List Tm->Iv
 | []=>(0,0)
 | t::r=>Cb5 (Ci9 l t 3) (ovS l r)
theorem Gc1 (l:Nat->Iv): ∀(p:List Tm) (a:Iv),p.foldl (λ a t=>Cb5 a (Ci9 l t 3)) a=Cb5 a (ovS l p)
 | [],a=>Prod.ext (Rat.add_zero _).symm (Rat.add_zero _).symm
 | t::p,a=>by
  rw[List.foldl_cons,Gc1 l p,ovS];exact Prod.ext (Rat.add_assoc _ _ _) (Rat.add_assoc _ _ _)
theorem Gc3 (l:Nat->Iv)(p:List Tm):Aq8 l p=ovS l p:=by
 rw[Aq8,Gc1];exact Prod.ext (Rat.zero_add _) (Rat.zero_add _)
theorem Hf9 (l:Nat->Iv): ∀p q:List Tm,ovS l (p ++ q)=Cb5 (ovS l p) (ovS l q)
 | [],q=>Prod.ext (Rat.zero_add _).symm (Rat.zero_add _).symm
 | t::p,q=>by
  rw[List.cons_append,ovS,Hf9 l p q,ovS];exact Prod.ext (Rat.add_assoc _ _ _).symm (Rat.add_assoc _ _ _).symm
theorem Ht6 {c:Rat}(d:0<=c)(a b:Rat):Az9 (a*c) (b*c)=Az9 a b*c/\Au7 (a*c) (b*c)=Au7 a b*c:=by
 unfold Az9 Au7
 by_cases h:b<=a
 ·have:=Rat.mul_nonneg (show 0<=a-b by grind) d
  constructor<;>(repeat' split)<;>grind
 ·have:=Rat.mul_nonneg (show 0<=b-a by grind) d
  constructor<;>(repeat' split)<;>grind
theorem Ht7 {c:Rat}(d:c<=0)(a b:Rat):Az9 (a*c) (b*c)=Au7 a b*c/\Au7 (a*c) (b*c)=Az9 a b*c:=by
 unfold Az9 Au7
 by_cases h:b<=a
 ·have:=Rat.mul_nonneg (show 0<=a-b by grind) (show 0<=-c by grind)
  constructor<;>(repeat' split)<;>grind
 ·have:=Rat.mul_nonneg (show 0<=b-a by grind) (show 0<=-c by grind)
  constructor<;>(repeat' split)<;>grind
theorem Ht1 (h:a<=b):Az9 a b=a/\Au7 a b=b:=by
 unfold Az9 Au7;constructor<;>split<;>grind
theorem Ht2 {c:Rat}(d:0<=c)(e:x.1<=x.2):De8 x c=(x.1*c,x.2*c):=by
 unfold De8 Ag0;rw[(Ht6 d _ _).1,(Ht6 d _ _).2,(Ht1 e).1,(Ht1 e).2]
theorem Ht3 {c:Rat}(d:c<=0)(e:x.1<=x.2):De8 x c=(x.2*c,x.1*c):=by
 unfold De8 Ag0;rw[(Ht7 d _ _).1,(Ht7 d _ _).2,(Ht1 e).1,(Ht1 e).2]
theorem Ht8 (a b:Rat):Az9 a b=Az9 b a:=by unfold Az9;(repeat' split)<;>grind
theorem Hu0 (a b:Rat):Au7 a b=Au7 b a:=by unfold Au7;(repeat' split)<;>grind
theorem Hw6 (p q r s:Rat):Az9 (Az9 p q) (Az9 r s)=Az9 (Az9 s r) (Az9 q p):=by rw[Ht8 (Az9 p q),Ht8 p q,Ht8 r s]
theorem Hw4 (p q r s:Rat):Au7 (Au7 p q) (Au7 r s)=Au7 (Au7 s r) (Au7 q p):=by rw[Hu0 (Au7 p q),Hu0 p q,Hu0 r s]
theorem Hv7 (e:x.1<=x.2)(y:Iv)(c:Rat):Ay9 (De8 x c) y=De8 (Ay9 x y) c:=by
 have hm:=Ew6 x y;have r: ∀a b:Rat,a*c*b=a*b*c:=λ a b=>by grind
 by_cases d:0<=c
 ·rw[Ht2 d e,Ht2 d hm]
  unfold Ay9 Bu9 Ag0;simp only[r,(Ht6 d _ _).1,(Ht6 d _ _).2]
 ·have d:c<=0:=by grind
  rw[Ht3 d e,Ht3 d hm];unfold Ay9 Bu9 Ag0;simp only[r,(Ht7 d _ _).1,(Ht7 d _ _).2];refine Prod.ext ?_ ?_
  ·show Au7 (Au7 _ _) (Au7 _ _)*c=Au7 (Au7 _ _) (Au7 _ _)*c
   rw[Hw4]
  ·show Az9 (Az9 _ _) (Az9 _ _)*c=Az9 (Az9 _ _) (Az9 _ _)*c
   rw[Hw6]
theorem Ht4 (l:Nat->Iv)(m:Mon)(c:Rat): ∀j,Ci9 l (m,c) j=De8 (Ci9 l (m,1) j) c
 | 0=>by
  show Eb6 c=De8 (Eb6 1) c;unfold Eb6 De8 Ag0;rw[Rat.one_mul,(Ht1 Rat.le_refl).1,(Ht1 Rat.le_refl).2]
 | j+1=>by
  rw[Ci9,Ci9];split
  ·rw[Ht4 l m c j,Hv7 (Eq7 l _ j)]
  ·exact Ht4 l m c j
theorem Hu5 (x:Iv):De8 x 0=(0,0):=by
 unfold De8 Ag0;rw[Rat.mul_zero,Rat.mul_zero,(Ht1 Rat.le_refl).1,(Ht1 Rat.le_refl).2]
theorem Hv2 {t:Tm}(l:Nat->Iv)(h:t.2=0):Ci9 l t 3=(0,0):=by
 rw[show t=(t.1,t.2) from rfl,Ht4,h,Hu5]
theorem Br1 {a b : Rat}(c : 0 <= b)(h : b <= a): ∀ n : Nat, ((n + 1 : Nat) : Rat) * (a - b) * b ^ n <= a ^ (n + 1) - b ^ (n + 1) /\ a ^ (n + 1) - b ^ (n + 1) <= ((n + 1 : Nat) : Rat) * (a - b) * a ^ n
  | 0 => by
    simp only [Rat.pow_succ, Rat.pow_zero];constructor<;>grind
  | n + 1 => by
    obtain ⟨h1, k⟩ := Br1 c h n;have f : 0 <= a := by grind
    have g := Az6 c n;have m := Az6 f n;have o := As3 c h n;have e : ((n + 1 + 1 : Nat) : Rat) = ((n + 1 : Nat) : Rat) + 1 := by push_cast; rfl
    have j : (0 : Rat) <= ((n + 1 : Nat) : Rat) := by have := Rat.natCast_nonneg (a := n + 1); exact this
    have p := Rat.mul_nonneg (show 0 <= a ^ (n + 1) - b ^ (n + 1) - ((n + 1 : Nat) : Rat) * (a - b) * b ^ n by grind) f;have r := Rat.mul_nonneg (show 0 <= ((n + 1 : Nat) : Rat) * (a - b) * a ^ n - (a ^ (n + 1) - b ^ (n + 1)) by grind) f;have d : 0 <= a - b := by grind
    have s := Rat.mul_nonneg (Rat.mul_nonneg (Rat.mul_nonneg j d) g) d;have t := Rat.mul_nonneg (show 0 <= a ^ (n + 1) - b ^ (n + 1) by have := As3 c h (n + 1); grind) d;rw [e];generalize ((n + 1 : Nat) : Rat) = N at *;rw [Rat.pow_succ a (n + 1), Rat.pow_succ b (n + 1)];rw [Rat.pow_succ a n, Rat.pow_succ b n] at *;generalize a ^ n = A at *;generalize b ^ n = B at *;constructor<;>grind
theorem Ex7 (c:inI x a)(f:inI x b)(h:b<=a)(n:Nat):((n+1:Nat):Rat)*(a-b)*(Ai3 x n).1<=a^(n+1)-b^(n+1)/\a^(n+1)-b^(n+1)<=((n+1:Nat):Rat)*(a-b)*(Ai3 x n).2:=by
 have u:(0:Rat)<=((n+1:Nat):Rat):=Rat.natCast_nonneg;have fin: ∀{a b L U S A B:Rat},b<=a->L<=A->A<=U->L<=B->B<=U->((n+1:Nat):Rat)*(a-b)*A<=S->S<=((n+1:Nat):Rat)*(a-b)*B->((n+1:Nat):Rat)*(a-b)*L<=S/\S<=((n+1:Nat):Rat)*(a-b)*U:=fun {a b L U S A B} h h1 g v w y C=>by
  have d:=Rat.mul_nonneg u (show 0<=a-b by grind);have E:=Rat.mul_nonneg d (show 0<=A-L by grind);have F:=Rat.mul_nonneg d (show 0<=U-B by grind);generalize ((n+1:Nat):Rat)*(a-b)=D at *;constructor<;>grind
 have pos: ∀{a b:Rat},inI x a->inI x b->0<=b->b<=a->((n+1:Nat):Rat)*(a-b)*(Ai3 x n).1<=a^(n+1)-b^(n+1)/\a^(n+1)-b^(n+1)<=((n+1:Nat):Rat)*(a-b)*(Ai3 x n).2:=fun {a b} c f j h=>by
  have s:=Br1 j h n;have p:=Da5 c n;have q:=Da5 f n;exact fin h q.1 q.2 p.1 p.2 s.1 s.2
 have neg: ∀{a b:Rat},inI x a->inI x b->a<=0->b<=a->((n+1:Nat):Rat)*(a-b)*(Ai3 x n).1<=a^(n+1)-b^(n+1)/\a^(n+1)-b^(n+1)<=((n+1:Nat):Rat)*(a-b)*(Ai3 x n).2:=fun {a b} c f j h=>by
  have s:=Br1 (a:=-b) (b:=-a) (by grind) (by grind) n;have p:=Da5 c n;have q:=Da5 f n;have k:=Ap2 a n;have m:=Ap2 b n;have o:=Ap2 a (n+1);have r:=Ap2 b (n+1);rw[show -b - -a=a-b by grind] at s;rcases(by omega:n%2=0\/n%2=1) with e | e
  ·rw[o.2 (by omega),r.2 (by omega),k.1 e,m.1 e] at s
   exact fin h p.1 p.2 q.1 q.2 (by grind) (by grind)
  ·rw[o.1 (by omega),r.1 (by omega),k.2 e,m.2 e] at s
   exact fin h q.1 q.2 p.1 p.2 (by grind) (by grind)
 by_cases h1:0<=b
 ·exact pos c f h1 h
 ·by_cases g:a<=0
  ·exact neg c f g h
  ·have z:inI x 0:=⟨Rat.le_trans f.1 (by grind),Rat.le_trans (by grind) c.2⟩
   have s:=pos c z Rat.le_refl (by grind);have t:=neg z f Rat.le_refl (by grind);rw[Bl8 (Nat.succ_pos n)] at s t;generalize ((n+1:Nat):Rat)=N at *;constructor<;>grind
theorem Fu7 (c:inI x a)(d:inI x b)(n:Nat): ∃g,inI (Ai3 x n) g/\a^(n+1)-b^(n+1)=((n+1:Nat):Rat)*g*(a-b):=by
 have m:(0:Rat)<((n+1:Nat):Rat):=by have:=Rat.natCast_pos (a:=n+1);exact this.2 (Nat.succ_pos n)
 have main: ∀{a b:Rat},inI x a->inI x b->b<a->∃g,inI (Ai3 x n) g/\a^(n+1)-b^(n+1)=((n+1:Nat):Rat)*g*(a-b):=fun {a b} c d h=>by
  obtain⟨s1,s2⟩:=Ex7 c d (Rat.le_of_lt h) n;have f:(0:Rat)<((n+1:Nat):Rat)*(a-b):=Rat.mul_pos m (by grind);generalize a^(n+1)-b^(n+1)=S at *;have q1:(Ai3 x n).1<=S/(((n+1:Nat):Rat)*(a-b)):=Rat.not_lt.1 λ h=>absurd ((Rat.div_lt_iff f).1 h) (Rat.not_lt.2 (by rw[Rat.mul_comm];exact s1));have o:S/(((n+1:Nat):Rat)*(a-b))<=(Ai3 x n).2:=Rat.not_lt.1 λ h=>absurd ((Rat.lt_div_iff f).1 h) (Rat.not_lt.2 (by rw[Rat.mul_comm];exact s2));have k:=Rat.div_mul_cancel (a:=S) (b:=((n+1:Nat):Rat)*(a-b)) (λ e=>by rw[e] at f;exact absurd f (by decide));refine⟨_,⟨q1,o⟩,?_⟩;generalize S/(((n+1:Nat):Rat)*(a-b))=g at k;generalize ((n+1:Nat):Rat)=N at k;grind
 by_cases h1:b<a
 ·exact main c d h1
 ·by_cases j:a<b
  ·obtain⟨g,h1,j⟩:=main d c j
   exact⟨g,h1,by generalize ((n+1:Nat):Rat)=N at j⊢;grind⟩
  ·have:a=b:=by grind
   subst this;exact⟨a^n,Da5 c n,by generalize ((n+1:Nat):Rat)=N;grind⟩
end Go.SX
namespace Go.SX
variable {W W':PW}{b0 b1 b2:Bool}{bs:List Iv}{i:Nat}{l:List Value}{q:Nat->Rat}{s0 s1 s2 t0 t1 t2:Sl}{tu:TypeId}{ys:List (List Value)}
def QtV (tu:TypeId) (W:PW) (l:List Value) (q:Rat):Prop:=∃(s:Sl) (b:Bool) (t:Sl),l = [s.v,.bool b,t.v]/\Ab3 tu W s b t q
theorem QtV.ext {q:Rat}(h:QtV tu W l q)(c:Ext W W'):QtV tu W' l q:=let⟨s,b,t,e,h⟩:=h;⟨s,b,t,e,h.ext c⟩
abbrev Hq6 (tu:TypeId):=Dr1 (QtV tu) 3
def Bm3 (bs:List Iv) (i:Nat):Iv:=bs.getD i (0,0)
def Ga6 (x:Iv):Rat:=(x.1+x.2)/2
def He4 (x y:Iv):Iv:=(x.1-y.2,x.2-y.1)
def z18:List Value:=[.slice none 0 0,.bool false,.slice none 0 0,.slice none 0 0,.bool false,.slice none 0 0,.slice none 0 0,.bool false,.slice none 0 0,.slice none 0 0,.bool false,.slice none 0 0,.slice none 0 0,.bool false,.slice none 0 0,.slice none 0 0,.bool false,.slice none 0 0]
def z9:List Value:=[.slice none 0 0,.bool false,.slice none 0 0,.slice none 0 0,.bool false,.slice none 0 0,.slice none 0 0,.bool false,.slice none 0 0]
theorem Eq8 {cs:List Value}(h:l.length=cs.length):Aj6 cs 0 l=l:=by rw[Al5 _ _ _ (by omega),Nat.zero_add,h];simp
theorem Br4 (h:An5 (SpV tu W) ys bs):DmV tu W (Aj6 z18 0 (List.take 3 ys).flatten) (Bm3 bs):=by
 rcases ys with _ | ⟨o,_ | ⟨p,_ | ⟨r,ys⟩⟩⟩<;>rcases bs with _ | ⟨b0,_ | ⟨b1,_ | ⟨b2,bs⟩⟩⟩<;>first | exact False.elim h | exact False.elim h.2 | exact False.elim h.2.2 | exact False.elim h.2.2.2 | skip
 ·exact⟨⟨none,0,0⟩,_,⟨none,0,0⟩,⟨none,0,0⟩,_,⟨none,0,0⟩,⟨none,0,0⟩,_,⟨none,0,0⟩,⟨none,0,0⟩,_,⟨none,0,0⟩,⟨none,0,0⟩,_,⟨none,0,0⟩,⟨none,0,0⟩,_,⟨none,0,0⟩,rfl,SpV.zero W,SpV.zero W,SpV.zero W⟩
 ·obtain⟨⟨_,_,_,_,_,_,rfl,h1,c⟩,_⟩:=h
  exact⟨_,_,_,_,_,_,⟨none,0,0⟩,_,⟨none,0,0⟩,⟨none,0,0⟩,_,⟨none,0,0⟩,⟨none,0,0⟩,_,⟨none,0,0⟩,⟨none,0,0⟩,_,⟨none,0,0⟩,rfl,SpV.mk h1 c,SpV.zero W,SpV.zero W⟩
 ·obtain⟨⟨_,_,_,_,_,_,rfl,h1,c⟩,⟨_,_,_,_,_,_,rfl,d,e⟩,_⟩:=h
  exact⟨_,_,_,_,_,_,_,_,_,_,_,_,⟨none,0,0⟩,_,⟨none,0,0⟩,⟨none,0,0⟩,_,⟨none,0,0⟩,rfl,SpV.mk h1 c,SpV.mk d e,SpV.zero W⟩
 ·obtain⟨⟨s0,f,t0,s1,c1,t1,rfl,h1,c⟩,⟨s2,c2,t2,s3,g,t3,rfl,d,e⟩,⟨s4,j,t4,k,c5,t5,rfl,m,n⟩,_⟩:=h
  rw[Eq8]
  ·exact⟨s0,f,t0,s1,c1,t1,s2,c2,t2,s3,g,t3,s4,j,t4,k,c5,t5,rfl,SpV.mk h1 c,SpV.mk d e,SpV.mk m n⟩
  ·rfl
theorem DmV.shp {b:Nat->Iv}(h:DmV tu W l b):Ai7 [.slice,.bool,.slice,.slice,.bool,.slice,.slice,.bool,.slice,.slice,.bool,.slice,.slice,.bool,.slice,.slice,.bool,.slice] l=true:=by
 obtain⟨_,_,_,_,_,_,_,_,_,_,_,_,_,_,_,_,_,_,rfl,_⟩:=h;rfl
def NmV (tu:TypeId) (W:PW) (l:List Value) (q:Nat->Rat):Prop:=∃(s0:Sl) (b0:Bool) (t0 s1:Sl) (b1:Bool) (t1 s2:Sl) (b2:Bool) (t2:Sl),l = [s0.v,.bool b0,t0.v,s1.v,.bool b1,t1.v,s2.v,.bool b2,t2.v]/\Ab3 tu W s0 b0 t0 (q 0)/\Ab3 tu W s1 b1 t1 (q 1)/\Ab3 tu W s2 b2 t2 (q 2)
theorem NmV.ext (h:NmV tu W l q)(c:Ext W W'):NmV tu W' l q:=let⟨s0,b0,t0,s1,b1,t1,s2,b2,t2,e,h1,d,f⟩:=h;⟨s0,b0,t0,s1,b1,t1,s2,b2,t2,e,h1.ext c,d.ext c,f.ext c⟩
theorem NmV.mk (c:Ab3 tu W s0 b0 t0 (q 0))(h1:Ab3 tu W s1 b1 t1 (q 1))(d:Ab3 tu W s2 b2 t2 (q 2)):NmV tu W [s0.v,.bool b0,t0.v,s1.v,.bool b1,t1.v,s2.v,.bool b2,t2.v] q:=⟨s0,b0,t0,s1,b1,t1,s2,b2,t2,rfl,c,h1,d⟩
theorem NmV.shp (h:NmV tu W l q):Ai7 [.slice,.bool,.slice,.slice,.bool,.slice,.slice,.bool,.slice] l=true:=by
 obtain⟨_,_,_,_,_,_,_,_,_,rfl,_⟩:=h;rfl
theorem NmV.three (h:NmV tu W [s0.v,.bool b0,t0.v,s1.v,.bool b1,t1.v,s2.v,.bool b2,t2.v] q):Ab3 tu W s0 b0 t0 (q 0)/\Ab3 tu W s1 b1 t1 (q 1)/\Ab3 tu W s2 b2 t2 (q 2):=by
 obtain⟨_,_,_,_,_,_,_,_,_,e,k⟩:=h;simp only[List.cons.injEq,Value.bool.injEq,and_true] at e;obtain⟨c,d,f,g,j,m,n,o,p⟩:=e;rw[Sl.Ck0 c,d,Sl.Ck0 f,Sl.Ck0 g,j,Sl.Ck0 m,Sl.Ck0 n,o,Sl.Ck0 p];exact k
theorem NmV.box {j:Nat}(h:NmV tu W l q)(e:j<3): ∃(s:Sl) (b:Bool) (t:Sl),As9 l (0+Int.toNat (j:Int)*3+0) [s.v,.bool b,t.v]/\Ab3 tu W s b t (q j):=by
 obtain⟨s0,b0,t0,s1,b1,t1,s2,b2,t2,rfl,c,h1,d⟩:=h;rcases(by omega:j=0\/j=1\/j=2) with rfl | rfl | rfl
 ·exact⟨_,_,_,⟨by simp,rfl⟩,c⟩
 ·exact⟨_,_,_,⟨by simp,rfl⟩,h1⟩
 ·exact⟨_,_,_,⟨by simp,rfl⟩,d⟩
theorem Hn3 {qs:List Rat}(h:An5 (QtV tu W) ys qs):NmV tu W (Aj6 z9 0 (List.take 3 ys).flatten) (λ i=>qs.getD i 0):=by
 rcases ys with _ | ⟨e,_ | ⟨f,_ | ⟨g,ys⟩⟩⟩<;>rcases qs with _ | ⟨b0,_ | ⟨b1,_ | ⟨b2,bs⟩⟩⟩<;>first | exact False.elim h | exact False.elim h.2 | exact False.elim h.2.2 | exact False.elim h.2.2.2 | skip
 ·exact⟨⟨none,0,0⟩,_,⟨none,0,0⟩,⟨none,0,0⟩,_,⟨none,0,0⟩,⟨none,0,0⟩,_,⟨none,0,0⟩,rfl,Ar9 W,Ar9 W,Ar9 W⟩
 ·obtain⟨⟨_,_,_,rfl,h1⟩,_⟩:=h
  exact⟨_,_,_,⟨none,0,0⟩,_,⟨none,0,0⟩,⟨none,0,0⟩,_,⟨none,0,0⟩,rfl,h1,Ar9 W,Ar9 W⟩
 ·obtain⟨⟨_,_,_,rfl,h1⟩,⟨_,_,_,rfl,c⟩,_⟩:=h
  exact⟨_,_,_,_,_,_,⟨none,0,0⟩,_,⟨none,0,0⟩,rfl,h1,c,Ar9 W⟩
 ·obtain⟨⟨_,_,_,rfl,h1⟩,⟨_,_,_,rfl,c⟩,⟨_,_,_,rfl,d⟩,_⟩:=h
  exact⟨_,_,_,_,_,_,_,_,_,rfl,h1,c,d⟩
theorem Ey5 (h: ∀x∈bs,x.1<=x.2)(i:Nat):(Bm3 bs i).1<=(Bm3 bs i).2:=by
 unfold Bm3;rw[List.getD_eq_getElem?_getD]
 cases e:bs[i]? with
 | none=>exact Rat.le_refl
 | some x=>exact h x (List.mem_of_getElem? e)
theorem Fa0 (h:bs.length<=i):Bm3 bs i=(0,0):=by
 unfold Bm3;rw[List.getD_eq_getElem?_getD,List.getElem?_eq_none h];rfl
theorem Fi1 (h:i<bs.length):Bm3 bs i=bs[i]:=by
 unfold Bm3;rw[List.getD_eq_getElem?_getD,List.getElem?_eq_getElem h];rfl
theorem Ep8 {k:Nat}(h: ∀x∈bs,IvS k x)(i:Nat):BdI (2*k+1) (Bm3 bs i):=by
 by_cases hi:i<bs.length
 ·rw[Fi1 hi]
  exact BdI.Co7 (h _ (List.getElem_mem hi))
 ·rw[Fa0 (by omega)]
  exact BdI.zero (by omega)
end Go.SX
