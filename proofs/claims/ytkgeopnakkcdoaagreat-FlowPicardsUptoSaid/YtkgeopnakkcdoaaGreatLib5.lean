import Derived.Test.YtkgeopnakkcdoaaGreatLib4
import Derived.Test.YtkgeopnakkcdoaaGreatLib3
set_option linter.unusedVariables false
set_option linter.unusedSimpArgs false
namespace Go.SX
variable {W W':PW}{l:List Iv}{s:Sl}{tu:TypeId}{α:Type}
structure SqP where
 w:Rat
 g:Int
 q:List Tm
def Dr1 {α:Type} (R:PW->List Value->α->Prop) (sz:Nat) (W:PW) (s:Sl) (l:List α):Prop:=∃xs,Bf9 W sz s xs/\An5 (R W) xs l
theorem Dr1.ext {R:PW->List Value->α->Prop}{sz:Nat}(d: ∀{W W':PW} {x:List Value} {a:α},R W x a->Ext W W'->R W' x a){l:List α}(h:Dr1 R sz W s l)(c:Ext W W'):Dr1 R sz W' s l:=let⟨xs,⟨t,h1⟩,e⟩:=h;⟨xs,⟨t,h1.ext c⟩,e.mono λ _ _ h=>d h c⟩
theorem Dr1.n {R:PW->List Value->α->Prop}{sz:Nat}{l:List α}(h:Dr1 R sz W s l):s.n=l.length:=let⟨xs,⟨_,h1⟩,c⟩:=h;h1.1.trans c.len
theorem Dr1.inB {i:Int}{R:PW->List Value->α->Prop}{sz:Nat}{l:List α}(h:Dr1 R sz W s l)(c:0<=i)(h1:i<(l.length:Int)):SX.inB s i:=let⟨xs,⟨_,d⟩,e⟩:=h;d.inB c (by rw[e.len];exact h1)
theorem Dr1.at {R:PW->List Value->α->Prop}{sz:Nat}{l:List α}(h:Dr1 R sz W s l){i:Nat}(hi:i<l.length): ∃x,R W x l[i]/\∀(off:Nat) {m:List Value},(x.drop off).take m.length=m->Aa7 W s sz i off m:=by
 obtain⟨xs,⟨t,h1⟩,c⟩:=h;obtain⟨x,d,e⟩:=c.get (List.getElem?_eq_getElem hi);exact⟨x,e,λ off m hm=>h1.part d off hm⟩
theorem Dr1.nil {R:PW->List Value->α->Prop}{sz:Nat}(W:PW):Dr1 R sz W ⟨none,0,0⟩ ([]:List α):=⟨[],⟨0,rfl,Nat.le_refl _,Nat.zero_le _,λ x h=>by simp at h,.inl rfl⟩,trivial⟩
abbrev Bc3 (tu:TypeId):=Dr1 (SpV tu) 6
abbrev Fx4 (tu:TypeId):=Dr1 (Ah6 tu) 6
theorem Bc3.ext (h:Bc3 tu W s l)(c:Ext W W'):Bc3 tu W' s l:=Dr1.ext (R:=SpV tu) (λ h=>SpV.ext h) h c
theorem Fx4.ext (h:Fx4 tu W s l)(c:Ext W W'):Fx4 tu W' s l:=Dr1.ext (R:=Ah6 tu) (λ h=>Ah6.ext h) h c
def Cn7 (bs:List Iv):Prop:=(1<=bs.length/\bs.length<=3)/\∀x∈bs,x.1<x.2
instance (bs:List Iv):Decidable (Cn7 bs):=by unfold Cn7;infer_instance
end Go.SX
namespace Go.SX
def inI (x:Iv) (v:Rat):Prop:=x.1<=v/\v<=x.2
theorem Az6 {x:Rat}(h:0<=x): ∀n:Nat,0<=x^n
 | 0=>by rw[Rat.pow_zero];decide
 | n+1=>by rw[Rat.pow_succ];exact Rat.mul_nonneg (Az6 h n) h
theorem As3 {x y:Rat}(h:0<=x)(k:x<=y): ∀n:Nat,x^n<=y^n
 | 0=>by rw[Rat.pow_zero,Rat.pow_zero];exact Rat.le_refl
 | n+1=>by
  rw[Rat.pow_succ,Rat.pow_succ];have ih:=As3 h k n;have h1:=Rat.mul_nonneg (show 0<=y^n-x^n by grind) h;have c:=Rat.mul_nonneg (Az6 (show 0<=y by grind) n) (show 0<=y-x by grind);grind
theorem Ap2 (x:Rat): ∀n:Nat,(n%2=0->(-x)^n=x^n)/\(n%2=1->(-x)^n = -(x^n))
 | 0=>⟨λ _=>by rw[Rat.pow_zero,Rat.pow_zero],λ h=>by omega⟩
 | n+1=>by
  obtain⟨h1,c⟩:=Ap2 x n;refine⟨λ h=>?_,λ h=>?_⟩
  ·rw[Rat.pow_succ,Rat.pow_succ,c (by omega)]
   grind
  ·rw[Rat.pow_succ,Rat.pow_succ,h1 (by omega)]
   grind
theorem Eo2 {a:Rat}{b:Rat}{v:Rat}(h:(a<=v/\v<=b)\/(b<=v/\v<=a)):inI (Ag0 a b) v:=by
 have h1:=Dh5 a b;have c:=Cl6 a b;exact⟨by show Az9 a b<=v;grind,by show v<=Au7 a b;grind⟩
theorem Da5 {x:Iv}{v:Rat}(h:inI x v)(n:Nat):inI (Ai3 x n) (v^n):=by
 obtain⟨h1,g⟩:=h;unfold Ai3;have o:=(Ap2 x.1 n).1;have ev:=(Ap2 v n).1;have w:=(Ap2 x.2 n).1;have t:=(Ap2 x.1 n).2;have k:=(Ap2 v n).2;have y:=(Ap2 x.2 n).2;have r:=Cl6 (x.1^n) (x.2^n);split
 ·rename_i c
  obtain⟨c1,c2,c3,z⟩:=c
  by_cases e:0<=v
  ·have:=As3 e g n
   have p:=Az6 e n;exact⟨p,by show v^n<=Au7 (x.1^n) (x.2^n);grind⟩
  ·have q:=As3 (show 0<=-v by grind) (show -v<=-x.1 by grind) n
   have p:=Az6 (show 0<=-v by grind) n;rw[ev c2] at p q;rw[o c2] at q;exact⟨p,by show v^n<=Au7 (x.1^n) (x.2^n);grind⟩
 ·rename_i c
  apply Eo2;rcases(by omega:n=0\/n%2=1\/(0<n/\n%2=0)) with d | d | d
  ·subst d
   rw[Rat.pow_zero,Rat.pow_zero,Rat.pow_zero];exact .inl ⟨Rat.le_refl,Rat.le_refl⟩
  ·refine .inl ⟨?_,?_⟩
   ·by_cases m:0<=x.1
    ·exact As3 m h1 n
    ·by_cases e:0<=v
     ·have p:=Az6 e n
      have q:=Az6 (show 0<=-x.1 by grind) n;rw[t d] at q;grind
     ·have q:=As3 (show 0<=-v by grind) (show -v<=-x.1 by grind) n
      rw[t d,k d] at q;grind
   ·by_cases e:0<=v
    ·exact As3 e g n
    ·by_cases f:0<=x.2
     ·have p:=Az6 f n
      have q:=Az6 (show 0<=-v by grind) n;rw[k d] at q;grind
     ·have q:=As3 (show 0<=-x.2 by grind) (show -x.2<=-v by grind) n
      rw[y d,k d] at q;grind
  ·by_cases m:0<=x.1
   ·exact .inl ⟨As3 m h1 n,As3 (show 0<=v by grind) g n⟩
   ·have f:¬0<=x.2:=λ f=>c ⟨d.1,d.2,by grind,f⟩
    have q1:=As3 (show 0<=-v by grind) (show -v<=-x.1 by grind) n;have u:=As3 (show 0<=-x.2 by grind) (show -x.2<=-v by grind) n;rw[o d.2,ev d.2] at q1;rw[w d.2,ev d.2] at u;exact .inr ⟨u,q1⟩
end Go.SX
namespace Go.SX
variable {a b:Rat}{x:Iv}
def Ft1 (x y:Iv):Prop:=y.1<=x.1/\x.2<=y.2
theorem Br1 {a b : Rat}(c : 0 <= b)(h : b <= a): ∀ n : Nat, ((n + 1 : Nat) : Rat) * (a - b) * b ^ n <= a ^ (n + 1) - b ^ (n + 1) /\ a ^ (n + 1) - b ^ (n + 1) <= ((n + 1 : Nat) : Rat) * (a - b) * a ^ n
  | 0 => by
    simp only [Rat.pow_succ, Rat.pow_zero];constructor<;>grind
  | n + 1 => by
    obtain ⟨h1, m⟩ := Br1 c h n;have f : 0 <= a := by grind
    have g := Az6 c n;have o := Az6 f n;have p := As3 c h n;have e : ((n + 1 + 1 : Nat) : Rat) = ((n + 1 : Nat) : Rat) + 1 := by push_cast; rfl
    have k : (0 : Rat) <= ((n + 1 : Nat) : Rat) := by have := Rat.natCast_nonneg (a := n + 1); exact this
    have q := Rat.mul_nonneg (show 0 <= a ^ (n + 1) - b ^ (n + 1) - ((n + 1 : Nat) : Rat) * (a - b) * b ^ n by grind) f;have r := Rat.mul_nonneg (show 0 <= ((n + 1 : Nat) : Rat) * (a - b) * a ^ n - (a ^ (n + 1) - b ^ (n + 1)) by grind) f;have d : 0 <= a - b := by grind
    have t := Rat.mul_nonneg (Rat.mul_nonneg (Rat.mul_nonneg k d) g) d;have u := Rat.mul_nonneg (show 0 <= a ^ (n + 1) - b ^ (n + 1) by have := As3 c h (n + 1); grind) d;rw [e];generalize ((n + 1 : Nat) : Rat) = N at *;rw [Rat.pow_succ a (n + 1), Rat.pow_succ b (n + 1)];rw [Rat.pow_succ a n, Rat.pow_succ b n] at *;generalize a ^ n = A at *;generalize b ^ n = B at *;constructor<;>grind
theorem Ex7 (c:inI x a)(f:inI x b)(h:b<=a)(n:Nat):((n+1:Nat):Rat)*(a-b)*(Ai3 x n).1<=a^(n+1)-b^(n+1)/\a^(n+1)-b^(n+1)<=((n+1:Nat):Rat)*(a-b)*(Ai3 x n).2:=by
 have v:(0:Rat)<=((n+1:Nat):Rat):=Rat.natCast_nonneg;have fin: ∀{a b L U S A B:Rat},b<=a->L<=A->A<=U->L<=B->B<=U->((n+1:Nat):Rat)*(a-b)*A<=S->S<=((n+1:Nat):Rat)*(a-b)*B->((n+1:Nat):Rat)*(a-b)*L<=S/\S<=((n+1:Nat):Rat)*(a-b)*U:=fun {a b L U S A B} h h1 g w y C E=>by
  have d:=Rat.mul_nonneg v (show 0<=a-b by grind);have F:=Rat.mul_nonneg d (show 0<=A-L by grind);have G:=Rat.mul_nonneg d (show 0<=U-B by grind);generalize ((n+1:Nat):Rat)*(a-b)=D at *;constructor<;>grind
 have pos: ∀{a b:Rat},inI x a->inI x b->0<=b->b<=a->((n+1:Nat):Rat)*(a-b)*(Ai3 x n).1<=a^(n+1)-b^(n+1)/\a^(n+1)-b^(n+1)<=((n+1:Nat):Rat)*(a-b)*(Ai3 x n).2:=fun {a b} c f k h=>by
  have s:=Br1 k h n;have p:=Da5 c n;have q:=Da5 f n;exact fin h q.1 q.2 p.1 p.2 s.1 s.2
 have neg: ∀{a b:Rat},inI x a->inI x b->a<=0->b<=a->((n+1:Nat):Rat)*(a-b)*(Ai3 x n).1<=a^(n+1)-b^(n+1)/\a^(n+1)-b^(n+1)<=((n+1:Nat):Rat)*(a-b)*(Ai3 x n).2:=fun {a b} c f k h=>by
  have s:=Br1 (a:=-b) (b:=-a) (by grind) (by grind) n;have p:=Da5 c n;have q:=Da5 f n;have m:=Ap2 a n;have o:=Ap2 b n;have r:=Ap2 a (n+1);have u:=Ap2 b (n+1);rw[show -b - -a=a-b by grind] at s;rcases(by omega:n%2=0\/n%2=1) with e | e
  ·rw[r.2 (by omega),u.2 (by omega),m.1 e,o.1 e] at s
   exact fin h p.1 p.2 q.1 q.2 (by grind) (by grind)
  ·rw[r.1 (by omega),u.1 (by omega),m.2 e,o.2 e] at s
   exact fin h q.1 q.2 p.1 p.2 (by grind) (by grind)
 by_cases h1:0<=b
 ·exact pos c f h1 h
 ·by_cases g:a<=0
  ·exact neg c f g h
  ·have z:inI x 0:=⟨Rat.le_trans f.1 (by grind),Rat.le_trans (by grind) c.2⟩
   have s:=pos c z Rat.le_refl (by grind);have t:=neg z f Rat.le_refl (by grind);rw[Bl8 (Nat.succ_pos n)] at s t;generalize ((n+1:Nat):Rat)=N at *;constructor<;>grind
theorem Fu7 (c:inI x a)(d:inI x b)(n:Nat): ∃g,inI (Ai3 x n) g/\a^(n+1)-b^(n+1)=((n+1:Nat):Rat)*g*(a-b):=by
 have o:(0:Rat)<((n+1:Nat):Rat):=by have:=Rat.natCast_pos (a:=n+1);exact this.2 (Nat.succ_pos n)
 have main: ∀{a b:Rat},inI x a->inI x b->b<a->∃g,inI (Ai3 x n) g/\a^(n+1)-b^(n+1)=((n+1:Nat):Rat)*g*(a-b):=fun {a b} c d h=>by
  obtain⟨s1,s2⟩:=Ex7 c d (Rat.le_of_lt h) n;have f:(0:Rat)<((n+1:Nat):Rat)*(a-b):=Rat.mul_pos o (by grind);generalize a^(n+1)-b^(n+1)=S at *;have q1:(Ai3 x n).1<=S/(((n+1:Nat):Rat)*(a-b)):=Rat.not_lt.1 λ h=>absurd ((Rat.div_lt_iff f).1 h) (Rat.not_lt.2 (by rw[Rat.mul_comm];exact s1));have p:S/(((n+1:Nat):Rat)*(a-b))<=(Ai3 x n).2:=Rat.not_lt.1 λ h=>absurd ((Rat.lt_div_iff f).1 h) (Rat.not_lt.2 (by rw[Rat.mul_comm];exact s2));have m:=Rat.div_mul_cancel (a:=S) (b:=((n+1:Nat):Rat)*(a-b)) (λ e=>by rw[e] at f;exact absurd f (by decide));refine⟨_,⟨q1,p⟩,?_⟩;generalize S/(((n+1:Nat):Rat)*(a-b))=g at m;generalize ((n+1:Nat):Rat)=N at m;grind
 by_cases h1:b<a
 ·exact main c d h1
 ·by_cases k:a<b
  ·obtain⟨g,h1,k⟩:=main d c k
   exact⟨g,h1,by generalize ((n+1:Nat):Rat)=N at k⊢;grind⟩
  ·have:a=b:=by grind
   subst this;exact⟨a^n,Da5 c n,by generalize ((n+1:Nat):Rat)=N;grind⟩
end Go.SX
namespace Go.SX
variable {W:PW}{b:Nat->Iv}{b0 b1 b2 b3 b4 b5:Bool}{bs:List Iv}{i j:Nat}{l:List Value}{s0 s1 s2 s3 s4 s5 t0 t1 t2 t3 t4 t5:Sl}{tu:TypeId}
def Bm3 (bs:List Iv) (i:Nat):Iv:=bs.getD i (0,0)
def z18:List Value:=[.slice none 0 0,.bool false,.slice none 0 0,.slice none 0 0,.bool false,.slice none 0 0,.slice none 0 0,.bool false,.slice none 0 0,.slice none 0 0,.bool false,.slice none 0 0,.slice none 0 0,.bool false,.slice none 0 0,.slice none 0 0,.bool false,.slice none 0 0]
def z9:List Value:=[.slice none 0 0,.bool false,.slice none 0 0,.slice none 0 0,.bool false,.slice none 0 0,.slice none 0 0,.bool false,.slice none 0 0]
theorem Eq8 {cs:List Value}(h:l.length=cs.length):Aj6 cs 0 l=l:=by rw[Al5 _ _ _ (by omega),Nat.zero_add,h];simp
theorem Br4 {ys:List (List Value)}(h:An5 (SpV tu W) ys bs):DmV tu W (Aj6 z18 0 (List.take 3 ys).flatten) (Bm3 bs):=by
 rcases ys with _ | ⟨n,_ | ⟨o,_ | ⟨p,ys⟩⟩⟩<;>rcases bs with _ | ⟨b0,_ | ⟨b1,_ | ⟨b2,bs⟩⟩⟩<;>first | exact False.elim h | exact False.elim h.2 | exact False.elim h.2.2 | exact False.elim h.2.2.2 | skip
 ·exact⟨⟨none,0,0⟩,_,⟨none,0,0⟩,⟨none,0,0⟩,_,⟨none,0,0⟩,⟨none,0,0⟩,_,⟨none,0,0⟩,⟨none,0,0⟩,_,⟨none,0,0⟩,⟨none,0,0⟩,_,⟨none,0,0⟩,⟨none,0,0⟩,_,⟨none,0,0⟩,rfl,SpV.zero W,SpV.zero W,SpV.zero W⟩
 ·obtain⟨⟨_,_,_,_,_,_,rfl,h1,c⟩,_⟩:=h
  exact⟨_,_,_,_,_,_,⟨none,0,0⟩,_,⟨none,0,0⟩,⟨none,0,0⟩,_,⟨none,0,0⟩,⟨none,0,0⟩,_,⟨none,0,0⟩,⟨none,0,0⟩,_,⟨none,0,0⟩,rfl,SpV.mk h1 c,SpV.zero W,SpV.zero W⟩
 ·obtain⟨⟨_,_,_,_,_,_,rfl,h1,c⟩,⟨_,_,_,_,_,_,rfl,d,e⟩,_⟩:=h
  exact⟨_,_,_,_,_,_,_,_,_,_,_,_,⟨none,0,0⟩,_,⟨none,0,0⟩,⟨none,0,0⟩,_,⟨none,0,0⟩,rfl,SpV.mk h1 c,SpV.mk d e,SpV.zero W⟩
 ·obtain⟨⟨s0,f,t0,s1,c1,t1,rfl,h1,c⟩,⟨s2,c2,t2,s3,c3,t3,rfl,d,e⟩,⟨s4,g,t4,s5,c5,t5,rfl,k,m⟩,_⟩:=h
  rw[Eq8]
  ·exact⟨s0,f,t0,s1,c1,t1,s2,c2,t2,s3,c3,t3,s4,g,t4,s5,c5,t5,rfl,SpV.mk h1 c,SpV.mk d e,SpV.mk k m⟩
  ·rfl
theorem Fa0 (h:bs.length<=i):Bm3 bs i=(0,0):=by
 unfold Bm3;rw[List.getD_eq_getElem?_getD,List.getElem?_eq_none h];rfl
theorem Fi1 (h:i<bs.length):Bm3 bs i=bs[i]:=by
 unfold Bm3;rw[List.getD_eq_getElem?_getD,List.getElem?_eq_getElem h];rfl
theorem Ep8 {k:Nat}(h: ∀x∈bs,IvS k x)(i:Nat):BdI (2*k+1) (Bm3 bs i):=by
 by_cases hi:i<bs.length
 ·rw[Fi1 hi]
  exact BdI.Co7 (h _ (List.getElem_mem hi))
 ·rw[Fa0 (by omega)]
  exact BdI.zero (by omega)
theorem Cf1.congr {b':Nat->Iv}(h:Cf1 tu W l b)(e: ∀i,i<3->b i=b' i):Cf1 tu W l b':=by
 obtain⟨b0,s0,t0,b1,s1,t1,b2,s2,t2,b3,s3,t3,b4,s4,t4,b5,s5,t5,rfl,c,h1,d⟩:=h;exact⟨b0,s0,t0,b1,s1,t1,b2,s2,t2,b3,s3,t3,b4,s4,t4,b5,s5,t5,rfl,e 0 (by omega) ▸ c,e 1 (by omega) ▸ h1,e 2 (by omega) ▸ d⟩
theorem Cf1.mk (c:Ah6 tu W [.bool b0,s0.v,t0.v,.bool b1,s1.v,t1.v] (b 0))(h1:Ah6 tu W [.bool b2,s2.v,t2.v,.bool b3,s3.v,t3.v] (b 1))(d:Ah6 tu W [.bool b4,s4.v,t4.v,.bool b5,s5.v,t5.v] (b 2)):
  Cf1 tu W [.bool b0,s0.v,t0.v,.bool b1,s1.v,t1.v,.bool b2,s2.v,t2.v,.bool b3,s3.v,t3.v,.bool b4,s4.v,t4.v,.bool b5,s5.v,t5.v] b:=⟨b0,s0,t0,b1,s1,t1,b2,s2,t2,b3,s3,t3,b4,s4,t4,b5,s5,t5,rfl,c,h1,d⟩
theorem Cf1.three (h:Cf1 tu W [.bool b0,s0.v,t0.v,.bool b1,s1.v,t1.v,.bool b2,s2.v,t2.v,.bool b3,s3.v,t3.v,.bool b4,s4.v,t4.v,.bool b5,s5.v,t5.v] b):
  Ah6 tu W [.bool b0,s0.v,t0.v,.bool b1,s1.v,t1.v] (b 0)/\Ah6 tu W [.bool b2,s2.v,t2.v,.bool b3,s3.v,t3.v] (b 1)/\Ah6 tu W [.bool b4,s4.v,t4.v,.bool b5,s5.v,t5.v] (b 2):=⟨h.at (j:=0) (by omega),h.at (j:=1) (by omega),h.at (j:=2) (by omega)⟩
theorem Hk0 (c:j<bs.length)(k:Nat):Bm3 (bs.take (j+1)) k=if k=j then bs[j] else Bm3 (bs.take j) k:=by
 unfold Bm3;rw[List.getD_eq_getElem?_getD,List.getD_eq_getElem?_getD,List.getElem?_take,List.getElem?_take]
 by_cases h:k<j
 ·rw[if_pos (by omega),if_pos h,if_neg (by omega)]
 ·by_cases e:k=j
  ·subst e
   rw[if_pos (by omega),if_pos rfl,List.getElem?_eq_getElem c];rfl
  ·rw[if_neg (by omega),if_neg h,if_neg e]
theorem Hl8 (c:j=bs.length\/3<=j)(k:Nat)(hk:k<3):Bm3 (bs.take j) k=Bm3 bs k:=by
 unfold Bm3;rw[List.getD_eq_getElem?_getD,List.getD_eq_getElem?_getD,List.getElem?_take];split
 ·rfl
 ·rw[List.getElem?_eq_none (by omega)]
theorem SpV.Ge9 {x:Iv}{K:Sl->Bool->Sl->Sl->Bool->Sl->Bool->Prop}{B:Bool}(h:SpV tu W l x)(k: ∀s b t s' b' d,SpV tu W [s.v,.bool b,t.v,s'.v,.bool b',d.v] x->K s b t s' b' d B):
  ∃(s:Sl) (b:Bool) (t s':Sl) (b':Bool) (d:Sl) (c:Bool),Value.tuple ⟨[.agg ⟨l⟩,.bool B]⟩ = .tuple ⟨[.agg ⟨[s.v,.bool b,t.v,s'.v,.bool b',d.v]⟩,.bool c]⟩/\K s b t s' b' d c:=by
 obtain⟨s,b,t,s',b',d,rfl,h1,e⟩:=h;exact⟨s,b,t,s',b',d,B,rfl,k s b t s' b' d (SpV.mk h1 e)⟩
end Go.SX
