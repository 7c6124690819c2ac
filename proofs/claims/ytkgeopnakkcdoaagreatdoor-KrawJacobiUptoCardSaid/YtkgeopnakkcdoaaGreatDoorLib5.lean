import Derived.Test.YtkgeopnakkcdoaaGreatDoorLib4
import Derived.Test.YtkgeopnakkcdoaaGreatDoorLib2
set_option linter.unusedVariables false
set_option linter.unusedSimpArgs false
namespace Go.SX
variable {W W':PW}{a b:Rat}{l:List Value}{tu:TypeId}{x:Iv}
theorem At6:Co4 a b<0↔a<b:=by
 unfold Co4;split
 ·simp[*]
 ·split<;>simp_all
theorem Al3:0<Co4 a b↔b<a:=by
 unfold Co4;split
 ·grind
 ·split
  ·rename_i h1 c
   subst c;grind
  ·rename_i h1 c
   constructor
   ·intro _
    exact Rat.not_le.1 λ h=>(Rat.le_iff_lt_or_eq.1 h).elim h1 c
   ·intro _;omega
theorem Dn3:Co4 a b<=0↔a<=b:=by rw[<-Int.not_lt,Al3,Rat.not_lt]
theorem El9:0<=Co4 a b↔b<=a:=by rw[<-Int.not_lt,At6,Rat.not_lt]
def SpV (tu:TypeId) (W:PW) (l:List Value) (x:Iv):Prop:=∃(s:Sl) (b:Bool) (t s':Sl) (b':Bool) (c:Sl),l = [s.v,.bool b,t.v,s'.v,.bool b',c.v]/\Ab3 tu W s b t x.1/\Ab3 tu W s' b' c x.2
theorem SpV.ext (h:SpV tu W l x)(c:Ext W W'):SpV tu W' l x:=let⟨s,b,t,s',b',d,e,h1,f⟩:=h;⟨s,b,t,s',b',d,e,h1.ext c,f.ext c⟩
theorem SpV.mk {b':Bool}{s t s' c:Sl}{b:Bool}(h1:Ab3 tu W s b t x.1)(d:Ab3 tu W s' b' c x.2):SpV tu W [s.v,.bool b,t.v,s'.v,.bool b',c.v] x:=⟨s,b,t,s',b',c,rfl,h1,d⟩
theorem SpV.out {K:Sl->Bool->Sl->Sl->Bool->Sl->Prop}(h:SpV tu W l x)(k: ∀s b t s' b' c,SpV tu W [s.v,.bool b,t.v,s'.v,.bool b',c.v] x->K s b t s' b' c):
  ∃(s:Sl) (b:Bool) (t s':Sl) (b':Bool) (c:Sl),Value.agg ⟨l⟩ = .agg ⟨[s.v,.bool b,t.v,s'.v,.bool b',c.v]⟩/\K s b t s' b' c:=by
 obtain⟨s,b,t,s',b',c,rfl,h1,d⟩:=h;exact⟨s,b,t,s',b',c,rfl,k s b t s' b' c (SpV.mk h1 d)⟩
theorem SpV.zero (W:PW):SpV tu W [.slice none 0 0,.bool false,.slice none 0 0,.slice none 0 0,.bool false,.slice none 0 0] (0,0):=⟨⟨none,0,0⟩,false,⟨none,0,0⟩,⟨none,0,0⟩,false,⟨none,0,0⟩,rfl,Ar9 W,Ar9 W⟩
theorem Sl.Ck0 {s t:Sl}(h:s.v=t.v):s=t:=by
 cases s;cases t;simp only[Sl.v,Value.slice.injEq] at h;obtain⟨rfl,rfl,rfl⟩:=h;rfl
def IvS (k:Nat) (x:Iv):Prop:=Sz k x.1/\Sz k x.2
def DmV (tu:TypeId) (W:PW) (l:List Value) (b:Nat->Iv):Prop:=∃(s0:Sl) (b0:Bool) (t0 s1:Sl) (b1:Bool) (t1 s2:Sl) (b2:Bool) (t2 s3:Sl) (c:Bool) (t3 s4:Sl) (d:Bool) (t4 e:Sl) (f:Bool) (t5:Sl),
 l = [s0.v,.bool b0,t0.v,s1.v,.bool b1,t1.v,s2.v,.bool b2,t2.v,s3.v,.bool c,t3.v,s4.v,.bool d,t4.v,e.v,.bool f,t5.v]/\SpV tu W [s0.v,.bool b0,t0.v,s1.v,.bool b1,t1.v] (b 0)/\SpV tu W [s2.v,.bool b2,t2.v,s3.v,.bool c,t3.v] (b 1)/\SpV tu W [s4.v,.bool d,t4.v,e.v,.bool f,t5.v] (b 2)
theorem DmV.ext {b:Nat->Iv}(h:DmV tu W l b)(c:Ext W W'):DmV tu W' l b:=by
 obtain⟨s0,b0,t0,s1,b1,t1,s2,b2,t2,s3,d,t3,s4,f,t4,g,i,t5,e,h1,j,k⟩:=h;exact⟨s0,b0,t0,s1,b1,t1,s2,b2,t2,s3,d,t3,s4,f,t4,g,i,t5,e,h1.ext c,j.ext c,k.ext c⟩
theorem DmV.box {j:Nat}{b:Nat->Iv}(h:DmV tu W l b)(i:j<3): ∃(s:Sl) (c:Bool) (t s':Sl) (d:Bool) (e:Sl),As9 l (0+Int.toNat (j:Int)*6+0) [s.v,.bool c,t.v,s'.v,.bool d,e.v]/\SpV tu W [s.v,.bool c,t.v,s'.v,.bool d,e.v] (b j):=by
 obtain⟨s0,b0,t0,s1,b1,t1,s2,b2,t2,s3,k,t3,s4,m,t4,n,o,t5,rfl,h1,f,g⟩:=h;rcases(by omega:j=0\/j=1\/j=2) with rfl | rfl | rfl
 ·exact⟨_,_,_,_,_,_,⟨by simp,rfl⟩,h1⟩
 ·exact⟨_,_,_,_,_,_,⟨by simp,rfl⟩,f⟩
 ·exact⟨_,_,_,_,_,_,⟨by simp,rfl⟩,g⟩
end Go.SX
namespace Go.SX
variable {W W':PW}{s:Sl}{α:Type}
structure SqP where
 w:Rat
 g:Int
 q:List Tm
def Dr1 {α:Type} (R:PW->List Value->α->Prop) (sz:Nat) (W:PW) (s:Sl) (l:List α):Prop:=∃xs,Bf9 W sz s xs/\An5 (R W) xs l
theorem Dr1.ext {R:PW->List Value->α->Prop}{sz:Nat}(d: ∀{W W':PW} {x:List Value} {a:α},R W x a->Ext W W'->R W' x a){l:List α}(h:Dr1 R sz W s l)(c:Ext W W'):Dr1 R sz W' s l:=let⟨xs,⟨t,h1⟩,e⟩:=h;⟨xs,⟨t,h1.ext c⟩,e.mono λ _ _ h=>d h c⟩
theorem Dr1.n {R:PW->List Value->α->Prop}{sz:Nat}{l:List α}(h:Dr1 R sz W s l):s.n=l.length:=let⟨xs,⟨_,h1⟩,c⟩:=h;h1.1.trans c.len
theorem Dr1.inB {i:Int}{R:PW->List Value->α->Prop}{sz:Nat}{l:List α}(h:Dr1 R sz W s l)(c:0<=i)(h1:i<(l.length:Int)):SX.inB s i:=let⟨xs,⟨_,d⟩,e⟩:=h;d.inB c (by rw[e.len];exact h1)
theorem Dr1.at {R:PW->List Value->α->Prop}{sz:Nat}{l:List α}(h:Dr1 R sz W s l){i:Nat}(hi:i<l.length): ∃x,R W x l[i]/\∀(off:Nat) {m:List Value},(x.drop off).take m.length=m->Aa7 W s sz i off m:=by
 obtain⟨xs,⟨t,h1⟩,c⟩:=h;obtain⟨x,d,e⟩:=c.get (List.getElem?_eq_getElem hi);exact⟨x,e,λ off m hm=>h1.part d off hm⟩
theorem Dr1.nil {R:PW->List Value->α->Prop}{sz:Nat}(W:PW):Dr1 R sz W ⟨none,0,0⟩ ([]:List α):=⟨[],⟨0,rfl,Nat.le_refl _,Nat.zero_le _,λ x h=>by simp at h,.inl rfl⟩,trivial⟩
abbrev Bc3 (tu:TypeId):=Dr1 (SpV tu) 6
theorem Bc3.ext {tu:TypeId}{l:List Iv}(h:Bc3 tu W s l)(c:Ext W W'):Bc3 tu W' s l:=Dr1.ext (R:=SpV tu) (λ h=>SpV.ext h) h c
def Cn7 (bs:List Iv):Prop:=(1<=bs.length/\bs.length<=3)/\∀x∈bs,x.1<x.2
instance (bs:List Iv):Decidable (Cn7 bs):=by unfold Cn7;infer_instance
end Go.SX
namespace Go.SX
def inI (x:Iv) (v:Rat):Prop:=x.1<=v/\v<=x.2
theorem Az6 {x:Rat}(h:0<=x): ∀n:Nat,0<=x^n
 | 0=>by rw[Rat.pow_zero];decide
 | n+1=>by rw[Rat.pow_succ];exact Rat.mul_nonneg (Az6 h n) h
theorem As3 {x y:Rat}(h:0<=x)(k:x<=y): ∀n:Nat,x^n<=y^n
 | 0=>by rw[Rat.pow_zero,Rat.pow_zero];exact Rat.le_refl
 | n+1=>by
  rw[Rat.pow_succ,Rat.pow_succ];have ih:=As3 h k n;have h1:=Rat.mul_nonneg (show 0<=y^n-x^n by grind) h;have c:=Rat.mul_nonneg (Az6 (show 0<=y by grind) n) (show 0<=y-x by grind);grind
theorem Ap2 (x:Rat): ∀n:Nat,(n%2=0->(-x)^n=x^n)/\(n%2=1->(-x)^n = -(x^n))
 | 0=>⟨λ _=>by rw[Rat.pow_zero,Rat.pow_zero],λ h=>by omega⟩
 | n+1=>by
  obtain⟨h1,c⟩:=Ap2 x n;refine⟨λ h=>?_,λ h=>?_⟩
  ·rw[Rat.pow_succ,Rat.pow_succ,c (by omega)]
   grind
  ·rw[Rat.pow_succ,Rat.pow_succ,h1 (by omega)]
   grind
theorem Eo2 {a:Rat}{b:Rat}{v:Rat}(h:(a<=v/\v<=b)\/(b<=v/\v<=a)):inI (Ag0 a b) v:=by
 have h1:=Dh5 a b;have c:=Cl6 a b;exact⟨by show Az9 a b<=v;grind,by show v<=Au7 a b;grind⟩
theorem Da5 {x:Iv}{v:Rat}(h:inI x v)(n:Nat):inI (Ai3 x n) (v^n):=by
 obtain⟨h1,g⟩:=h;unfold Ai3;have k:=(Ap2 x.1 n).1;have ev:=(Ap2 v n).1;have t:=(Ap2 x.2 n).1;have m:=(Ap2 x.1 n).2;have i:=(Ap2 v n).2;have u:=(Ap2 x.2 n).2;have r:=Cl6 (x.1^n) (x.2^n);split
 ·rename_i c
  obtain⟨c1,c2,w,y⟩:=c
  by_cases e:0<=v
  ·have:=As3 e g n
   have p:=Az6 e n;exact⟨p,by show v^n<=Au7 (x.1^n) (x.2^n);grind⟩
  ·have q:=As3 (show 0<=-v by grind) (show -v<=-x.1 by grind) n
   have p:=Az6 (show 0<=-v by grind) n;rw[ev c2] at p q;rw[k c2] at q;exact⟨p,by show v^n<=Au7 (x.1^n) (x.2^n);grind⟩
 ·rename_i c
  apply Eo2;rcases(by omega:n=0\/n%2=1\/(0<n/\n%2=0)) with d | d | d
  ·subst d
   rw[Rat.pow_zero,Rat.pow_zero,Rat.pow_zero];exact .inl ⟨Rat.le_refl,Rat.le_refl⟩
  ·refine .inl ⟨?_,?_⟩
   ·by_cases j:0<=x.1
    ·exact As3 j h1 n
    ·by_cases e:0<=v
     ·have p:=Az6 e n
      have q:=Az6 (show 0<=-x.1 by grind) n;rw[m d] at q;grind
     ·have q:=As3 (show 0<=-v by grind) (show -v<=-x.1 by grind) n
      rw[m d,i d] at q;grind
   ·by_cases e:0<=v
    ·exact As3 e g n
    ·by_cases f:0<=x.2
     ·have p:=Az6 f n
      have q:=Az6 (show 0<=-v by grind) n;rw[i d] at q;grind
     ·have q:=As3 (show 0<=-x.2 by grind) (show -x.2<=-v by grind) n
      rw[u d,i d] at q;grind
  ·by_cases j:0<=x.1
   ·exact .inl ⟨As3 j h1 n,As3 (show 0<=v by grind) g n⟩
   ·have f:¬0<=x.2:=λ f=>c ⟨d.1,d.2,by grind,f⟩
    have q1:=As3 (show 0<=-v by grind) (show -v<=-x.1 by grind) n;have o:=As3 (show 0<=-x.2 by grind) (show -x.2<=-v by grind) n;rw[k d.2,ev d.2] at q1;rw[t d.2,ev d.2] at o;exact .inr ⟨o,q1⟩
end Go.SX
namespace Go.SX
variable {a b:Rat}{x:Iv}
def Ft1 (x y:Iv):Prop:=y.1<=x.1/\x.2<=y.2
theorem Br1 {a b : Rat}(c : 0 <= b)(h : b <= a): ∀ n : Nat, ((n + 1 : Nat) : Rat) * (a - b) * b ^ n <= a ^ (n + 1) - b ^ (n + 1) /\ a ^ (n + 1) - b ^ (n + 1) <= ((n + 1 : Nat) : Rat) * (a - b) * a ^ n
  | 0 => by
    simp only [Rat.pow_succ, Rat.pow_zero];constructor<;>grind
  | n + 1 => by
    obtain ⟨h1, j⟩ := Br1 c h n;have f : 0 <= a := by grind
    have g := Az6 c n;have k := Az6 f n;have m := As3 c h n;have e : ((n + 1 + 1 : Nat) : Rat) = ((n + 1 : Nat) : Rat) + 1 := by push_cast; rfl
    have i : (0 : Rat) <= ((n + 1 : Nat) : Rat) := by have := Rat.natCast_nonneg (a := n + 1); exact this
    have o := Rat.mul_nonneg (show 0 <= a ^ (n + 1) - b ^ (n + 1) - ((n + 1 : Nat) : Rat) * (a - b) * b ^ n by grind) f;have p := Rat.mul_nonneg (show 0 <= ((n + 1 : Nat) : Rat) * (a - b) * a ^ n - (a ^ (n + 1) - b ^ (n + 1)) by grind) f;have d : 0 <= a - b := by grind
    have q := Rat.mul_nonneg (Rat.mul_nonneg (Rat.mul_nonneg i d) g) d;have r := Rat.mul_nonneg (show 0 <= a ^ (n + 1) - b ^ (n + 1) by have := As3 c h (n + 1); grind) d;rw [e];generalize ((n + 1 : Nat) : Rat) = N at *;rw [Rat.pow_succ a (n + 1), Rat.pow_succ b (n + 1)];rw [Rat.pow_succ a n, Rat.pow_succ b n] at *;generalize a ^ n = A at *;generalize b ^ n = B at *;constructor<;>grind
theorem Ex7 (c:inI x a)(f:inI x b)(h:b<=a)(n:Nat):((n+1:Nat):Rat)*(a-b)*(Ai3 x n).1<=a^(n+1)-b^(n+1)/\a^(n+1)-b^(n+1)<=((n+1:Nat):Rat)*(a-b)*(Ai3 x n).2:=by
 have r:(0:Rat)<=((n+1:Nat):Rat):=Rat.natCast_nonneg;have fin: ∀{a b L U S A B:Rat},b<=a->L<=A->A<=U->L<=B->B<=U->((n+1:Nat):Rat)*(a-b)*A<=S->S<=((n+1:Nat):Rat)*(a-b)*B->((n+1:Nat):Rat)*(a-b)*L<=S/\S<=((n+1:Nat):Rat)*(a-b)*U:=fun {a b L U S A B} h h1 g u v w y=>by
  have d:=Rat.mul_nonneg r (show 0<=a-b by grind);have C:=Rat.mul_nonneg d (show 0<=A-L by grind);have E:=Rat.mul_nonneg d (show 0<=U-B by grind);generalize ((n+1:Nat):Rat)*(a-b)=D at *;constructor<;>grind
 have pos: ∀{a b:Rat},inI x a->inI x b->0<=b->b<=a->((n+1:Nat):Rat)*(a-b)*(Ai3 x n).1<=a^(n+1)-b^(n+1)/\a^(n+1)-b^(n+1)<=((n+1:Nat):Rat)*(a-b)*(Ai3 x n).2:=fun {a b} c f i h=>by
  have s:=Br1 i h n;have p:=Da5 c n;have q:=Da5 f n;exact fin h q.1 q.2 p.1 p.2 s.1 s.2
 have neg: ∀{a b:Rat},inI x a->inI x b->a<=0->b<=a->((n+1:Nat):Rat)*(a-b)*(Ai3 x n).1<=a^(n+1)-b^(n+1)/\a^(n+1)-b^(n+1)<=((n+1:Nat):Rat)*(a-b)*(Ai3 x n).2:=fun {a b} c f i h=>by
  have s:=Br1 (a:=-b) (b:=-a) (by grind) (by grind) n;have p:=Da5 c n;have q:=Da5 f n;have j:=Ap2 a n;have k:=Ap2 b n;have m:=Ap2 a (n+1);have o:=Ap2 b (n+1);rw[show -b - -a=a-b by grind] at s;rcases(by omega:n%2=0\/n%2=1) with e | e
  ·rw[m.2 (by omega),o.2 (by omega),j.1 e,k.1 e] at s
   exact fin h p.1 p.2 q.1 q.2 (by grind) (by grind)
  ·rw[m.1 (by omega),o.1 (by omega),j.2 e,k.2 e] at s
   exact fin h q.1 q.2 p.1 p.2 (by grind) (by grind)
 by_cases h1:0<=b
 ·exact pos c f h1 h
 ·by_cases g:a<=0
  ·exact neg c f g h
  ·have z:inI x 0:=⟨Rat.le_trans f.1 (by grind),Rat.le_trans (by grind) c.2⟩
   have s:=pos c z Rat.le_refl (by grind);have t:=neg z f Rat.le_refl (by grind);rw[Bl8 (Nat.succ_pos n)] at s t;generalize ((n+1:Nat):Rat)=N at *;constructor<;>grind
theorem Fu7 (c:inI x a)(d:inI x b)(n:Nat): ∃g,inI (Ai3 x n) g/\a^(n+1)-b^(n+1)=((n+1:Nat):Rat)*g*(a-b):=by
 have k:(0:Rat)<((n+1:Nat):Rat):=by have:=Rat.natCast_pos (a:=n+1);exact this.2 (Nat.succ_pos n)
 have main: ∀{a b:Rat},inI x a->inI x b->b<a->∃g,inI (Ai3 x n) g/\a^(n+1)-b^(n+1)=((n+1:Nat):Rat)*g*(a-b):=fun {a b} c d h=>by
  obtain⟨s1,s2⟩:=Ex7 c d (Rat.le_of_lt h) n;have f:(0:Rat)<((n+1:Nat):Rat)*(a-b):=Rat.mul_pos k (by grind);generalize a^(n+1)-b^(n+1)=S at *;have q1:(Ai3 x n).1<=S/(((n+1:Nat):Rat)*(a-b)):=Rat.not_lt.1 λ h=>absurd ((Rat.div_lt_iff f).1 h) (Rat.not_lt.2 (by rw[Rat.mul_comm];exact s1));have m:S/(((n+1:Nat):Rat)*(a-b))<=(Ai3 x n).2:=Rat.not_lt.1 λ h=>absurd ((Rat.lt_div_iff f).1 h) (Rat.not_lt.2 (by rw[Rat.mul_comm];exact s2));have j:=Rat.div_mul_cancel (a:=S) (b:=((n+1:Nat):Rat)*(a-b)) (λ e=>by rw[e] at f;exact absurd f (by decide));refine⟨_,⟨q1,m⟩,?_⟩;generalize S/(((n+1:Nat):Rat)*(a-b))=g at j;generalize ((n+1:Nat):Rat)=N at j;grind
 by_cases h1:b<a
 ·exact main c d h1
 ·by_cases i:a<b
  ·obtain⟨g,h1,i⟩:=main d c i
   exact⟨g,h1,by generalize ((n+1:Nat):Rat)=N at i⊢;grind⟩
  ·have:a=b:=by grind
   subst this;exact⟨a^n,Da5 c n,by generalize ((n+1:Nat):Rat)=N;grind⟩
end Go.SX
