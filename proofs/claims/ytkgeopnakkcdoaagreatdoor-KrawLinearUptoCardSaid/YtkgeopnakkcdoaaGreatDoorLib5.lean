import Derived.Test.YtkgeopnakkcdoaaGreatDoorLib4
import Derived.Test.YtkgeopnakkcdoaaGreatDoorLib2
import Derived.Test.YtkgeopnakkcdoaaGreatDoorLib3
set_option linter.unusedVariables false
set_option linter.unusedSimpArgs false
namespace Go.SX
variable {W W':PW}{a b:Rat}{b':Bool}{l:List Value}{tu:TypeId}{x:Iv}
theorem At6:Co4 a b<0↔a<b:=by
 unfold Co4;split
 ·simp[*]
 ·split<;>simp_all
theorem Al3:0<Co4 a b↔b<a:=by
 unfold Co4;split
 ·grind
 ·split
  ·rename_i h1 c
   subst c;grind
  ·rename_i h1 c
   constructor
   ·intro _
    exact Rat.not_le.1 λ h=>(Rat.le_iff_lt_or_eq.1 h).elim h1 c
   ·intro _;omega
theorem Dn3:Co4 a b<=0↔a<=b:=by rw[<-Int.not_lt,Al3,Rat.not_lt]
theorem El9:0<=Co4 a b↔b<=a:=by rw[<-Int.not_lt,At6,Rat.not_lt]
def SpV (tu:TypeId) (W:PW) (l:List Value) (x:Iv):Prop:=∃(s:Sl) (b:Bool) (t s':Sl) (b':Bool) (c:Sl),l = [s.v,.bool b,t.v,s'.v,.bool b',c.v]/\Ab3 tu W s b t x.1/\Ab3 tu W s' b' c x.2
def Ah6 (tu:TypeId) (W:PW) (l:List Value) (x:Iv):Prop:=∃(b:Bool) (s t:Sl) (b':Bool) (s' c:Sl),l = [.bool b,s.v,t.v,.bool b',s'.v,c.v]/\Ab6 tu W b s t x.1/\Ab6 tu W b' s' c x.2
theorem SpV.ext (h:SpV tu W l x)(c:Ext W W'):SpV tu W' l x:=let⟨s,b,t,s',b',d,e,h1,f⟩:=h;⟨s,b,t,s',b',d,e,h1.ext c,f.ext c⟩
theorem Ah6.ext (h:Ah6 tu W l x)(c:Ext W W'):Ah6 tu W' l x:=let⟨s,b,t,s',b',d,e,h1,f⟩:=h;⟨s,b,t,s',b',d,e,h1.ext c,f.ext c⟩
theorem SpV.mk {s t s' c:Sl}{b:Bool}(h1:Ab3 tu W s b t x.1)(d:Ab3 tu W s' b' c x.2):SpV tu W [s.v,.bool b,t.v,s'.v,.bool b',c.v] x:=⟨s,b,t,s',b',c,rfl,h1,d⟩
theorem Ah6.mk {s t s' c:Sl}{b:Bool}(h1:Ab6 tu W b s t x.1)(d:Ab6 tu W b' s' c x.2):Ah6 tu W [.bool b,s.v,t.v,.bool b',s'.v,c.v] x:=⟨b,s,t,b',s',c,rfl,h1,d⟩
theorem SpV.out {K:Sl->Bool->Sl->Sl->Bool->Sl->Prop}(h:SpV tu W l x)(k: ∀s b t s' b' c,SpV tu W [s.v,.bool b,t.v,s'.v,.bool b',c.v] x->K s b t s' b' c):
  ∃(s:Sl) (b:Bool) (t s':Sl) (b':Bool) (c:Sl),Value.agg ⟨l⟩ = .agg ⟨[s.v,.bool b,t.v,s'.v,.bool b',c.v]⟩/\K s b t s' b' c:=by
 obtain⟨s,b,t,s',b',c,rfl,h1,d⟩:=h;exact⟨s,b,t,s',b',c,rfl,k s b t s' b' c (SpV.mk h1 d)⟩
theorem SpV.zero (W:PW):SpV tu W [.slice none 0 0,.bool false,.slice none 0 0,.slice none 0 0,.bool false,.slice none 0 0] (0,0):=⟨⟨none,0,0⟩,false,⟨none,0,0⟩,⟨none,0,0⟩,false,⟨none,0,0⟩,rfl,Ar9 W,Ar9 W⟩
theorem Ah6.zero (W:PW):Ah6 tu W [.bool false,.slice none 0 0,.slice none 0 0,.bool false,.slice none 0 0,.slice none 0 0] (0,0):=⟨false,⟨none,0,0⟩,⟨none,0,0⟩,false,⟨none,0,0⟩,⟨none,0,0⟩,rfl,Db0 W,Db0 W⟩
theorem Sl.Ck0 {s t:Sl}(h:s.v=t.v):s=t:=by
 cases s;cases t;simp only[Sl.v,Value.slice.injEq] at h;obtain⟨rfl,rfl,rfl⟩:=h;rfl
def IvS (k:Nat) (x:Iv):Prop:=Sz k x.1/\Sz k x.2
def DmV (tu:TypeId) (W:PW) (l:List Value) (b:Nat->Iv):Prop:=∃(s0:Sl) (b0:Bool) (t0 s1:Sl) (b1:Bool) (t1 s2:Sl) (b2:Bool) (t2 s3:Sl) (c:Bool) (t3 s4:Sl) (d:Bool) (t4 e:Sl) (f:Bool) (t5:Sl),
 l = [s0.v,.bool b0,t0.v,s1.v,.bool b1,t1.v,s2.v,.bool b2,t2.v,s3.v,.bool c,t3.v,s4.v,.bool d,t4.v,e.v,.bool f,t5.v]/\SpV tu W [s0.v,.bool b0,t0.v,s1.v,.bool b1,t1.v] (b 0)/\SpV tu W [s2.v,.bool b2,t2.v,s3.v,.bool c,t3.v] (b 1)/\SpV tu W [s4.v,.bool d,t4.v,e.v,.bool f,t5.v] (b 2)
theorem DmV.ext {b:Nat->Iv}(h:DmV tu W l b)(c:Ext W W'):DmV tu W' l b:=by
 obtain⟨s0,b0,t0,s1,b1,t1,s2,b2,t2,s3,d,t3,s4,f,t4,g,n,t5,e,h1,o,p⟩:=h;exact⟨s0,b0,t0,s1,b1,t1,s2,b2,t2,s3,d,t3,s4,f,t4,g,n,t5,e,h1.ext c,o.ext c,p.ext c⟩
theorem DmV.box {j:Nat}{b:Nat->Iv}(h:DmV tu W l b)(n:j<3): ∃(s:Sl) (c:Bool) (t s':Sl) (d:Bool) (e:Sl),As9 l (0+Int.toNat (j:Int)*6+0) [s.v,.bool c,t.v,s'.v,.bool d,e.v]/\SpV tu W [s.v,.bool c,t.v,s'.v,.bool d,e.v] (b j):=by
 obtain⟨s0,b0,t0,s1,b1,t1,s2,b2,t2,s3,o,t3,s4,p,t4,q,v,t5,rfl,h1,f,g⟩:=h;rcases(by omega:j=0\/j=1\/j=2) with rfl | rfl | rfl
 ·exact⟨_,_,_,_,_,_,⟨by simp,rfl⟩,h1⟩
 ·exact⟨_,_,_,_,_,_,⟨by simp,rfl⟩,f⟩
 ·exact⟨_,_,_,_,_,_,⟨by simp,rfl⟩,g⟩
end Go.SX
namespace Go.SX
variable {W W':PW}{l:List Iv}{s:Sl}{tu:TypeId}{α:Type}
structure SqP where
 w:Rat
 g:Int
 q:List Tm
def Dr1 {α:Type} (R:PW->List Value->α->Prop) (sz:Nat) (W:PW) (s:Sl) (l:List α):Prop:=∃xs,Bf9 W sz s xs/\An5 (R W) xs l
theorem Dr1.ext {R:PW->List Value->α->Prop}{sz:Nat}(d: ∀{W W':PW} {x:List Value} {a:α},R W x a->Ext W W'->R W' x a){l:List α}(h:Dr1 R sz W s l)(c:Ext W W'):Dr1 R sz W' s l:=let⟨xs,⟨t,h1⟩,e⟩:=h;⟨xs,⟨t,h1.ext c⟩,e.mono λ _ _ h=>d h c⟩
theorem Dr1.n {R:PW->List Value->α->Prop}{sz:Nat}{l:List α}(h:Dr1 R sz W s l):s.n=l.length:=let⟨xs,⟨_,h1⟩,c⟩:=h;h1.1.trans c.len
theorem Dr1.inB {i:Int}{R:PW->List Value->α->Prop}{sz:Nat}{l:List α}(h:Dr1 R sz W s l)(c:0<=i)(h1:i<(l.length:Int)):SX.inB s i:=let⟨xs,⟨_,d⟩,e⟩:=h;d.inB c (by rw[e.len];exact h1)
theorem Dr1.at {R:PW->List Value->α->Prop}{sz:Nat}{l:List α}(h:Dr1 R sz W s l){i:Nat}(hi:i<l.length): ∃x,R W x l[i]/\∀(off:Nat) {m:List Value},(x.drop off).take m.length=m->Aa7 W s sz i off m:=by
 obtain⟨xs,⟨t,h1⟩,c⟩:=h;obtain⟨x,d,e⟩:=c.get (List.getElem?_eq_getElem hi);exact⟨x,e,λ off m hm=>h1.part d off hm⟩
theorem Dr1.nil {R:PW->List Value->α->Prop}{sz:Nat}(W:PW):Dr1 R sz W ⟨none,0,0⟩ ([]:List α):=⟨[],⟨0,rfl,Nat.le_refl _,Nat.zero_le _,λ x h=>by simp at h,.inl rfl⟩,trivial⟩
abbrev Bc3 (tu:TypeId):=Dr1 (SpV tu) 6
abbrev Fx4 (tu:TypeId):=Dr1 (Ah6 tu) 6
theorem Bc3.ext (h:Bc3 tu W s l)(c:Ext W W'):Bc3 tu W' s l:=Dr1.ext (R:=SpV tu) (λ h=>SpV.ext h) h c
theorem Fx4.ext (h:Fx4 tu W s l)(c:Ext W W'):Fx4 tu W' s l:=Dr1.ext (R:=Ah6 tu) (λ h=>Ah6.ext h) h c
def Cn7 (bs:List Iv):Prop:=(1<=bs.length/\bs.length<=3)/\∀x∈bs,x.1<x.2
instance (bs:List Iv):Decidable (Cn7 bs):=by unfold Cn7;infer_instance
end Go.SX
namespace Go.SX
variable {a b:Rat}{x y:Iv}
def inI (x:Iv) (v:Rat):Prop:=x.1<=v/\v<=x.2
theorem Gf0 {v:Rat}(w:Rat)(h1:a<=v)(c:v<=b):a*w<=v*w\/b*w<=v*w:=by
 by_cases hw:0<=w
 ·have:=Rat.mul_nonneg (show 0<=v-a by grind) hw
  exact .inl (by grind)
 ·have:=Rat.mul_nonneg (show 0<=b-v by grind) (show 0<=-w by grind)
  exact .inr (by grind)
theorem Ge3 {v:Rat}(w:Rat)(h1:a<=v)(c:v<=b):v*w<=a*w\/v*w<=b*w:=by
 by_cases hw:0<=w
 ·have:=Rat.mul_nonneg (show 0<=b-v by grind) hw
  exact .inr (by grind)
 ·have:=Rat.mul_nonneg (show 0<=v-a by grind) (show 0<=-w by grind)
  exact .inl (by grind)
theorem Hd8 {v w:Rat}(h:inI x v)(k:inI y w):inI (Cb5 x y) (v+w):=by
 obtain⟨h1,c⟩:=h;obtain⟨k1,d⟩:=k;exact⟨by show x.1+y.1<=v+w;grind,by show v+w<=x.2+y.2;grind⟩
theorem Gc0 {v w:Rat}(h:inI x v)(k:inI y w):inI (Ay9 x y) (v*w):=by
 obtain⟨h1,d⟩:=h;obtain⟨k1,c⟩:=k;have g:=Dh5 (Az9 (x.1*y.1) (x.2*y.2)) (Az9 (x.1*y.2) (x.2*y.1));have a2:=Dh5 (x.1*y.1) (x.2*y.2);have a3:=Dh5 (x.1*y.2) (x.2*y.1);have b1:=Cl6 (Au7 (x.1*y.1) (x.2*y.2)) (Au7 (x.1*y.2) (x.2*y.1));have b2:=Cl6 (x.1*y.1) (x.2*y.2);have n:=Cl6 (x.1*y.2) (x.2*y.1);constructor
 ·show Az9 (Az9 (x.1*y.1) (x.2*y.2)) (Az9 (x.1*y.2) (x.2*y.1))<=v*w
  rcases Gf0 w h1 d with e | e
  ·rcases Gf0 x.1 k1 c with f | f
   ·grind
   ·grind
  ·rcases Gf0 x.2 k1 c with f | f
   ·grind
   ·grind
 ·show v*w<=Au7 (Au7 (x.1*y.1) (x.2*y.2)) (Au7 (x.1*y.2) (x.2*y.1))
  rcases Ge3 w h1 d with e | e
  ·rcases Ge3 x.1 k1 c with f | f
   ·grind
   ·grind
  ·rcases Ge3 x.2 k1 c with f | f
   ·grind
   ·grind
theorem Az6 {x:Rat}(h:0<=x): ∀n:Nat,0<=x^n
 | 0=>by rw[Rat.pow_zero];decide
 | n+1=>by rw[Rat.pow_succ];exact Rat.mul_nonneg (Az6 h n) h
theorem As3 {x y:Rat}(h:0<=x)(k:x<=y): ∀n:Nat,x^n<=y^n
 | 0=>by rw[Rat.pow_zero,Rat.pow_zero];exact Rat.le_refl
 | n+1=>by
  rw[Rat.pow_succ,Rat.pow_succ];have ih:=As3 h k n;have h1:=Rat.mul_nonneg (show 0<=y^n-x^n by grind) h;have c:=Rat.mul_nonneg (Az6 (show 0<=y by grind) n) (show 0<=y-x by grind);grind
theorem Ap2 (x:Rat): ∀n:Nat,(n%2=0->(-x)^n=x^n)/\(n%2=1->(-x)^n = -(x^n))
 | 0=>⟨λ _=>by rw[Rat.pow_zero,Rat.pow_zero],λ h=>by omega⟩
 | n+1=>by
  obtain⟨h1,c⟩:=Ap2 x n;refine⟨λ h=>?_,λ h=>?_⟩
  ·rw[Rat.pow_succ,Rat.pow_succ,c (by omega)]
   grind
  ·rw[Rat.pow_succ,Rat.pow_succ,h1 (by omega)]
   grind
theorem Eo2 {v:Rat}(h:(a<=v/\v<=b)\/(b<=v/\v<=a)):inI (Ag0 a b) v:=by
 have h1:=Dh5 a b;have c:=Cl6 a b;exact⟨by show Az9 a b<=v;grind,by show v<=Au7 a b;grind⟩
theorem Da5 {v:Rat}(h:inI x v)(n:Nat):inI (Ai3 x n) (v^n):=by
 obtain⟨h1,g⟩:=h;unfold Ai3;have w:=(Ap2 x.1 n).1;have ev:=(Ap2 v n).1;have B:=(Ap2 x.2 n).1;have z:=(Ap2 x.1 n).2;have o:=(Ap2 v n).2;have C:=(Ap2 x.2 n).2;have r:=Cl6 (x.1^n) (x.2^n);split
 ·rename_i c
  obtain⟨c1,c2,D,E⟩:=c
  by_cases e:0<=v
  ·have:=As3 e g n
   have p:=Az6 e n;exact⟨p,by show v^n<=Au7 (x.1^n) (x.2^n);grind⟩
  ·have q:=As3 (show 0<=-v by grind) (show -v<=-x.1 by grind) n
   have p:=Az6 (show 0<=-v by grind) n;rw[ev c2] at p q;rw[w c2] at q;exact⟨p,by show v^n<=Au7 (x.1^n) (x.2^n);grind⟩
 ·rename_i c
  apply Eo2;rcases(by omega:n=0\/n%2=1\/(0<n/\n%2=0)) with d | d | d
  ·subst d
   rw[Rat.pow_zero,Rat.pow_zero,Rat.pow_zero];exact .inl ⟨Rat.le_refl,Rat.le_refl⟩
  ·refine .inl ⟨?_,?_⟩
   ·by_cases t:0<=x.1
    ·exact As3 t h1 n
    ·by_cases e:0<=v
     ·have p:=Az6 e n
      have q:=Az6 (show 0<=-x.1 by grind) n;rw[z d] at q;grind
     ·have q:=As3 (show 0<=-v by grind) (show -v<=-x.1 by grind) n
      rw[z d,o d] at q;grind
   ·by_cases e:0<=v
    ·exact As3 e g n
    ·by_cases f:0<=x.2
     ·have p:=Az6 f n
      have q:=Az6 (show 0<=-v by grind) n;rw[o d] at q;grind
     ·have q:=As3 (show 0<=-x.2 by grind) (show -x.2<=-v by grind) n
      rw[C d,o d] at q;grind
  ·by_cases t:0<=x.1
   ·exact .inl ⟨As3 t h1 n,As3 (show 0<=v by grind) g n⟩
   ·have f:¬0<=x.2:=λ f=>c ⟨d.1,d.2,by grind,f⟩
    have q1:=As3 (show 0<=-v by grind) (show -v<=-x.1 by grind) n;have A:=As3 (show 0<=-x.2 by grind) (show -x.2<=-v by grind) n;rw[w d.2,ev d.2] at q1;rw[B d.2,ev d.2] at A;exact .inr ⟨A,q1⟩
end Go.SX
namespace Go.SX
variable {W:PW}{i j:Nat}{m:Nat->Nat->Rat}{s:Sl}{ss:List Sl}{tq ts tu:TypeId}
def OwM (tu tq ts:TypeId) (W:PW) (s:Sl) (ss:List Sl) (c:Nat) (m:Nat->Nat->Rat):Prop:=
 Own W ts 1 s (ss.map λ x=>[x.v])/\(∀i (h:i<ss.length),∃xs,Own W tq 3 ss[i] xs/\Qs tu W xs c (m i))/\
  ∀i j (hi:i<ss.length) (d:j<ss.length),i≠j->∀g,ss[i].v.ownBlock=some g->ss[j].v.ownBlock≠some g
theorem OwM.ext {W':PW}{c:Nat}(h:OwM tu tq ts W s ss c m)(d:Ext W W'):OwM tu tq ts W' s ss c m:=
 ⟨h.1.ext d,λ i hi=>let⟨xs,k1,e⟩:=h.2.1 i hi;⟨xs,k1.ext d,e.ext d⟩,h.2.2⟩
theorem OwM.mat {c:Nat}(h:OwM tu tq ts W s ss c m):Gf9 tu tq ts W s ss.length (λ _=>c) m:=
 ⟨ss,h.1.row,rfl,λ i hi=>let⟨xs,k1,d⟩:=h.2.1 i hi;⟨xs,k1.row,d⟩⟩
theorem OwM.congr {m':Nat->Nat->Rat}{c:Nat}(h:OwM tu tq ts W s ss c m)(he: ∀i j,i<ss.length->j<c->m i j=m' i j):OwM tu tq ts W s ss c m':=
 ⟨h.1,λ i hi=>let⟨xs,k1,d⟩:=h.2.1 i hi;⟨xs,k1,d.congr λ j e=>he i j hi e⟩,h.2.2⟩
theorem OwM.elem {c:Nat}(h:OwM tu tq ts W s ss c m)(hi:i<ss.length):Aa7 W s 1 i 0 [ss[i].v]:=
 Row.elem h.1.row (x:=[ss[i].v]) (by simp[hi]) λ j v d=>by simpa using d
theorem OwM.at {c:Nat}(h:OwM tu tq ts W s ss c m)(hi:i<ss.length)(d:j<c): ∃(s1:Sl) (b:Bool) (s2:Sl),Aa7 W ss[i] 3 j 0 [s1.v,.bool b,s2.v]/\Ab3 tu W s1 b s2 (m i j):=by
 obtain⟨xs,k1,e⟩:=h.2.1 i hi;exact Gv6.at (n:=c) (f:=m i) ⟨xs,k1.row,e⟩ d
theorem OwM.n {c:Nat}(h:OwM tu tq ts W s ss c m):s.n=ss.length:=by rw[h.1.n,List.length_map]
theorem OwM.rn {c:Nat}(h:OwM tu tq ts W s ss c m)(hi:i<ss.length):ss[i].n=c:=by
 obtain⟨xs,k1,d⟩:=h.2.1 i hi;rw[k1.n,d.1]
theorem OwM.inB {c:Nat}(h:OwM tu tq ts W s ss c m){i:Int}(d:0<=i)(h1:i<(ss.length:Int)):SX.inB s i:=
 Row.inB h.1.row d (by rw[List.length_map];exact h1)
theorem OwM.Ne8 {c:Nat}(h:OwM tu tq ts W s ss c m)(hi:i<ss.length){j:Int}(d:0<=j)(h1:j<(c:Int)):SX.inB ss[i] j:=by
 obtain⟨xs,k1,e⟩:=h.2.1 i hi;exact Row.inB k1.row d (by rw[e.1];exact h1)
theorem Own.apart {t:TypeId}{d:TypeId}{o:Nat}{s':Sl}{xs:List (List Value)}{e:List (List Value)}{g:Nat}{sz:Nat}(h:Own W t sz s xs)(k:Own W d o s' e)(p:xs≠[])(q:e≠[])(v:t≠d)(w:s.v.ownBlock=some g):s'.v.ownBlock≠some g:=λ z=>by
 obtain⟨g1,c1,_,f,_,h1,_⟩:=h.at p;obtain⟨g2,c2,_,n,_,c,_⟩:=k.at q;rw[w] at f;rw[z] at n;cases f;cases n;rw[h1] at c;simp only[Option.some.injEq,Obj.cells.injEq] at c;exact v c.2.1
theorem OwM.store {W0:PW}{M:Nat->Prop}{s1:Sl}{s2:Sl}{b:Bool}{q:Rat}{K:PW->Prop}{c:Nat}(h:OwM tu tq ts W s ss c m)(hi:i<ss.length)(p:j<c)(A:Ab3 tu W s1 b s2 q)(hu:tu≠tq)(B:ts≠tq)(C: ∀g,ss[i].v.ownBlock=some g->may W0 M g)(D: ∀d,Au9 (λ g=>ss[i].v.ownBlock=some g) W d->Put tq (λ g=>ss[i].v.ownBlock=some g) W d->OwM tu tq ts d s ss c (Ha2 m i j q)->K d):An9 W0 M ss[i] (j*3+0) [s1.v,.bool b,s2.v] W K:=by
 obtain⟨h1,t,v⟩:=h;obtain⟨xs,k1,n⟩:=t i hi;have E:xs≠[]:=λ e=>by have:=n.1;rw[e] at this;simp at this;omega
 have F:(ss.map λ x=>[x.v])≠[]:=λ e=>by
  have:=congrArg List.length e;simp at this;subst this;simp at hi
 refine Ao7 k1 (by rw[n.1];exact p) rfl ?_ C λ d g f hw G=>D d (hw.Fi9.mono λ b e=>by rw[show b=g from e];exact f) ⟨g,f,hw⟩ ⟨h1.other hw.Fi9 λ w o e=>?_,λ a z=>?_,v⟩
 ·intro u hu
  simp only[List.mem_cons,List.not_mem_nil,or_false] at hu;rcases hu with rfl | rfl | rfl<;>rfl
 ·have e:w=g:=e
  subst e;exact Own.apart h1 k1 F E B o f
 ·by_cases e:a=i
  ·subst e
   refine⟨_,G,?_⟩;have:=(hw.qs n hu).set p (hw.rat A hu);refine this.congr λ k hk=>?_;unfold Ha2
   by_cases e:k=j<;>simp[e]
  ·obtain⟨H,I,J⟩:=t a z
   refine⟨H,I.other hw.Fi9 λ w o=>?_,(hw.qs J hu).congr λ k hk=>?_⟩
   ·rintro rfl
    exact v a i z hi e _ o f
   ·unfold Ha2
    simp[e]
end Go.SX
namespace Go.SX
variable {K:PW->Prop}{M:Nat->Prop}{W W0:PW}{a i k:Nat}{m:Nat->Nat->Rat}{pp ss:List Sl}{s:Sl}{tq ts tu:TypeId}
def OwP (tu tq ts:TypeId) (W:PW) (s:Sl) (pp ss:List Sl) (c:Nat) (m:Nat->Nat->Rat):Prop:=
 Own W ts 1 s (pp.map λ x=>[x.v])/\(∀i (h:i<ss.length),∃xs,Own W tq 3 ss[i] xs/\Qs tu W xs c (m i))/\
  ∀i j (hi:i<ss.length) (d:j<ss.length),i≠j->∀g,ss[i].v.ownBlock=some g->ss[j].v.ownBlock≠some g
theorem OwP.put {x:Sl}{c:Nat}(h:OwP tu tq ts W s pp ss c m)(hi:i<pp.length)(G:0<c)(hu:tu≠ts)(q:tq≠ts)(t: ∀g,s.v.ownBlock=some g->may W0 M g)(v: ∀d,Au9 (λ g=>s.v.ownBlock=some g) W d->OwP tu tq ts d s (pp.set i x) ss c m->K d):An9 W0 M s (i*1+0) [x.v] W K:=by
 obtain⟨h1,w,z⟩:=h;have A:(pp.map λ x=>[x.v])≠[]:=λ e=>by
  have:=congrArg List.length e;simp at this;subst this;simp at hi
 refine Ao7 h1 (by simpa using hi) rfl ?_ t λ d g f hw B=>v d (hw.Fi9.mono λ b e=>by rw[show b=g from e];exact f) ⟨?_,λ a C=>?_,z⟩
 ·intro u hu
  simp only[List.mem_cons,List.not_mem_nil,or_false] at hu;subst hu;rfl
 ·rw[List.map_set]
  exact B
 ·obtain⟨n,o,p⟩:=w a C
  have D:n≠[]:=λ e=>by have:=p.1;rw[e] at this;simp at this;omega
  refine⟨n,o.other hw.Fi9 λ E F e=>?_,hw.qs p hu⟩;have e:E=g:=e;subst e;exact Own.apart o h1 D A q F f
def tr (i k a:Nat):Nat:=if a=i then k else if a=k then i else a
theorem Mz0 {n:Nat}(hi:i<n)(hk:k<n)(c:a<n):tr i k a<n:=by unfold tr;split<;>(try split)<;>omega
theorem Nf2 {b:Nat}(h:tr i k a=tr i k b):a=b:=by
 unfold tr at h
 (repeat' split at h)<;>omega
def Mv2 (m:Nat->Nat->Rat) (i k:Nat):Nat->Nat->Rat:=λ a b=>m (tr i k a) b
theorem Nb8 {c:Nat}(h:OwP tu tq ts W s pp ss c m)(v:pp.length=ss.length)(hi:i<ss.length)(hk:k<ss.length)(f: ∀a (h1:a<pp.length) (d:tr i k a<ss.length),pp[a]=ss[tr i k a]):OwM tu tq ts W s pp c (Mv2 m i k):=by
 refine⟨h.1,λ a n=>?_,λ a b n q t g o=>?_⟩
 ·have d:=Mz0 hi hk (a:=a) (by omega)
  rw[f a n d];exact h.2.1 _ d
 ·have d:=Mz0 hi hk (a:=a) (by omega)
  have p:=Mz0 hi hk (a:=b) (by omega);rw[f a n d] at o;rw[f b q p];exact h.2.2 _ _ d p (λ e=>t (Nf2 e)) g o
theorem OwM.swap {B:Prop}{c:Nat}(h:OwM tu tq ts W s ss c m)(z:B)(hi:i<ss.length)(hk:k<ss.length)(o:0<c)(hu:tu≠ts)(p:tq≠ts)(q: ∀g,s.v.ownBlock=some g->may W0 M g)(A: ∀(d:List Sl) n,Au9 (λ g=>s.v.ownBlock=some g) W n->d.length=ss.length->(∀a (h1:a<d.length),∃b,∃(f:b<ss.length),d[a]=ss[b])->OwM tu tq ts n s d c (Mv2 m i k)->K n):An9 W0 M s (i*1+0) [ss[k].v] W λ t=>B/\An9 W0 M s (k*1+0) [ss[i].v] t K:=by
 have C:OwP tu tq ts W s ss ss c m:=h;refine C.put hi o hu p q λ t D h1=>?_;refine⟨z,h1.put (by simpa using hk) o hu p q λ E F f=>?_⟩;have v:((ss.set i ss[k]).set k ss[i]).length=ss.length:=by simp
 have w: ∀a (h1:a<((ss.set i ss[k]).set k ss[i]).length) (f:tr i k a<ss.length),((ss.set i ss[k]).set k ss[i])[a]=ss[tr i k a]:=λ a h1 f=>by
  rw[List.getElem_set];split
  ·rename_i e
   subst e;congr 1;unfold tr;split
   ·rename_i e;exact e.symm
   ·rw[if_pos rfl]
  ·rename_i ne
   rw[List.getElem_set];split
   ·rename_i e
    subst e;congr 1;unfold tr;rw[if_pos rfl]
   ·rename_i G
    congr 1;unfold tr;rw[if_neg (λ e=>G e.symm),if_neg (λ e=>ne e.symm)]
 exact A _ E (D.trans F) v (λ a H=>⟨tr i k a,Mz0 hi hk (by omega),w a H _⟩) (Nb8 f v hi hk w)
end Go.SX
namespace Go.SX
variable {a k r:Nat}{m:Nat->Nat->Rat}{u:Nat->Rat}
theorem Mv8 (x y t:Nat->Rat)(f:Rat)(n:Nat):Mu5 (λ k=>(x k-f*y k)*t k) n=Mu5 (λ k=>x k*t k) n-f*Mu5 (λ k=>y k*t k) n:=by
 have e:Mu5 (λ k=>(x k-f*y k)*t k) n=Mu5 (λ k=>x k*t k+(-f)*(y k*t k)) n:=Mu6 λ j _=>by grind
 rw[e,Mw5,Mu8];grind
def Mz8 (m:Nat->Nat->Rat) (i:Nat):Nat->Nat->Rat:=λ a b=>if a≠i/\i<=b then m a b-m a i/m i i*m i b else m a b
def pv (m:Nat->Nat->Rat) (k r:Nat):Option Nat:=(List.range r).find? λ a=>decide (k<=a/\m a k≠0)
def gjG (r:Nat) (A:Nat->Nat->Rat):Nat->Option (Nat->Nat->Rat)
 | 0=>some A
 | k+1=>match gjG r A k with
  | none=>none
  | some m=>match pv m k r with
   | none=>none
   | some a=>some (Mz8 (Mv2 m a k) k)
theorem Mw7 (h:pv m k r=some a):k<=a/\a<r/\m a k≠0:=by
 unfold pv at h;have h1:=List.find?_some h;have c:=List.mem_of_find?_eq_some h;have h1:=of_decide_eq_true h1;exact⟨h1.1,List.mem_range.1 c,h1.2⟩
theorem Ne2 (h:pv m k r=none): ∀a,k<=a->a<r->m a k=0:=λ a h1 c=>by
 unfold pv at h;rw[List.find?_eq_none] at h;have:=h a (List.mem_range.2 c);exact Decidable.byContradiction λ e=>this (decide_eq_true ⟨h1,e⟩)
theorem Nc7 (h1:k<=a)(c:a<r)(d:m a k≠0)(q: ∀b,k<=b->b<a->m b k=0):pv m k r=some a:=by
 cases e:pv m k r with
 | none=>exact absurd (Ne2 e a h1 c) d
 | some b=>
  obtain⟨g1,g2,g3⟩:=Mw7 e;have z:¬b<a:=λ t=>g3 (q b g1 t)
  by_cases f:b=a
  ·rw[f]
  ·exfalso
   unfold pv at e;obtain⟨_,l1,A,g,v⟩:=List.find?_eq_some_iff_append.1 e;have w:a∈l1:=by
    have o:a∈List.range r:=List.mem_range.2 c;rw[g] at o;rcases List.mem_append.1 o with h | h
    ·exact h
    ·rcases List.mem_cons.1 h with h | h
     ·exact absurd h.symm f
     ·have p:=List.pairwise_lt_range (n:=r)
      rw[g] at p;have:=(List.pairwise_cons.1 (List.pairwise_append.1 p).2.1).1 a h;omega
   have:=v a w;simp[h1,d] at this
def Sol (r:Nat) (m:Nat->Nat->Rat) (u v:Nat->Rat):Prop:=∀a,a<r->Mu5 (λ b=>m a b*u b) r=Mu5 (λ j=>m a (r+j)*v j) r
structure Clean (r:Nat) (m:Nat->Nat->Rat) (k:Nat):Prop where
 d: ∀b,b<k->m b b≠0
 z: ∀b,b<k->∀a,a<r->a≠b->m a b=0
theorem Nf6 (i k a:Nat):tr i k (tr i k a)=a:=by
 unfold tr
 (repeat' split)<;>omega
theorem Nc4 {i:Nat}{v:Nat->Rat}(hi:i<r)(hk:k<r):Sol r (Mv2 m i k) u v↔Sol r m u v:=by
 constructor
 ·intro h a c
  have:=h (tr i k a) (Mz0 hi hk c);unfold Mv2 at this
  rwa [Nf6] at this
 ·intro h a c
  exact h _ (Mz0 hi hk c)
theorem Nc3 {v:Nat->Rat}(hk:k<r)(n: ∀b,b<k->m k b=0):Sol r (Mz8 m k) u v↔Sol r m u v:=by
 have f: ∀a b,a≠k->Mz8 m k a b=m a b-m a k/m k k*m k b:=λ a b d=>by
  unfold Mz8
  by_cases o:k<=b
  ·rw[if_pos ⟨d,o⟩]
  ·rw[if_neg (by omega),n b (by omega)]
   grind
 have g: ∀b,Mz8 m k k b=m k b:=λ b=>by
  unfold Mz8;rw[if_neg (by omega)]
 constructor
 ·intro h a d
  have c:=h k hk;simp only[g] at c
  by_cases e:a=k
  ·subst e;exact c
  ·have:=h a d
   simp only[f a _ e] at this;rw[Mv8,Mv8,c] at this;grind
 ·intro h a d
  have c:=h k hk
  by_cases e:a=k
  ·subst e
   simp only[g];exact c
  ·simp only[f a _ e]
   rw[Mv8,Mv8,c,h a d]
theorem Nb2 (h:Clean r m k)(h1:k<=a)(q:a<r)(n:m a k≠0):Clean r (Mz8 (Mv2 m a k) k) (k+1):=by
 have o:Mv2 m a k k k=m a k:=by
  unfold Mv2 tr
  by_cases e:k=a
  ·rw[if_pos e]
   rw[<-e]
  ·rw[if_neg e,if_pos rfl]
 have p: ∀c b,b<k->c<r->(c≠b->Mv2 m a k c b=0)/\(c=b->Mv2 m a k c b=m b b):=λ c b d g=>by
  unfold Mv2 tr;refine⟨λ f=>?_,λ e=>?_⟩
  ·split
   ·exact h.z b d _ (by omega) (by omega)
   ·split
    ·exact h.z b d _ (by omega) (by omega)
    ·exact h.z b d _ g f
  ·subst e
   rw[if_neg (by omega),if_neg (by omega)]
 refine⟨λ b d=>?_,λ b d c g f=>?_⟩
 ·unfold Mz8
  by_cases e:b=k
  ·subst e
   rw[if_neg (by omega),o];exact n
  ·rw[if_neg (by omega),(p b b (by omega) (by omega)).2 rfl]
   exact h.d b (by omega)
 ·unfold Mz8
  by_cases e:b=k
  ·subst e
   rw[if_pos ⟨f,Nat.le_refl _⟩,o];rw[Rat.div_mul_cancel n];grind
  ·rw[if_neg (by omega)]
   exact(p c b (by omega) g).1 f
theorem Nb6 {r:Nat}{A:Nat->Nat->Rat}: ∀{k:Nat} {m:Nat->Nat->Rat},k<=r->gjG r A k=some m->Clean r m k/\∀u v,Sol r m u v↔Sol r A u v
 | 0,m,_,h=>by
  cases h;exact⟨⟨λ b h=>by omega,λ b h=>by omega⟩,λ u v=>Iff.rfl⟩
 | k+1,m,hk,h=>by
  rw[gjG] at h
  cases e:gjG r A k with
  | none=>rw[e] at h;cases h
  | some m0=>
   rw[e] at h;dsimp only at h
   cases d:pv m0 k r with
   | none=>rw[d] at h;cases h
   | some a=>
    rw[d] at h;cases h;obtain⟨c,s⟩:=Nb6 (by omega) e;obtain⟨h1,f,g⟩:=Mw7 d;refine⟨Nb2 c h1 f g,λ u v=>?_⟩;rw[Nc3 (by omega),Nc4 f (by omega),s];intro b n;unfold Mv2;refine c.z b n _ (Mz0 f (by omega) (by omega)) ?_;unfold tr;split
    ·omega
    ·rw[if_pos rfl];omega
def Mw0 (r:Nat) (m:Nat->Nat->Rat):Nat->Nat->Rat:=λ a b=>if b<r then m a b else if a=b-r then 1 else 0
theorem Nd9 {v:Nat->Rat}:Sol r (Mw0 r m) u v↔∀a,a<r->Mu5 (λ b=>m a b*u b) r=v a:=by
 have d: ∀a,Mu5 (λ b=>Mw0 r m a b*u b) r=Mu5 (λ b=>m a b*u b) r:=λ a=>Mu6 λ b f=>by unfold Mw0;rw[if_pos f]
 have e: ∀a,a<r->Mu5 (λ j=>Mw0 r m a (r+j)*v j) r=v a:=λ a c=>by
  rw[Mv4 c λ j _ g=>?_]
  ·unfold Mw0
   rw[if_neg (by omega),if_pos (by omega),Rat.one_mul]
  ·unfold Mw0
   rw[if_neg (by omega),if_neg (by omega),Rat.zero_mul]
 exact⟨λ h a c=>by rw[<-d,h a c,e a c],λ h a c=>by rw[d,h a c,e a c]⟩
def My2 (r:Nat) (M:Nat->Nat->Rat):Nat->Nat->Rat:=λ a b=>M a (r+b)/M a a
theorem Ne1 {M:Nat->Nat->Rat}(h:gjG r (Mw0 r m) r=some M)(u v:Nat->Rat):(∀a,a<r->Mu5 (λ b=>m a b*u b) r=v a)↔∀a,a<r->u a=Mu5 (λ j=>My2 r M a j*v j) r:=by
 obtain⟨c,s⟩:=Nb6 (Nat.le_refl r) h;rw[<-Nd9,<-s];have g: ∀a,a<r->Mu5 (λ b=>M a b*u b) r=M a a*u a:=λ a d=>Mv4 d λ j o p=>by rw[c.z j o a d (λ e=>p e.symm),Rat.zero_mul]
 have n: ∀a,a<r->Mu5 (λ j=>My2 r M a j*v j) r=Mu5 (λ j=>M a (r+j)*v j) r/M a a:=λ a d=>by
  have:Mu5 (λ j=>My2 r M a j*v j) r=Mu5 (λ j=>(1/M a a)*(M a (r+j)*v j)) r:=Mu6 λ j _=>by
   unfold My2;rw[Rat.div_def,Rat.div_def];grind
  rw[this,Mu8,Rat.div_def,Rat.div_def];grind
 constructor
 ·intro h a d
  have:=h a d;rw[g a d] at this;rw[n a d,<-this];have f:=c.d a d;rw[Rat.mul_comm,Rat.div_def,Rat.mul_assoc,Rat.mul_inv_cancel _ f,Rat.mul_one]
 ·intro h a d
  have:=h a d;rw[n a d] at this;have f:=c.d a d;rw[g a d,this,Rat.mul_comm,Rat.div_mul_cancel f]
end Go.SX
