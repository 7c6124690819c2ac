/- Intervals, domains, models in memory. -/
import Derived.Test.YtjkkidjbppphpaaGreatDoorLib4
import Derived.Test.YtjkkidjbppphpaaGreatDoorLib2
set_option linter.unusedVariables false
set_option linter.unusedSimpArgs false
namespace Go.SX
theorem At6 {a b:Rat} :Co4 a b<0↔a<b:=by
 unfold Co4
 split
 ·simp[*]
 ·split<;>simp_all
theorem Al3 {a b:Rat} :0<Co4 a b↔b<a:=by
 unfold Co4
 split
 ·grind
 ·split
  ·rename_i h1 h2
   subst h2
   grind
  ·rename_i h1 h2
   constructor
   ·intro _
    exact Rat.not_le.1 fun h=>(Rat.le_iff_lt_or_eq.1 h).elim h1 h2
   ·intro _;omega
theorem El9 {a b:Rat} :0≤Co4 a b↔b≤a:=by rw[←Int.not_lt,At6,Rat.not_lt]
def SpV (tu:TypeId) (W:PW) (l:List Value) (x:Iv):Prop:=∃(s:Sl) (b:Bool) (t s':Sl) (b':Bool) (t':Sl),l = [s.v,.bool b,t.v,s'.v,.bool b',t'.v]∧Ab3 tu W s b t x.1∧Ab3 tu W s' b' t' x.2
def Ah6 (tu:TypeId) (W:PW) (l:List Value) (x:Iv):Prop:=∃(b:Bool) (s t:Sl) (b':Bool) (s' t':Sl),l = [.bool b,s.v,t.v,.bool b',s'.v,t'.v]∧Ab6 tu W b s t x.1∧Ab6 tu W b' s' t' x.2
theorem SpV.ext {tu:TypeId} {W W':PW} {l:List Value} {x:Iv} (h:SpV tu W l x) (hE:Ext W W'):SpV tu W' l x:=let⟨s,b,t,s',b',t',e,h1,h2⟩:=h;⟨s,b,t,s',b',t',e,h1.ext hE,h2.ext hE⟩
theorem Ah6.ext {tu:TypeId} {W W':PW} {l:List Value} {x:Iv} (h:Ah6 tu W l x) (hE:Ext W W'):Ah6 tu W' l x:=let⟨s,b,t,s',b',t',e,h1,h2⟩:=h;⟨s,b,t,s',b',t',e,h1.ext hE,h2.ext hE⟩
theorem SpV.mk {tu:TypeId} {W:PW} {s t s' t':Sl} {b b':Bool} {x:Iv} (h1:Ab3 tu W s b t x.1) (h2:Ab3 tu W s' b' t' x.2):SpV tu W [s.v,.bool b,t.v,s'.v,.bool b',t'.v] x:=⟨s,b,t,s',b',t',rfl,h1,h2⟩
theorem Ah6.mk {tu:TypeId} {W:PW} {s t s' t':Sl} {b b':Bool} {x:Iv} (h1:Ab6 tu W b s t x.1) (h2:Ab6 tu W b' s' t' x.2):Ah6 tu W [.bool b,s.v,t.v,.bool b',s'.v,t'.v] x:=⟨b,s,t,b',s',t',rfl,h1,h2⟩
theorem SpV.zero {tu:TypeId} (W:PW):SpV tu W [.slice none 0 0,.bool false,.slice none 0 0,.slice none 0 0,.bool false,.slice none 0 0] (0,0):=⟨⟨none,0,0⟩,false,⟨none,0,0⟩,⟨none,0,0⟩,false,⟨none,0,0⟩,rfl,Ar9 W,Ar9 W⟩
theorem Ah6.zero {tu:TypeId} (W:PW):Ah6 tu W [.bool false,.slice none 0 0,.slice none 0 0,.bool false,.slice none 0 0,.slice none 0 0] (0,0):=⟨false,⟨none,0,0⟩,⟨none,0,0⟩,false,⟨none,0,0⟩,⟨none,0,0⟩,rfl,Db0 W,Db0 W⟩
theorem Sl.Ck0 {s t:Sl} (h:s.v=t.v):s=t:=by
 cases s
 cases t
 simp only[Sl.v,Value.slice.injEq] at h
 obtain⟨rfl,rfl,rfl⟩:=h
 rfl
def IvS (k:Nat) (x:Iv):Prop:=Sz k x.1∧Sz k x.2
end Go.SX
/- Squares and boxes in memory. -/
namespace Go.SX
structure SqP where
 w:Rat
 g:Int
 q:List Tm
def SqX (tu tt:TypeId) (W:PW) (x:List Value) (s:SqP):Prop:=∃(s1:Sl) (b:Bool) (s2 sp:Sl),x = [s1.v,.bool b,s2.v,.int .i64 s.g,sp.v]∧Ab3 tu W s1 b s2 s.w∧Ab0 tu tt W sp s.q
def Gy0 (tu tt:TypeId) (W:PW) (x:List Value) (s:SqP):Prop:=∃(b:Bool) (s1 s2 sp:Sl),x = [.bool b,s1.v,s2.v,.int .i64 s.g,sp.v]∧Ab6 tu W b s1 s2 s.w∧Ag1 tu tt W sp s.q
theorem SqX.ext {tu tt:TypeId} {W W':PW} {x:List Value} {s:SqP} (h:SqX tu tt W x s) (hE:Ext W W'):SqX tu tt W' x s:=let⟨s1,b,s2,sp,e,h1,h2⟩:=h;⟨s1,b,s2,sp,e,h1.ext hE,h2.ext hE⟩
theorem Gy0.ext {tu tt:TypeId} {W W':PW} {x:List Value} {s:SqP} (h:Gy0 tu tt W x s) (hE:Ext W W'):Gy0 tu tt W' x s:=let⟨s1,b,s2,sp,e,h1,h2⟩:=h;⟨s1,b,s2,sp,e,h1.ext hE,h2.ext hE⟩
def Dr1 {α:Type} (R:PW→List Value→α→Prop) (sz:Nat) (W:PW) (s:Sl) (l:List α):Prop:=∃xs,Bf9 W sz s xs∧An5 (R W) xs l
theorem Dr1.ext {α:Type} {R:PW→List Value→α→Prop} {sz:Nat} (hR: ∀{W W':PW} {x:List Value} {a:α},R W x a→Ext W W'→R W' x a) {W W':PW} {s:Sl} {l:List α} (h:Dr1 R sz W s l) (hE:Ext W W'):Dr1 R sz W' s l:=let⟨xs,⟨t,h1⟩,h2⟩:=h;⟨xs,⟨t,h1.ext hE⟩,h2.mono fun _ _ h=>hR h hE⟩
theorem Dr1.n {α:Type} {R:PW→List Value→α→Prop} {sz:Nat} {W:PW} {s:Sl} {l:List α} (h:Dr1 R sz W s l):s.n=l.length:=let⟨xs,⟨_,h1⟩,h2⟩:=h;h1.1.trans h2.len
theorem Dr1.inB {α:Type} {R:PW→List Value→α→Prop} {sz:Nat} {W:PW} {s:Sl} {l:List α} (h:Dr1 R sz W s l) {i:Int} (h0:0≤i) (h1:i<(l.length:Int)):SX.inB s i:=let⟨xs,⟨_,h2⟩,h3⟩:=h;h2.inB h0 (by rw[h3.len];exact h1)
theorem Dr1.at {α:Type} {R:PW→List Value→α→Prop} {sz:Nat} {W:PW} {s:Sl} {l:List α} (h:Dr1 R sz W s l) {i:Nat} (hi:i<l.length): ∃x,R W x l[i]∧∀(off:Nat) {m:List Value},(x.drop off).take m.length=m→Aa7 W s sz i off m:=by
 obtain⟨xs,⟨t,h1⟩,h2⟩:=h
 obtain⟨x,hx,hr⟩:=h2.get (List.getElem?_eq_getElem hi)
 exact⟨x,hr,fun off m hm=>h1.part hx off hm⟩
theorem Dr1.nil {α:Type} {R:PW→List Value→α→Prop} {sz:Nat} (W:PW):Dr1 R sz W ⟨none,0,0⟩ ([]:List α):=⟨[],⟨0,rfl,Nat.le_refl _,Nat.zero_le _,fun x h=>by simp at h,.inl rfl⟩,trivial⟩
abbrev Gf7 (tu tt:TypeId):=Dr1 (SqX tu tt) 5
abbrev Gl2 (tu tt:TypeId):=Dr1 (Gy0 tu tt) 5
abbrev Bc3 (tu:TypeId):=Dr1 (SpV tu) 6
abbrev Fx4 (tu:TypeId):=Dr1 (Ah6 tu) 6
theorem Gf7.ext {tu tt:TypeId} {W W':PW} {s:Sl} {l:List SqP} (h:Gf7 tu tt W s l) (hE:Ext W W'):Gf7 tu tt W' s l:=Dr1.ext (R:=SqX tu tt) (fun h=>SqX.ext h) h hE
theorem Gl2.ext {tu tt:TypeId} {W W':PW} {s:Sl} {l:List SqP} (h:Gl2 tu tt W s l) (hE:Ext W W'):Gl2 tu tt W' s l:=Dr1.ext (R:=Gy0 tu tt) (fun h=>Gy0.ext h) h hE
theorem Bc3.ext {tu:TypeId} {W W':PW} {s:Sl} {l:List Iv} (h:Bc3 tu W s l) (hE:Ext W W'):Bc3 tu W' s l:=Dr1.ext (R:=SpV tu) (fun h=>SpV.ext h) h hE
theorem Fx4.ext {tu:TypeId} {W W':PW} {s:Sl} {l:List Iv} (h:Fx4 tu W s l) (hE:Ext W W'):Fx4 tu W' s l:=Dr1.ext (R:=Ah6 tu) (fun h=>Ah6.ext h) h hE
def Cn7 (bs:List Iv):Prop:=(1≤bs.length∧bs.length≤3)∧∀x∈bs,x.1<x.2
instance (bs:List Iv):Decidable (Cn7 bs):=by unfold Cn7;infer_instance
end Go.SX
/- Intervals hold what numbers of theirs come to: laws. -/
namespace Go.SX
def inI (x:Iv) (v:Rat):Prop:=x.1≤v∧v≤x.2
theorem Az6 {x:Rat} (h:0≤x): ∀n:Nat,0≤x^n
 | 0=>by rw[Rat.pow_zero];decide
 | n+1=>by rw[Rat.pow_succ];exact Rat.mul_nonneg (Az6 h n) h
theorem As3 {x y:Rat} (h:0≤x) (k:x≤y): ∀n:Nat,x^n≤y^n
 | 0=>by rw[Rat.pow_zero,Rat.pow_zero];exact Rat.le_refl
 | n+1=>by
  rw[Rat.pow_succ,Rat.pow_succ]
  have ih:=As3 h k n
  have h1:=Rat.mul_nonneg (show 0≤y^n-x^n by grind) h
  have h2:=Rat.mul_nonneg (Az6 (show 0≤y by grind) n) (show 0≤y-x by grind)
  grind
theorem Ap2 (x:Rat): ∀n:Nat,(n%2=0→(-x)^n=x^n)∧(n%2=1→(-x)^n = -(x^n))
 | 0=>⟨fun _=>by rw[Rat.pow_zero,Rat.pow_zero],fun h=>by omega⟩
 | n+1=>by
  obtain⟨h1,h2⟩:=Ap2 x n
  refine⟨fun h=>?_,fun h=>?_⟩
  ·rw[Rat.pow_succ,Rat.pow_succ,h2 (by omega)]
   grind
  ·rw[Rat.pow_succ,Rat.pow_succ,h1 (by omega)]
   grind
theorem Eo2 {a b v:Rat} (h:(a≤v∧v≤b)∨(b≤v∧v≤a)):inI (Ag0 a b) v:=by
 have h1:=Dh5 a b
 have h2:=Cl6 a b
 exact⟨by show Az9 a b≤v;grind,by show v≤Au7 a b;grind⟩
theorem Da5 {x:Iv} {v:Rat} (h:inI x v) (n:Nat):inI (Ai3 x n) (v^n):=by
 obtain⟨h1,h2⟩:=h
 unfold Ai3
 have ea:=(Ap2 x.1 n).1
 have ev:=(Ap2 v n).1
 have eb:=(Ap2 x.2 n).1
 have oa:=(Ap2 x.1 n).2
 have ov:=(Ap2 v n).2
 have ob:=(Ap2 x.2 n).2
 have r:=Cl6 (x.1^n) (x.2^n)
 split
 ·rename_i c
  obtain⟨c1,c2,c3,c4⟩:=c
  by_cases hv:0≤v
  ·have:=As3 hv h2 n
   have p:=Az6 hv n
   exact⟨p,by show v^n≤Au7 (x.1^n) (x.2^n);grind⟩
  ·have q:=As3 (show 0≤-v by grind) (show -v≤-x.1 by grind) n
   have p:=Az6 (show 0≤-v by grind) n
   rw[ev c2] at p q
   rw[ea c2] at q
   exact⟨p,by show v^n≤Au7 (x.1^n) (x.2^n);grind⟩
 ·rename_i c
  apply Eo2
  rcases(by omega:n=0∨n%2=1∨(0<n∧n%2=0)) with h0 | h0 | h0
  ·subst h0
   rw[Rat.pow_zero,Rat.pow_zero,Rat.pow_zero]
   exact .inl ⟨Rat.le_refl,Rat.le_refl⟩
  ·refine .inl ⟨?_,?_⟩
   ·by_cases ha:0≤x.1
    ·exact As3 ha h1 n
    ·by_cases hv:0≤v
     ·have p:=Az6 hv n
      have q:=Az6 (show 0≤-x.1 by grind) n
      rw[oa h0] at q
      grind
     ·have q:=As3 (show 0≤-v by grind) (show -v≤-x.1 by grind) n
      rw[oa h0,ov h0] at q
      grind
   ·by_cases hv:0≤v
    ·exact As3 hv h2 n
    ·by_cases hb:0≤x.2
     ·have p:=Az6 hb n
      have q:=Az6 (show 0≤-v by grind) n
      rw[ov h0] at q
      grind
     ·have q:=As3 (show 0≤-x.2 by grind) (show -x.2≤-v by grind) n
      rw[ob h0,ov h0] at q
      grind
  ·by_cases ha:0≤x.1
   ·exact .inl ⟨As3 ha h1 n,As3 (show 0≤v by grind) h2 n⟩
   ·have hb:¬0≤x.2:=fun hb=>c ⟨h0.1,h0.2,by grind,hb⟩
    have q1:=As3 (show 0≤-v by grind) (show -v≤-x.1 by grind) n
    have q2:=As3 (show 0≤-x.2 by grind) (show -x.2≤-v by grind) n
    rw[ea h0.2,ev h0.2] at q1
    rw[eb h0.2,ev h0.2] at q2
    exact .inr ⟨q2,q1⟩
end Go.SX
/- Intervals within intervals; sums of terms on intervals; the slope of a power: laws. -/
namespace Go.SX
def Ft1 (x y:Iv):Prop:=y.1≤x.1∧x.2≤y.2
/-! ### Slopes -/
theorem Br1 {a b : Rat} (hb : 0 ≤ b) (h : b ≤ a) : ∀ n : Nat, ((n + 1 : Nat) : Rat) * (a - b) * b ^ n ≤ a ^ (n + 1) - b ^ (n + 1) ∧ a ^ (n + 1) - b ^ (n + 1) ≤ ((n + 1 : Nat) : Rat) * (a - b) * a ^ n
  | 0 => by
    simp only [Rat.pow_succ, Rat.pow_zero]
    constructor <;> grind
  | n + 1 => by
    obtain ⟨h1, h2⟩ := Br1 hb h n
    have ha : 0 ≤ a := by grind
    have pb := Az6 hb n
    have pa := Az6 ha n
    have ab := As3 hb h n
    have e : ((n + 1 + 1 : Nat) : Rat) = ((n + 1 : Nat) : Rat) + 1 := by push_cast; rfl
    have hn : (0 : Rat) ≤ ((n + 1 : Nat) : Rat) := by have := Rat.natCast_nonneg (a := n + 1); exact this
    have u1 := Rat.mul_nonneg (show 0 ≤ a ^ (n + 1) - b ^ (n + 1) - ((n + 1 : Nat) : Rat) * (a - b) * b ^ n by grind) ha
    have u2 := Rat.mul_nonneg (show 0 ≤ ((n + 1 : Nat) : Rat) * (a - b) * a ^ n - (a ^ (n + 1) - b ^ (n + 1)) by grind) ha
    have d : 0 ≤ a - b := by grind
    have u3 := Rat.mul_nonneg (Rat.mul_nonneg (Rat.mul_nonneg hn d) pb) d
    have u4 := Rat.mul_nonneg (show 0 ≤ a ^ (n + 1) - b ^ (n + 1) by have := As3 hb h (n + 1); grind) d
    rw [e]
    generalize ((n + 1 : Nat) : Rat) = N at *
    rw [Rat.pow_succ a (n + 1), Rat.pow_succ b (n + 1)]
    rw [Rat.pow_succ a n, Rat.pow_succ b n] at *
    generalize a ^ n = A at *
    generalize b ^ n = B at *
    constructor <;> grind
theorem Ex7 {x:Iv} {a b:Rat} (ha:inI x a) (hb:inI x b) (h:b≤a) (n:Nat):((n+1:Nat):Rat)*(a-b)*(Ai3 x n).1≤a^(n+1)-b^(n+1)∧a^(n+1)-b^(n+1)≤((n+1:Nat):Rat)*(a-b)*(Ai3 x n).2:=by
 have hn:(0:Rat)≤((n+1:Nat):Rat):=Rat.natCast_nonneg
 have fin: ∀{a b L U S A B:Rat},b≤a→L≤A→A≤U→L≤B→B≤U→((n+1:Nat):Rat)*(a-b)*A≤S→S≤((n+1:Nat):Rat)*(a-b)*B→((n+1:Nat):Rat)*(a-b)*L≤S∧S≤((n+1:Nat):Rat)*(a-b)*U:=fun {a b L U S A B} h h1 h2 h3 h4 h5 h6=>by
  have d:=Rat.mul_nonneg hn (show 0≤a-b by grind)
  have e1:=Rat.mul_nonneg d (show 0≤A-L by grind)
  have e2:=Rat.mul_nonneg d (show 0≤U-B by grind)
  generalize ((n+1:Nat):Rat)*(a-b)=D at *
  constructor<;>grind
 have pos: ∀{a b:Rat},inI x a→inI x b→0≤b→b≤a→((n+1:Nat):Rat)*(a-b)*(Ai3 x n).1≤a^(n+1)-b^(n+1)∧a^(n+1)-b^(n+1)≤((n+1:Nat):Rat)*(a-b)*(Ai3 x n).2:=fun {a b} ha hb h0 h=>by
  have s:=Br1 h0 h n
  have p:=Da5 ha n
  have q:=Da5 hb n
  exact fin h q.1 q.2 p.1 p.2 s.1 s.2
 have neg: ∀{a b:Rat},inI x a→inI x b→a≤0→b≤a→((n+1:Nat):Rat)*(a-b)*(Ai3 x n).1≤a^(n+1)-b^(n+1)∧a^(n+1)-b^(n+1)≤((n+1:Nat):Rat)*(a-b)*(Ai3 x n).2:=fun {a b} ha hb h0 h=>by
  have s:=Br1 (a:=-b) (b:=-a) (by grind) (by grind) n
  have p:=Da5 ha n
  have q:=Da5 hb n
  have ea:=Ap2 a n
  have eb:=Ap2 b n
  have fa:=Ap2 a (n+1)
  have fb:=Ap2 b (n+1)
  rw[show -b - -a=a-b by grind] at s
  rcases(by omega:n%2=0∨n%2=1) with e | e
  ·rw[fa.2 (by omega),fb.2 (by omega),ea.1 e,eb.1 e] at s
   exact fin h p.1 p.2 q.1 q.2 (by grind) (by grind)
  ·rw[fa.1 (by omega),fb.1 (by omega),ea.2 e,eb.2 e] at s
   exact fin h q.1 q.2 p.1 p.2 (by grind) (by grind)
 by_cases h1:0≤b
 ·exact pos ha hb h1 h
 ·by_cases h2:a≤0
  ·exact neg ha hb h2 h
  ·have z:inI x 0:=⟨Rat.le_trans hb.1 (by grind),Rat.le_trans (by grind) ha.2⟩
   have s:=pos ha z Rat.le_refl (by grind)
   have t:=neg z hb Rat.le_refl (by grind)
   rw[Bl8 (Nat.succ_pos n)] at s t
   generalize ((n+1:Nat):Rat)=N at *
   constructor<;>grind
theorem Fu7 {x:Iv} {a b:Rat} (ha:inI x a) (hb:inI x b) (n:Nat): ∃g,inI (Ai3 x n) g∧a^(n+1)-b^(n+1)=((n+1:Nat):Rat)*g*(a-b):=by
 have hn:(0:Rat)<((n+1:Nat):Rat):=by have:=Rat.natCast_pos (a:=n+1);exact this.2 (Nat.succ_pos n)
 have main: ∀{a b:Rat},inI x a→inI x b→b<a→∃g,inI (Ai3 x n) g∧a^(n+1)-b^(n+1)=((n+1:Nat):Rat)*g*(a-b):=fun {a b} ha hb h=>by
  obtain⟨s1,s2⟩:=Ex7 ha hb (Rat.le_of_lt h) n
  have hd:(0:Rat)<((n+1:Nat):Rat)*(a-b):=Rat.mul_pos hn (by grind)
  generalize a^(n+1)-b^(n+1)=S at *
  have q1:(Ai3 x n).1≤S/(((n+1:Nat):Rat)*(a-b)):=Rat.not_lt.1 fun h=>absurd ((Rat.div_lt_iff hd).1 h) (Rat.not_lt.2 (by rw[Rat.mul_comm];exact s1))
  have q2:S/(((n+1:Nat):Rat)*(a-b))≤(Ai3 x n).2:=Rat.not_lt.1 fun h=>absurd ((Rat.lt_div_iff hd).1 h) (Rat.not_lt.2 (by rw[Rat.mul_comm];exact s2))
  have q3:=Rat.div_mul_cancel (a:=S) (b:=((n+1:Nat):Rat)*(a-b)) (fun e=>by rw[e] at hd;exact absurd hd (by decide))
  refine⟨_,⟨q1,q2⟩,?_⟩
  generalize S/(((n+1:Nat):Rat)*(a-b))=g at q3
  generalize ((n+1:Nat):Rat)=N at q3
  grind
 by_cases h1:b<a
 ·exact main ha hb h1
 ·by_cases h2:a<b
  ·obtain⟨g,h1,h2⟩:=main hb ha h2
   exact⟨g,h1,by generalize ((n+1:Nat):Rat)=N at h2⊢;grind⟩
  ·have:a=b:=by grind
   subst this
   exact⟨a^n,Da5 ha n,by generalize ((n+1:Nat):Rat)=N;grind⟩
end Go.SX
