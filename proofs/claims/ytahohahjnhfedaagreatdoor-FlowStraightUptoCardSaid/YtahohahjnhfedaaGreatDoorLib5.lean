/- Intervals hold what numbers of theirs come to: laws. -/
import Derived.Test.YtahohahjnhfedaaGreatDoorLib4
import Derived.Test.YtahohahjnhfedaaGreatDoorLib3
set_option linter.unusedVariables false
set_option linter.unusedSimpArgs false
namespace Go.SX
def inI (x:Iv) (v:Rat):Prop:=x.1≤v∧v≤x.2
theorem Az6 {x:Rat} (h:0≤x): ∀n:Nat,0≤x^n
 | 0=>by rw[Rat.pow_zero];decide
 | n+1=>by rw[Rat.pow_succ];exact Rat.mul_nonneg (Az6 h n) h
theorem As3 {x y:Rat} (h:0≤x) (k:x≤y): ∀n:Nat,x^n≤y^n
 | 0=>by rw[Rat.pow_zero,Rat.pow_zero];exact Rat.le_refl
 | n+1=>by
  rw[Rat.pow_succ,Rat.pow_succ]
  have ih:=As3 h k n
  have h1:=Rat.mul_nonneg (show 0≤y^n-x^n by grind) h
  have h2:=Rat.mul_nonneg (Az6 (show 0≤y by grind) n) (show 0≤y-x by grind)
  grind
theorem Ap2 (x:Rat): ∀n:Nat,(n%2=0→(-x)^n=x^n)∧(n%2=1→(-x)^n = -(x^n))
 | 0=>⟨fun _=>by rw[Rat.pow_zero,Rat.pow_zero],fun h=>by omega⟩
 | n+1=>by
  obtain⟨h1,h2⟩:=Ap2 x n
  refine⟨fun h=>?_,fun h=>?_⟩
  ·rw[Rat.pow_succ,Rat.pow_succ,h2 (by omega)]
   grind
  ·rw[Rat.pow_succ,Rat.pow_succ,h1 (by omega)]
   grind
theorem Eo2 {a b v:Rat} (h:(a≤v∧v≤b)∨(b≤v∧v≤a)):inI (Ag0 a b) v:=by
 have h1:=Dh5 a b
 have h2:=Cl6 a b
 exact⟨by show Az9 a b≤v;grind,by show v≤Au7 a b;grind⟩
theorem Da5 {x:Iv} {v:Rat} (h:inI x v) (n:Nat):inI (Ai3 x n) (v^n):=by
 obtain⟨h1,h2⟩:=h
 unfold Ai3
 have ea:=(Ap2 x.1 n).1
 have ev:=(Ap2 v n).1
 have eb:=(Ap2 x.2 n).1
 have oa:=(Ap2 x.1 n).2
 have ov:=(Ap2 v n).2
 have ob:=(Ap2 x.2 n).2
 have r:=Cl6 (x.1^n) (x.2^n)
 split
 ·rename_i c
  obtain⟨c1,c2,c3,c4⟩:=c
  by_cases hv:0≤v
  ·have:=As3 hv h2 n
   have p:=Az6 hv n
   exact⟨p,by show v^n≤Au7 (x.1^n) (x.2^n);grind⟩
  ·have q:=As3 (show 0≤-v by grind) (show -v≤-x.1 by grind) n
   have p:=Az6 (show 0≤-v by grind) n
   rw[ev c2] at p q
   rw[ea c2] at q
   exact⟨p,by show v^n≤Au7 (x.1^n) (x.2^n);grind⟩
 ·rename_i c
  apply Eo2
  rcases(by omega:n=0∨n%2=1∨(0<n∧n%2=0)) with h0 | h0 | h0
  ·subst h0
   rw[Rat.pow_zero,Rat.pow_zero,Rat.pow_zero]
   exact .inl ⟨Rat.le_refl,Rat.le_refl⟩
  ·refine .inl ⟨?_,?_⟩
   ·by_cases ha:0≤x.1
    ·exact As3 ha h1 n
    ·by_cases hv:0≤v
     ·have p:=Az6 hv n
      have q:=Az6 (show 0≤-x.1 by grind) n
      rw[oa h0] at q
      grind
     ·have q:=As3 (show 0≤-v by grind) (show -v≤-x.1 by grind) n
      rw[oa h0,ov h0] at q
      grind
   ·by_cases hv:0≤v
    ·exact As3 hv h2 n
    ·by_cases hb:0≤x.2
     ·have p:=Az6 hb n
      have q:=Az6 (show 0≤-v by grind) n
      rw[ov h0] at q
      grind
     ·have q:=As3 (show 0≤-x.2 by grind) (show -x.2≤-v by grind) n
      rw[ob h0,ov h0] at q
      grind
  ·by_cases ha:0≤x.1
   ·exact .inl ⟨As3 ha h1 n,As3 (show 0≤v by grind) h2 n⟩
   ·have hb:¬0≤x.2:=fun hb=>c ⟨h0.1,h0.2,by grind,hb⟩
    have q1:=As3 (show 0≤-v by grind) (show -v≤-x.1 by grind) n
    have q2:=As3 (show 0≤-x.2 by grind) (show -x.2≤-v by grind) n
    rw[ea h0.2,ev h0.2] at q1
    rw[eb h0.2,ev h0.2] at q2
    exact .inr ⟨q2,q1⟩
end Go.SX
/- Intervals within intervals; sums of terms on intervals; the slope of a power: laws. -/
namespace Go.SX
def Ft1 (x y:Iv):Prop:=y.1≤x.1∧x.2≤y.2
theorem Ht1 {a b:Rat} (h:a≤b):Az9 a b=a∧Au7 a b=b:=by
 unfold Az9 Au7
 constructor<;>split<;>grind
/-! ### Slopes -/
theorem Br1 {a b : Rat} (hb : 0 ≤ b) (h : b ≤ a) : ∀ n : Nat, ((n + 1 : Nat) : Rat) * (a - b) * b ^ n ≤ a ^ (n + 1) - b ^ (n + 1) ∧ a ^ (n + 1) - b ^ (n + 1) ≤ ((n + 1 : Nat) : Rat) * (a - b) * a ^ n
  | 0 => by
    simp only [Rat.pow_succ, Rat.pow_zero]
    constructor <;> grind
  | n + 1 => by
    obtain ⟨h1, h2⟩ := Br1 hb h n
    have ha : 0 ≤ a := by grind
    have pb := Az6 hb n
    have pa := Az6 ha n
    have ab := As3 hb h n
    have e : ((n + 1 + 1 : Nat) : Rat) = ((n + 1 : Nat) : Rat) + 1 := by push_cast; rfl
    have hn : (0 : Rat) ≤ ((n + 1 : Nat) : Rat) := by have := Rat.natCast_nonneg (a := n + 1); exact this
    have u1 := Rat.mul_nonneg (show 0 ≤ a ^ (n + 1) - b ^ (n + 1) - ((n + 1 : Nat) : Rat) * (a - b) * b ^ n by grind) ha
    have u2 := Rat.mul_nonneg (show 0 ≤ ((n + 1 : Nat) : Rat) * (a - b) * a ^ n - (a ^ (n + 1) - b ^ (n + 1)) by grind) ha
    have d : 0 ≤ a - b := by grind
    have u3 := Rat.mul_nonneg (Rat.mul_nonneg (Rat.mul_nonneg hn d) pb) d
    have u4 := Rat.mul_nonneg (show 0 ≤ a ^ (n + 1) - b ^ (n + 1) by have := As3 hb h (n + 1); grind) d
    rw [e]
    generalize ((n + 1 : Nat) : Rat) = N at *
    rw [Rat.pow_succ a (n + 1), Rat.pow_succ b (n + 1)]
    rw [Rat.pow_succ a n, Rat.pow_succ b n] at *
    generalize a ^ n = A at *
    generalize b ^ n = B at *
    constructor <;> grind
theorem Ex7 {x:Iv} {a b:Rat} (ha:inI x a) (hb:inI x b) (h:b≤a) (n:Nat):((n+1:Nat):Rat)*(a-b)*(Ai3 x n).1≤a^(n+1)-b^(n+1)∧a^(n+1)-b^(n+1)≤((n+1:Nat):Rat)*(a-b)*(Ai3 x n).2:=by
 have hn:(0:Rat)≤((n+1:Nat):Rat):=Rat.natCast_nonneg
 have fin: ∀{a b L U S A B:Rat},b≤a→L≤A→A≤U→L≤B→B≤U→((n+1:Nat):Rat)*(a-b)*A≤S→S≤((n+1:Nat):Rat)*(a-b)*B→((n+1:Nat):Rat)*(a-b)*L≤S∧S≤((n+1:Nat):Rat)*(a-b)*U:=fun {a b L U S A B} h h1 h2 h3 h4 h5 h6=>by
  have d:=Rat.mul_nonneg hn (show 0≤a-b by grind)
  have e1:=Rat.mul_nonneg d (show 0≤A-L by grind)
  have e2:=Rat.mul_nonneg d (show 0≤U-B by grind)
  generalize ((n+1:Nat):Rat)*(a-b)=D at *
  constructor<;>grind
 have pos: ∀{a b:Rat},inI x a→inI x b→0≤b→b≤a→((n+1:Nat):Rat)*(a-b)*(Ai3 x n).1≤a^(n+1)-b^(n+1)∧a^(n+1)-b^(n+1)≤((n+1:Nat):Rat)*(a-b)*(Ai3 x n).2:=fun {a b} ha hb h0 h=>by
  have s:=Br1 h0 h n
  have p:=Da5 ha n
  have q:=Da5 hb n
  exact fin h q.1 q.2 p.1 p.2 s.1 s.2
 have neg: ∀{a b:Rat},inI x a→inI x b→a≤0→b≤a→((n+1:Nat):Rat)*(a-b)*(Ai3 x n).1≤a^(n+1)-b^(n+1)∧a^(n+1)-b^(n+1)≤((n+1:Nat):Rat)*(a-b)*(Ai3 x n).2:=fun {a b} ha hb h0 h=>by
  have s:=Br1 (a:=-b) (b:=-a) (by grind) (by grind) n
  have p:=Da5 ha n
  have q:=Da5 hb n
  have ea:=Ap2 a n
  have eb:=Ap2 b n
  have fa:=Ap2 a (n+1)
  have fb:=Ap2 b (n+1)
  rw[show -b - -a=a-b by grind] at s
  rcases(by omega:n%2=0∨n%2=1) with e | e
  ·rw[fa.2 (by omega),fb.2 (by omega),ea.1 e,eb.1 e] at s
   exact fin h p.1 p.2 q.1 q.2 (by grind) (by grind)
  ·rw[fa.1 (by omega),fb.1 (by omega),ea.2 e,eb.2 e] at s
   exact fin h q.1 q.2 p.1 p.2 (by grind) (by grind)
 by_cases h1:0≤b
 ·exact pos ha hb h1 h
 ·by_cases h2:a≤0
  ·exact neg ha hb h2 h
  ·have z:inI x 0:=⟨Rat.le_trans hb.1 (by grind),Rat.le_trans (by grind) ha.2⟩
   have s:=pos ha z Rat.le_refl (by grind)
   have t:=neg z hb Rat.le_refl (by grind)
   rw[Bl8 (Nat.succ_pos n)] at s t
   generalize ((n+1:Nat):Rat)=N at *
   constructor<;>grind
theorem Fu7 {x:Iv} {a b:Rat} (ha:inI x a) (hb:inI x b) (n:Nat): ∃g,inI (Ai3 x n) g∧a^(n+1)-b^(n+1)=((n+1:Nat):Rat)*g*(a-b):=by
 have hn:(0:Rat)<((n+1:Nat):Rat):=by have:=Rat.natCast_pos (a:=n+1);exact this.2 (Nat.succ_pos n)
 have main: ∀{a b:Rat},inI x a→inI x b→b<a→∃g,inI (Ai3 x n) g∧a^(n+1)-b^(n+1)=((n+1:Nat):Rat)*g*(a-b):=fun {a b} ha hb h=>by
  obtain⟨s1,s2⟩:=Ex7 ha hb (Rat.le_of_lt h) n
  have hd:(0:Rat)<((n+1:Nat):Rat)*(a-b):=Rat.mul_pos hn (by grind)
  generalize a^(n+1)-b^(n+1)=S at *
  have q1:(Ai3 x n).1≤S/(((n+1:Nat):Rat)*(a-b)):=Rat.not_lt.1 fun h=>absurd ((Rat.div_lt_iff hd).1 h) (Rat.not_lt.2 (by rw[Rat.mul_comm];exact s1))
  have q2:S/(((n+1:Nat):Rat)*(a-b))≤(Ai3 x n).2:=Rat.not_lt.1 fun h=>absurd ((Rat.lt_div_iff hd).1 h) (Rat.not_lt.2 (by rw[Rat.mul_comm];exact s2))
  have q3:=Rat.div_mul_cancel (a:=S) (b:=((n+1:Nat):Rat)*(a-b)) (fun e=>by rw[e] at hd;exact absurd hd (by decide))
  refine⟨_,⟨q1,q2⟩,?_⟩
  generalize S/(((n+1:Nat):Rat)*(a-b))=g at q3
  generalize ((n+1:Nat):Rat)=N at q3
  grind
 by_cases h1:b<a
 ·exact main ha hb h1
 ·by_cases h2:a<b
  ·obtain⟨g,h1,h2⟩:=main hb ha h2
   exact⟨g,h1,by generalize ((n+1:Nat):Rat)=N at h2⊢;grind⟩
  ·have:a=b:=by grind
   subst this
   exact⟨a^n,Da5 ha n,by generalize ((n+1:Nat):Rat)=N;grind⟩
end Go.SX
/- A box' sides, and numbers, laid into three places. -/
namespace Go.SX
def QtV (tu:TypeId) (W:PW) (l:List Value) (q:Rat):Prop:=∃(s:Sl) (b:Bool) (t:Sl),l = [s.v,.bool b,t.v]∧Ab3 tu W s b t q
theorem QtV.ext {tu:TypeId} {W W':PW} {l:List Value} {q:Rat} (h:QtV tu W l q) (hE:Ext W W'):QtV tu W' l q:=let⟨s,b,t,e,h⟩:=h;⟨s,b,t,e,h.ext hE⟩
abbrev Hq6 (tu:TypeId):=Dr1 (QtV tu) 3
theorem Hq6.ext {tu:TypeId} {W W':PW} {s:Sl} {l:List Rat} (h:Hq6 tu W s l) (hE:Ext W W'):Hq6 tu W' s l:=Dr1.ext (R:=QtV tu) (fun h=>QtV.ext h) h hE
def Bm3 (bs:List Iv) (i:Nat):Iv:=bs.getD i (0,0)
def z18:List Value:=[.slice none 0 0,.bool false,.slice none 0 0,.slice none 0 0,.bool false,.slice none 0 0,.slice none 0 0,.bool false,.slice none 0 0,.slice none 0 0,.bool false,.slice none 0 0,.slice none 0 0,.bool false,.slice none 0 0,.slice none 0 0,.bool false,.slice none 0 0]
def z9:List Value:=[.slice none 0 0,.bool false,.slice none 0 0,.slice none 0 0,.bool false,.slice none 0 0,.slice none 0 0,.bool false,.slice none 0 0]
theorem Eq8 {cs l:List Value} (h:l.length=cs.length):Aj6 cs 0 l=l:=by rw[Al5 _ _ _ (by omega),Nat.zero_add,h];simp
theorem Br4 {tu:TypeId} {W:PW} {ys:List (List Value)} {bs:List Iv} (h:An5 (SpV tu W) ys bs):DmV tu W (Aj6 z18 0 (List.take 3 ys).flatten) (Bm3 bs):=by
 rcases ys with _ | ⟨y0,_ | ⟨y1,_ | ⟨y2,ys⟩⟩⟩<;>rcases bs with _ | ⟨b0,_ | ⟨b1,_ | ⟨b2,bs⟩⟩⟩<;>first | exact False.elim h | exact False.elim h.2 | exact False.elim h.2.2 | exact False.elim h.2.2.2 | skip
 ·exact⟨⟨none,0,0⟩,_,⟨none,0,0⟩,⟨none,0,0⟩,_,⟨none,0,0⟩,⟨none,0,0⟩,_,⟨none,0,0⟩,⟨none,0,0⟩,_,⟨none,0,0⟩,⟨none,0,0⟩,_,⟨none,0,0⟩,⟨none,0,0⟩,_,⟨none,0,0⟩,rfl,SpV.zero W,SpV.zero W,SpV.zero W⟩
 ·obtain⟨⟨_,_,_,_,_,_,rfl,h1,h2⟩,_⟩:=h
  exact⟨_,_,_,_,_,_,⟨none,0,0⟩,_,⟨none,0,0⟩,⟨none,0,0⟩,_,⟨none,0,0⟩,⟨none,0,0⟩,_,⟨none,0,0⟩,⟨none,0,0⟩,_,⟨none,0,0⟩,rfl,SpV.mk h1 h2,SpV.zero W,SpV.zero W⟩
 ·obtain⟨⟨_,_,_,_,_,_,rfl,h1,h2⟩,⟨_,_,_,_,_,_,rfl,h3,h4⟩,_⟩:=h
  exact⟨_,_,_,_,_,_,_,_,_,_,_,_,⟨none,0,0⟩,_,⟨none,0,0⟩,⟨none,0,0⟩,_,⟨none,0,0⟩,rfl,SpV.mk h1 h2,SpV.mk h3 h4,SpV.zero W⟩
 ·obtain⟨⟨s0,c0,t0,s1,c1,t1,rfl,h1,h2⟩,⟨s2,c2,t2,s3,c3,t3,rfl,h3,h4⟩,⟨s4,c4,t4,s5,c5,t5,rfl,h5,h6⟩,_⟩:=h
  rw[Eq8]
  ·exact⟨s0,c0,t0,s1,c1,t1,s2,c2,t2,s3,c3,t3,s4,c4,t4,s5,c5,t5,rfl,SpV.mk h1 h2,SpV.mk h3 h4,SpV.mk h5 h6⟩
  ·rfl
theorem DmV.shp {tu:TypeId} {W:PW} {l:List Value} {b:Nat→Iv} (h:DmV tu W l b):Ai7 [.slice,.bool,.slice,.slice,.bool,.slice,.slice,.bool,.slice,.slice,.bool,.slice,.slice,.bool,.slice,.slice,.bool,.slice] l=true:=by
 obtain⟨_,_,_,_,_,_,_,_,_,_,_,_,_,_,_,_,_,_,rfl,_⟩:=h
 rfl
theorem Fa0 {bs:List Iv} {i:Nat} (h:bs.length≤i):Bm3 bs i=(0,0):=by
 unfold Bm3
 rw[List.getD_eq_getElem?_getD,List.getElem?_eq_none h]
 rfl
theorem Fi1 {bs:List Iv} {i:Nat} (h:i<bs.length):Bm3 bs i=bs[i]:=by
 unfold Bm3
 rw[List.getD_eq_getElem?_getD,List.getElem?_eq_getElem h]
 rfl
theorem Ep8 {bs:List Iv} {k:Nat} (h: ∀x∈bs,IvS k x) (i:Nat):BdI (2*k+1) (Bm3 bs i):=by
 by_cases hi:i<bs.length
 ·rw[Fi1 hi]
  exact BdI.Co7 (h _ (List.getElem_mem hi))
 ·rw[Fa0 (by omega)]
  exact BdI.zero (by omega)
theorem SpV.Ge9 {tu:TypeId} {W:PW} {l:List Value} {x:Iv} {B:Bool} {K:Sl→Bool→Sl→Sl→Bool→Sl→Bool→Prop} (h:SpV tu W l x) (k: ∀s b t s' b' t',SpV tu W [s.v,.bool b,t.v,s'.v,.bool b',t'.v] x→K s b t s' b' t' B):
  ∃(s:Sl) (b:Bool) (t s':Sl) (b':Bool) (t':Sl) (c:Bool),Value.tuple ⟨[.agg ⟨l⟩,.bool B]⟩ = .tuple ⟨[.agg ⟨[s.v,.bool b,t.v,s'.v,.bool b',t'.v]⟩,.bool c]⟩∧K s b t s' b' t' c:=by
 obtain⟨s,b,t,s',b',t',rfl,h1,h2⟩:=h
 exact⟨s,b,t,s',b',t',B,rfl,k s b t s' b' t' (SpV.mk h1 h2)⟩
end Go.SX
