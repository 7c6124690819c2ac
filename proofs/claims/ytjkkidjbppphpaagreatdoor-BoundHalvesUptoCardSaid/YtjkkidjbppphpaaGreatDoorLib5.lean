/- Intervals within intervals; sums of terms on intervals; the slope of a power: laws. -/
import Derived.Test.YtjkkidjbppphpaaGreatDoorLib4
import Derived.Test.YtjkkidjbppphpaaGreatDoorLib3
set_option linter.unusedVariables false
set_option linter.unusedSimpArgs false
namespace Go.SX
def Ft1 (x y:Iv):Prop:=y.1≤x.1∧x.2≤y.2
theorem Ft1.refl (x:Iv):Ft1 x x:=⟨Rat.le_refl,Rat.le_refl⟩
theorem Ft1.add {x y x' y':Iv} (h:Ft1 x x') (k:Ft1 y y'):Ft1 (Cb5 x y) (Cb5 x' y'):=by
 obtain⟨h1,h2⟩:=h
 obtain⟨k1,k2⟩:=k
 exact⟨by show x'.1+y'.1≤x.1+y.1;grind,by show x.2+y.2≤x'.2+y'.2;grind⟩
theorem Ft1.ends {x y:Iv} (h:Ft1 x y) (hx:x.1≤x.2):inI y x.1∧inI y x.2:=⟨⟨h.1,Rat.le_trans hx h.2⟩,Rat.le_trans h.1 hx,h.2⟩
theorem Fy1 {a b:Rat} {z:Iv} (ha:inI z a) (hb:inI z b):Ft1 (Ag0 a b) z:=by
 constructor
 ·show z.1≤Az9 a b
  rcases Dj0 a b with e | e<;>rw[e]
  ·exact ha.1
  ·exact hb.1
 ·show Au7 a b≤z.2
  rcases Dj7 a b with e | e<;>rw[e]
  ·exact ha.2
  ·exact hb.2
theorem Ge5 {x y z:Iv} (hx:Ft1 x z) (hy:Ft1 y z):Ft1 (Bu9 x y) z:=by
 constructor
 ·show z.1≤Az9 x.1 y.1
  rcases Dj0 x.1 y.1 with e | e<;>rw[e]
  ·exact hx.1
  ·exact hy.1
 ·show Au7 x.2 y.2≤z.2
  rcases Dj7 x.2 y.2 with e | e<;>rw[e]
  ·exact hx.2
  ·exact hy.2
theorem Ft1.mul {x y x' y':Iv} (h:Ft1 x x') (k:Ft1 y y') (hx:x.1≤x.2) (hy:y.1≤y.2):Ft1 (Ay9 x y) (Ay9 x' y'):=by
 obtain⟨h1,h2⟩:=h.ends hx
 obtain⟨k1,k2⟩:=k.ends hy
 exact Ge5 (Fy1 (Gc0 h1 k1) (Gc0 h2 k2)) (Fy1 (Gc0 h1 k2) (Gc0 h2 k1))
theorem Ft1.pow {x x':Iv} (h:Ft1 x x') (hx:x.1≤x.2) (n:Nat):Ft1 (Ai3 x n) (Ai3 x' n):=by
 obtain⟨h1,h2⟩:=h.ends hx
 have p1:=Da5 h1 n
 have p2:=Da5 h2 n
 have a:=Fy1 p1 p2
 have e:Ai3 x n=if 0<n∧n%2=0∧x.1≤0∧0≤x.2 then(0,Au7 (x.1^n) (x.2^n)) else Ag0 (x.1^n) (x.2^n):=rfl
 rw[e]
 split
 ·rename_i c
  have p0:=Da5 (x:=x') (v:=0) ⟨Rat.le_trans h1.1 c.2.2.1,Rat.le_trans c.2.2.2 h2.2⟩ n
  rw[Bl8 c.1] at p0
  exact⟨p0.1,a.2⟩
 ·exact a
theorem Ge0 {x:Iv} (hx:x.1≤x.2) (n:Nat):(Ai3 x n).1≤(Ai3 x n).2:=by
 have:=Da5 (x:=x) (v:=x.1) ⟨Rat.le_refl,hx⟩ n
 exact Rat.le_trans this.1 this.2
theorem Ga0 {l l':Nat→Iv} (h: ∀i,i<3→Ft1 (l i) (l' i)) (ho: ∀i,i<3→(l i).1≤(l i).2) (t:Tm): ∀j,j≤3→Ft1 (Ci9 l t j) (Ci9 l' t j)
 | 0,_=>Ft1.refl _
 | j+1,hj=>by
  have ih:=Ga0 h ho t j (by omega)
  rw[Ci9,Ci9]
  split
  ·exact ih.mul ((h j (by omega)).pow (ho j (by omega)) _) (Eq7 l t j) (Ge0 (ho j (by omega)) _)
  ·exact ih
def ovS (l:Nat→Iv):List Tm→Iv
 | []=>(0,0)
 | t :: r=>Cb5 (Ci9 l t 3) (ovS l r)
theorem Gc1 (l:Nat→Iv): ∀(p:List Tm) (a:Iv),p.foldl (fun a t=>Cb5 a (Ci9 l t 3)) a=Cb5 a (ovS l p)
 | [],a=>Prod.ext (Rat.add_zero _).symm (Rat.add_zero _).symm
 | t :: p,a=>by
  rw[List.foldl_cons,Gc1 l p,ovS]
  exact Prod.ext (Rat.add_assoc _ _ _) (Rat.add_assoc _ _ _)
theorem Gc3 (l:Nat→Iv) (p:List Tm):Aq8 l p=ovS l p:=by
 rw[Aq8,Gc1]
 exact Prod.ext (Rat.zero_add _) (Rat.zero_add _)
theorem Gc5 {l l':Nat→Iv} (h: ∀i,i<3→Ft1 (l i) (l' i)) (ho: ∀i,i<3→(l i).1≤(l i).2): ∀p:List Tm,Ft1 (ovS l p) (ovS l' p)
 | []=>Ft1.refl _
 | t :: p=>(Ga0 h ho t 3 (Nat.le_refl _)).add (Gc5 h ho p)
/-! ### Slopes -/
theorem Br1 {a b : Rat} (hb : 0 ≤ b) (h : b ≤ a) : ∀ n : Nat, ((n + 1 : Nat) : Rat) * (a - b) * b ^ n ≤ a ^ (n + 1) - b ^ (n + 1) ∧ a ^ (n + 1) - b ^ (n + 1) ≤ ((n + 1 : Nat) : Rat) * (a - b) * a ^ n
  | 0 => by
    simp only [Rat.pow_succ, Rat.pow_zero]
    constructor <;> grind
  | n + 1 => by
    obtain ⟨h1, h2⟩ := Br1 hb h n
    have ha : 0 ≤ a := by grind
    have pb := Az6 hb n
    have pa := Az6 ha n
    have ab := As3 hb h n
    have e : ((n + 1 + 1 : Nat) : Rat) = ((n + 1 : Nat) : Rat) + 1 := by push_cast; rfl
    have hn : (0 : Rat) ≤ ((n + 1 : Nat) : Rat) := by have := Rat.natCast_nonneg (a := n + 1); exact this
    have u1 := Rat.mul_nonneg (show 0 ≤ a ^ (n + 1) - b ^ (n + 1) - ((n + 1 : Nat) : Rat) * (a - b) * b ^ n by grind) ha
    have u2 := Rat.mul_nonneg (show 0 ≤ ((n + 1 : Nat) : Rat) * (a - b) * a ^ n - (a ^ (n + 1) - b ^ (n + 1)) by grind) ha
    have d : 0 ≤ a - b := by grind
    have u3 := Rat.mul_nonneg (Rat.mul_nonneg (Rat.mul_nonneg hn d) pb) d
    have u4 := Rat.mul_nonneg (show 0 ≤ a ^ (n + 1) - b ^ (n + 1) by have := As3 hb h (n + 1); grind) d
    rw [e]
    generalize ((n + 1 : Nat) : Rat) = N at *
    rw [Rat.pow_succ a (n + 1), Rat.pow_succ b (n + 1)]
    rw [Rat.pow_succ a n, Rat.pow_succ b n] at *
    generalize a ^ n = A at *
    generalize b ^ n = B at *
    constructor <;> grind
theorem Ex7 {x:Iv} {a b:Rat} (ha:inI x a) (hb:inI x b) (h:b≤a) (n:Nat):((n+1:Nat):Rat)*(a-b)*(Ai3 x n).1≤a^(n+1)-b^(n+1)∧a^(n+1)-b^(n+1)≤((n+1:Nat):Rat)*(a-b)*(Ai3 x n).2:=by
 have hn:(0:Rat)≤((n+1:Nat):Rat):=Rat.natCast_nonneg
 have fin: ∀{a b L U S A B:Rat},b≤a→L≤A→A≤U→L≤B→B≤U→((n+1:Nat):Rat)*(a-b)*A≤S→S≤((n+1:Nat):Rat)*(a-b)*B→((n+1:Nat):Rat)*(a-b)*L≤S∧S≤((n+1:Nat):Rat)*(a-b)*U:=fun {a b L U S A B} h h1 h2 h3 h4 h5 h6=>by
  have d:=Rat.mul_nonneg hn (show 0≤a-b by grind)
  have e1:=Rat.mul_nonneg d (show 0≤A-L by grind)
  have e2:=Rat.mul_nonneg d (show 0≤U-B by grind)
  generalize ((n+1:Nat):Rat)*(a-b)=D at *
  constructor<;>grind
 have pos: ∀{a b:Rat},inI x a→inI x b→0≤b→b≤a→((n+1:Nat):Rat)*(a-b)*(Ai3 x n).1≤a^(n+1)-b^(n+1)∧a^(n+1)-b^(n+1)≤((n+1:Nat):Rat)*(a-b)*(Ai3 x n).2:=fun {a b} ha hb h0 h=>by
  have s:=Br1 h0 h n
  have p:=Da5 ha n
  have q:=Da5 hb n
  exact fin h q.1 q.2 p.1 p.2 s.1 s.2
 have neg: ∀{a b:Rat},inI x a→inI x b→a≤0→b≤a→((n+1:Nat):Rat)*(a-b)*(Ai3 x n).1≤a^(n+1)-b^(n+1)∧a^(n+1)-b^(n+1)≤((n+1:Nat):Rat)*(a-b)*(Ai3 x n).2:=fun {a b} ha hb h0 h=>by
  have s:=Br1 (a:=-b) (b:=-a) (by grind) (by grind) n
  have p:=Da5 ha n
  have q:=Da5 hb n
  have ea:=Ap2 a n
  have eb:=Ap2 b n
  have fa:=Ap2 a (n+1)
  have fb:=Ap2 b (n+1)
  rw[show -b - -a=a-b by grind] at s
  rcases(by omega:n%2=0∨n%2=1) with e | e
  ·rw[fa.2 (by omega),fb.2 (by omega),ea.1 e,eb.1 e] at s
   exact fin h p.1 p.2 q.1 q.2 (by grind) (by grind)
  ·rw[fa.1 (by omega),fb.1 (by omega),ea.2 e,eb.2 e] at s
   exact fin h q.1 q.2 p.1 p.2 (by grind) (by grind)
 by_cases h1:0≤b
 ·exact pos ha hb h1 h
 ·by_cases h2:a≤0
  ·exact neg ha hb h2 h
  ·have z:inI x 0:=⟨Rat.le_trans hb.1 (by grind),Rat.le_trans (by grind) ha.2⟩
   have s:=pos ha z Rat.le_refl (by grind)
   have t:=neg z hb Rat.le_refl (by grind)
   rw[Bl8 (Nat.succ_pos n)] at s t
   generalize ((n+1:Nat):Rat)=N at *
   constructor<;>grind
theorem Fu7 {x:Iv} {a b:Rat} (ha:inI x a) (hb:inI x b) (n:Nat): ∃g,inI (Ai3 x n) g∧a^(n+1)-b^(n+1)=((n+1:Nat):Rat)*g*(a-b):=by
 have hn:(0:Rat)<((n+1:Nat):Rat):=by have:=Rat.natCast_pos (a:=n+1);exact this.2 (Nat.succ_pos n)
 have main: ∀{a b:Rat},inI x a→inI x b→b<a→∃g,inI (Ai3 x n) g∧a^(n+1)-b^(n+1)=((n+1:Nat):Rat)*g*(a-b):=fun {a b} ha hb h=>by
  obtain⟨s1,s2⟩:=Ex7 ha hb (Rat.le_of_lt h) n
  have hd:(0:Rat)<((n+1:Nat):Rat)*(a-b):=Rat.mul_pos hn (by grind)
  generalize a^(n+1)-b^(n+1)=S at *
  have q1:(Ai3 x n).1≤S/(((n+1:Nat):Rat)*(a-b)):=Rat.not_lt.1 fun h=>absurd ((Rat.div_lt_iff hd).1 h) (Rat.not_lt.2 (by rw[Rat.mul_comm];exact s1))
  have q2:S/(((n+1:Nat):Rat)*(a-b))≤(Ai3 x n).2:=Rat.not_lt.1 fun h=>absurd ((Rat.lt_div_iff hd).1 h) (Rat.not_lt.2 (by rw[Rat.mul_comm];exact s2))
  have q3:=Rat.div_mul_cancel (a:=S) (b:=((n+1:Nat):Rat)*(a-b)) (fun e=>by rw[e] at hd;exact absurd hd (by decide))
  refine⟨_,⟨q1,q2⟩,?_⟩
  generalize S/(((n+1:Nat):Rat)*(a-b))=g at q3
  generalize ((n+1:Nat):Rat)=N at q3
  grind
 by_cases h1:b<a
 ·exact main ha hb h1
 ·by_cases h2:a<b
  ·obtain⟨g,h1,h2⟩:=main hb ha h2
   exact⟨g,h1,by generalize ((n+1:Nat):Rat)=N at h2⊢;grind⟩
  ·have:a=b:=by grind
   subst this
   exact⟨a^n,Da5 ha n,by generalize ((n+1:Nat):Rat)=N;grind⟩
end Go.SX
/- A box' sides, and numbers, laid into three places. -/
namespace Go.SX
def Bm3 (bs:List Iv) (i:Nat):Iv:=bs.getD i (0,0)
def Ga6 (x:Iv):Rat:=(x.1+x.2)/2
def z18:List Value:=[.slice none 0 0,.bool false,.slice none 0 0,.slice none 0 0,.bool false,.slice none 0 0,.slice none 0 0,.bool false,.slice none 0 0,.slice none 0 0,.bool false,.slice none 0 0,.slice none 0 0,.bool false,.slice none 0 0,.slice none 0 0,.bool false,.slice none 0 0]
def z9:List Value:=[.slice none 0 0,.bool false,.slice none 0 0,.slice none 0 0,.bool false,.slice none 0 0,.slice none 0 0,.bool false,.slice none 0 0]
theorem Eq8 {cs l:List Value} (h:l.length=cs.length):Aj6 cs 0 l=l:=by rw[Al5 _ _ _ (by omega),Nat.zero_add,h];simp
theorem Br4 {tu:TypeId} {W:PW} {ys:List (List Value)} {bs:List Iv} (h:An5 (SpV tu W) ys bs):DmV tu W (Aj6 z18 0 (List.take 3 ys).flatten) (Bm3 bs):=by
 rcases ys with _ | ⟨y0,_ | ⟨y1,_ | ⟨y2,ys⟩⟩⟩<;>rcases bs with _ | ⟨b0,_ | ⟨b1,_ | ⟨b2,bs⟩⟩⟩<;>first | exact False.elim h | exact False.elim h.2 | exact False.elim h.2.2 | exact False.elim h.2.2.2 | skip
 ·exact⟨⟨none,0,0⟩,_,⟨none,0,0⟩,⟨none,0,0⟩,_,⟨none,0,0⟩,⟨none,0,0⟩,_,⟨none,0,0⟩,⟨none,0,0⟩,_,⟨none,0,0⟩,⟨none,0,0⟩,_,⟨none,0,0⟩,⟨none,0,0⟩,_,⟨none,0,0⟩,rfl,SpV.zero W,SpV.zero W,SpV.zero W⟩
 ·obtain⟨⟨_,_,_,_,_,_,rfl,h1,h2⟩,_⟩:=h
  exact⟨_,_,_,_,_,_,⟨none,0,0⟩,_,⟨none,0,0⟩,⟨none,0,0⟩,_,⟨none,0,0⟩,⟨none,0,0⟩,_,⟨none,0,0⟩,⟨none,0,0⟩,_,⟨none,0,0⟩,rfl,SpV.mk h1 h2,SpV.zero W,SpV.zero W⟩
 ·obtain⟨⟨_,_,_,_,_,_,rfl,h1,h2⟩,⟨_,_,_,_,_,_,rfl,h3,h4⟩,_⟩:=h
  exact⟨_,_,_,_,_,_,_,_,_,_,_,_,⟨none,0,0⟩,_,⟨none,0,0⟩,⟨none,0,0⟩,_,⟨none,0,0⟩,rfl,SpV.mk h1 h2,SpV.mk h3 h4,SpV.zero W⟩
 ·obtain⟨⟨s0,c0,t0,s1,c1,t1,rfl,h1,h2⟩,⟨s2,c2,t2,s3,c3,t3,rfl,h3,h4⟩,⟨s4,c4,t4,s5,c5,t5,rfl,h5,h6⟩,_⟩:=h
  rw[Eq8]
  ·exact⟨s0,c0,t0,s1,c1,t1,s2,c2,t2,s3,c3,t3,s4,c4,t4,s5,c5,t5,rfl,SpV.mk h1 h2,SpV.mk h3 h4,SpV.mk h5 h6⟩
  ·rfl
theorem DmV.shp {tu:TypeId} {W:PW} {l:List Value} {b:Nat→Iv} (h:DmV tu W l b):Ai7 [.slice,.bool,.slice,.slice,.bool,.slice,.slice,.bool,.slice,.slice,.bool,.slice,.slice,.bool,.slice,.slice,.bool,.slice] l=true:=by
 obtain⟨_,_,_,_,_,_,_,_,_,_,_,_,_,_,_,_,_,_,rfl,_⟩:=h
 rfl
theorem Ey5 {bs:List Iv} (h: ∀x∈bs,x.1≤x.2) (i:Nat):(Bm3 bs i).1≤(Bm3 bs i).2:=by
 unfold Bm3
 rw[List.getD_eq_getElem?_getD]
 cases e:bs[i]? with
 | none=>exact Rat.le_refl
 | some x=>exact h x (List.mem_of_getElem? e)
theorem Fa0 {bs:List Iv} {i:Nat} (h:bs.length≤i):Bm3 bs i=(0,0):=by
 unfold Bm3
 rw[List.getD_eq_getElem?_getD,List.getElem?_eq_none h]
 rfl
theorem Fi1 {bs:List Iv} {i:Nat} (h:i<bs.length):Bm3 bs i=bs[i]:=by
 unfold Bm3
 rw[List.getD_eq_getElem?_getD,List.getElem?_eq_getElem h]
 rfl
theorem Ep8 {bs:List Iv} {k:Nat} (h: ∀x∈bs,IvS k x) (i:Nat):BdI (2*k+1) (Bm3 bs i):=by
 by_cases hi:i<bs.length
 ·rw[Fi1 hi]
  exact BdI.Co7 (h _ (List.getElem_mem hi))
 ·rw[Fa0 (by omega)]
  exact BdI.zero (by omega)
theorem SpV.Ge9 {tu:TypeId} {W:PW} {l:List Value} {x:Iv} {B:Bool} {K:Sl→Bool→Sl→Sl→Bool→Sl→Bool→Prop} (h:SpV tu W l x) (k: ∀s b t s' b' t',SpV tu W [s.v,.bool b,t.v,s'.v,.bool b',t'.v] x→K s b t s' b' t' B):
  ∃(s:Sl) (b:Bool) (t s':Sl) (b':Bool) (t':Sl) (c:Bool),Value.tuple ⟨[.agg ⟨l⟩,.bool B]⟩ = .tuple ⟨[.agg ⟨[s.v,.bool b,t.v,s'.v,.bool b',t'.v]⟩,.bool c]⟩∧K s b t s' b' t' c:=by
 obtain⟨s,b,t,s',b',t',rfl,h1,h2⟩:=h
 exact⟨s,b,t,s',b',t',B,rfl,k s b t s' b' t' (SpV.mk h1 h2)⟩
end Go.SX
