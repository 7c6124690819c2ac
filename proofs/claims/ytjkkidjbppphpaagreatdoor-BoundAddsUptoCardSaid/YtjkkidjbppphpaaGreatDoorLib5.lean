/- Intervals within intervals; sums of terms on intervals; the slope of a power: laws. -/
import Derived.Test.YtjkkidjbppphpaaGreatDoorLib4
import Derived.Test.YtjkkidjbppphpaaGreatDoorLib3
set_option linter.unusedVariables false
set_option linter.unusedSimpArgs false
namespace Go.SX
def Ft1 (x y:Iv):Prop:=y.1≤x.1∧x.2≤y.2
theorem Ft1.refl (x:Iv):Ft1 x x:=⟨Rat.le_refl,Rat.le_refl⟩
theorem Ft1.trans {x y z:Iv} (h:Ft1 x y) (k:Ft1 y z):Ft1 x z:=⟨Rat.le_trans k.1 h.1,Rat.le_trans h.2 k.2⟩
theorem Ft1.add {x y x' y':Iv} (h:Ft1 x x') (k:Ft1 y y'):Ft1 (Cb5 x y) (Cb5 x' y'):=by
 obtain⟨h1,h2⟩:=h
 obtain⟨k1,k2⟩:=k
 exact⟨by show x'.1+y'.1≤x.1+y.1;grind,by show x.2+y.2≤x'.2+y'.2;grind⟩
theorem Fy1 {a b:Rat} {z:Iv} (ha:inI z a) (hb:inI z b):Ft1 (Ag0 a b) z:=by
 constructor
 ·show z.1≤Az9 a b
  rcases Dj0 a b with e | e<;>rw[e]
  ·exact ha.1
  ·exact hb.1
 ·show Au7 a b≤z.2
  rcases Dj7 a b with e | e<;>rw[e]
  ·exact ha.2
  ·exact hb.2
def ovS (l:Nat→Iv):List Tm→Iv
 | []=>(0,0)
 | t :: r=>Cb5 (Ci9 l t 3) (ovS l r)
theorem Gc1 (l:Nat→Iv): ∀(p:List Tm) (a:Iv),p.foldl (fun a t=>Cb5 a (Ci9 l t 3)) a=Cb5 a (ovS l p)
 | [],a=>Prod.ext (Rat.add_zero _).symm (Rat.add_zero _).symm
 | t :: p,a=>by
  rw[List.foldl_cons,Gc1 l p,ovS]
  exact Prod.ext (Rat.add_assoc _ _ _) (Rat.add_assoc _ _ _)
theorem Gc3 (l:Nat→Iv) (p:List Tm):Aq8 l p=ovS l p:=by
 rw[Aq8,Gc1]
 exact Prod.ext (Rat.zero_add _) (Rat.zero_add _)
theorem Hf9 (l:Nat→Iv): ∀p q:List Tm,ovS l (p ++ q)=Cb5 (ovS l p) (ovS l q)
 | [],q=>Prod.ext (Rat.zero_add _).symm (Rat.zero_add _).symm
 | t :: p,q=>by
  rw[List.cons_append,ovS,Hf9 l p q,ovS]
  exact Prod.ext (Rat.add_assoc _ _ _).symm (Rat.add_assoc _ _ _).symm
theorem Hx3 (l:Nat→Iv): ∀p:List Tm,(ovS l p).1≤(ovS l p).2
 | []=>Rat.le_refl
 | t :: p=>by
  have h1:=Eq7 l t 3
  have h2:=Hx3 l p
  show(Ci9 l t 3).1+(ovS l p).1≤(Ci9 l t 3).2+(ovS l p).2
  grind
theorem Ht6 {c:Rat} (hc:0≤c) (a b:Rat):Az9 (a*c) (b*c)=Az9 a b*c∧Au7 (a*c) (b*c)=Au7 a b*c:=by
 unfold Az9 Au7
 by_cases h:b≤a
 ·have:=Rat.mul_nonneg (show 0≤a-b by grind) hc
  constructor<;>(repeat' split)<;>grind
 ·have:=Rat.mul_nonneg (show 0≤b-a by grind) hc
  constructor<;>(repeat' split)<;>grind
theorem Ht7 {c:Rat} (hc:c≤0) (a b:Rat):Az9 (a*c) (b*c)=Au7 a b*c∧Au7 (a*c) (b*c)=Az9 a b*c:=by
 unfold Az9 Au7
 by_cases h:b≤a
 ·have:=Rat.mul_nonneg (show 0≤a-b by grind) (show 0≤-c by grind)
  constructor<;>(repeat' split)<;>grind
 ·have:=Rat.mul_nonneg (show 0≤b-a by grind) (show 0≤-c by grind)
  constructor<;>(repeat' split)<;>grind
theorem Ht1 {a b:Rat} (h:a≤b):Az9 a b=a∧Au7 a b=b:=by
 unfold Az9 Au7
 constructor<;>split<;>grind
theorem Ht2 {c:Rat} (hc:0≤c) {x:Iv} (hx:x.1≤x.2):De8 x c=(x.1*c,x.2*c):=by
 unfold De8 Ag0
 rw[(Ht6 hc _ _).1,(Ht6 hc _ _).2,(Ht1 hx).1,(Ht1 hx).2]
theorem Ht3 {c:Rat} (hc:c≤0) {x:Iv} (hx:x.1≤x.2):De8 x c=(x.2*c,x.1*c):=by
 unfold De8 Ag0
 rw[(Ht7 hc _ _).1,(Ht7 hc _ _).2,(Ht1 hx).1,(Ht1 hx).2]
theorem Ht8 (a b:Rat):Az9 a b=Az9 b a:=by unfold Az9;(repeat' split)<;>grind
theorem Hu0 (a b:Rat):Au7 a b=Au7 b a:=by unfold Au7;(repeat' split)<;>grind
theorem Hw6 (p q r s:Rat):Az9 (Az9 p q) (Az9 r s)=Az9 (Az9 s r) (Az9 q p):=by rw[Ht8 (Az9 p q),Ht8 p q,Ht8 r s]
theorem Hw4 (p q r s:Rat):Au7 (Au7 p q) (Au7 r s)=Au7 (Au7 s r) (Au7 q p):=by rw[Hu0 (Au7 p q),Hu0 p q,Hu0 r s]
theorem Hv7 {x:Iv} (hx:x.1≤x.2) (y:Iv) (c:Rat):Ay9 (De8 x c) y=De8 (Ay9 x y) c:=by
 have hm:=Ew6 x y
 have r: ∀a b:Rat,a*c*b=a*b*c:=fun a b=>by grind
 by_cases hc:0≤c
 ·rw[Ht2 hc hx,Ht2 hc hm]
  unfold Ay9 Bu9 Ag0
  simp only[r,(Ht6 hc _ _).1,(Ht6 hc _ _).2]
 ·have hc:c≤0:=by grind
  rw[Ht3 hc hx,Ht3 hc hm]
  unfold Ay9 Bu9 Ag0
  simp only[r,(Ht7 hc _ _).1,(Ht7 hc _ _).2]
  refine Prod.ext ?_ ?_
  ·show Au7 (Au7 _ _) (Au7 _ _)*c=Au7 (Au7 _ _) (Au7 _ _)*c
   rw[Hw4]
  ·show Az9 (Az9 _ _) (Az9 _ _)*c=Az9 (Az9 _ _) (Az9 _ _)*c
   rw[Hw6]
theorem Ht4 (l:Nat→Iv) (m:Mon) (c:Rat): ∀j,Ci9 l (m,c) j=De8 (Ci9 l (m,1) j) c
 | 0=>by
  show Eb6 c=De8 (Eb6 1) c
  unfold Eb6 De8 Ag0
  rw[Rat.one_mul,(Ht1 Rat.le_refl).1,(Ht1 Rat.le_refl).2]
 | j+1=>by
  rw[Ci9,Ci9]
  split
  ·rw[Ht4 l m c j,Hv7 (Eq7 l _ j)]
  ·exact Ht4 l m c j
theorem Hu5 (x:Iv):De8 x 0=(0,0):=by
 unfold De8 Ag0
 rw[Rat.mul_zero,Rat.mul_zero,(Ht1 Rat.le_refl).1,(Ht1 Rat.le_refl).2]
theorem Hw7 (x:Iv) (c d:Rat):Ft1 (De8 x (c+d)) (Cb5 (De8 x c) (De8 x d)):=by
 have h1:=Dh5 (x.1*c) (x.2*c)
 have h2:=Dh5 (x.1*d) (x.2*d)
 have h3:=Cl6 (x.1*c) (x.2*c)
 have h4:=Cl6 (x.1*d) (x.2*d)
 exact Fy1 ⟨by show Az9 _ _+Az9 _ _≤_;grind,by show _≤Au7 _ _+Au7 _ _;grind⟩ ⟨by show Az9 _ _+Az9 _ _≤_;grind,by show _≤Au7 _ _+Au7 _ _;grind⟩
theorem Hx7 (l:Nat→Iv) (m:Mon) (c d:Rat):Ft1 (Ci9 l (m,c+d) 3) (Cb5 (Ci9 l (m,c) 3) (Ci9 l (m,d) 3)):=by
 rw[Ht4 l m (c+d),Ht4 l m c,Ht4 l m d]
 exact Hw7 _ _ _
theorem Hv2 (l:Nat→Iv) {t:Tm} (h:t.2=0):Ci9 l t 3=(0,0):=by
 rw[show t=(t.1,t.2) from rfl,Ht4,h,Hu5]
theorem Hw0 (l:Nat→Iv): ∀(p:List Tm) (t:Tm),Ft1 (ovS l (Bg6 p t)) (Cb5 (ovS l p) (Ci9 l t 3))
 | [],t=>by
  unfold Bg6
  split
  ·rename_i h
   rw[Hv2 l h,ovS]
   exact⟨by show(0:Rat)+0≤0;grind,by show(0:Rat)≤0+0;grind⟩
  ·exact⟨by show(0:Rat)+_≤_+0;grind,by show _+(0:Rat)≤0+_;grind⟩
 | e :: r,t=>by
  unfold Bg6
  have com: ∀{a b c:Iv},Ft1 a (Cb5 b c)→Ft1 (Cb5 (Ci9 l e 3) a) (Cb5 (Cb5 (Ci9 l e 3) b) c):=fun {a b c} h=>by
   obtain⟨h1,h2⟩:=h
   exact⟨by show(Ci9 l e 3).1+b.1+c.1≤(Ci9 l e 3).1+a.1;have h1:b.1+c.1≤a.1:=h1;grind,by show(Ci9 l e 3).2+a.2≤(Ci9 l e 3).2+b.2+c.2;have h2:a.2≤b.2+c.2:=h2;grind⟩
  split
  ·exact com (Hw0 l r t)
  ·split
   ·rename_i h1 h2
    have s:=Hx7 l e.1 e.2 t.2
    rw[show((e.1,t.2):Tm)=t from Prod.ext h2 rfl] at s
    obtain⟨s1,s2⟩:=s
    have s1:(Ci9 l e 3).1+(Ci9 l t 3).1≤(Ci9 l (e.1,e.2+t.2) 3).1:=s1
    have s2:(Ci9 l (e.1,e.2+t.2) 3).2≤(Ci9 l e 3).2+(Ci9 l t 3).2:=s2
    split
    ·rename_i h3
     rw[Hv2 l (t:=(e.1,e.2+t.2)) h3] at s1 s2
     exact⟨by show(Ci9 l e 3).1+(ovS l r).1+(Ci9 l t 3).1≤(ovS l r).1;grind,by show(ovS l r).2≤(Ci9 l e 3).2+(ovS l r).2+(Ci9 l t 3).2;grind⟩
    ·exact⟨by show(Ci9 l e 3).1+(ovS l r).1+(Ci9 l t 3).1≤(Ci9 l (e.1,e.2+t.2) 3).1+(ovS l r).1;grind,by show(Ci9 l (e.1,e.2+t.2) 3).2+(ovS l r).2≤(Ci9 l e 3).2+(ovS l r).2+(Ci9 l t 3).2;grind⟩
   ·split
    ·rename_i h
     rw[Hv2 l h]
     exact⟨by show _+(0:Rat)≤_;grind,by show _≤_+(0:Rat);grind⟩
    ·exact⟨by show(ovS l (e :: r)).1+(Ci9 l t 3).1≤(Ci9 l t 3).1+(ovS l (e :: r)).1;grind,by show(Ci9 l t 3).2+(ovS l (e :: r)).2≤(ovS l (e :: r)).2+(Ci9 l t 3).2;grind⟩
theorem Hu9 (l:Nat→Iv): ∀(q p:List Tm),Ft1 (ovS l (q.foldl Bg6 p)) (Cb5 (ovS l p) (ovS l q))
 | [],p=>⟨by show _+(0:Rat)≤_;grind,by show _≤_+(0:Rat);grind⟩
 | t :: q,p=>by
  rw[List.foldl_cons]
  refine(Hu9 l q (Bg6 p t)).trans ?_
  have:=(Hw0 l p t).add (Ft1.refl (ovS l q))
  rw[show Cb5 (ovS l p) (ovS l (t :: q))=Cb5 (Cb5 (ovS l p) (Ci9 l t 3)) (ovS l q) from Prod.ext (Rat.add_assoc _ _ _).symm (Rat.add_assoc _ _ _).symm]
  exact this
theorem Hx4 (l:Nat→Iv) (p q:List Tm):Ft1 (ovS l (Ag2 (p ++ q))) (Cb5 (ovS l p) (ovS l q)):=by
 have:=Hu9 l (p ++ q) []
 rw[Hf9] at this
 rw[show Cb5 (ovS l []) (Cb5 (ovS l p) (ovS l q))=Cb5 (ovS l p) (ovS l q) from Prod.ext (Rat.zero_add _) (Rat.zero_add _)] at this
 exact this
theorem Hw9 {x y:Iv} (hx:x.1≤x.2) (hy:y.1≤y.2) (r:Rat):De8 (Cb5 x y) r=Cb5 (De8 x r) (De8 y r):=by
 have h:(Cb5 x y).1≤(Cb5 x y).2:=by show x.1+y.1≤x.2+y.2;grind
 by_cases hr:0≤r
 ·rw[Ht2 hr hx,Ht2 hr hy,Ht2 hr h]
  exact Prod.ext (Rat.add_mul _ _ _) (Rat.add_mul _ _ _)
 ·have hr:r≤0:=by grind
  rw[Ht3 hr hx,Ht3 hr hy,Ht3 hr h]
  exact Prod.ext (Rat.add_mul _ _ _) (Rat.add_mul _ _ _)
theorem Hv9 {x:Iv} (hx:x.1≤x.2) (c r:Rat):De8 (De8 x c) r=De8 x (c*r):=by
 have h:(De8 x c).1≤(De8 x c).2:=Rat.le_trans (Dh5 _ _).1 (Cl6 _ _).1
 have one:Ay9 (Eb6 c) (Eb6 r)=Eb6 (c*r):=by
  rw[Ez7,De8,Ag0]
  show(Az9 (c*r) (c*r),Au7 (c*r) (c*r))=_
  rw[(Ht1 Rat.le_refl).1,(Ht1 Rat.le_refl).2]
  rfl
 by_cases hc:0≤c
 ·rw[Ht2 hc hx] at h⊢
  by_cases hr:0≤r
  ·rw[Ht2 hr h,Ht2 (Rat.mul_nonneg hc hr) hx]
   exact Prod.ext (Rat.mul_assoc _ _ _) (Rat.mul_assoc _ _ _)
  ·have hr:r≤0:=by grind
   have:c*r≤0:=by have:=Rat.mul_nonneg hc (show 0≤-r by grind);grind
   rw[Ht3 hr h,Ht3 this hx]
   exact Prod.ext (Rat.mul_assoc _ _ _) (Rat.mul_assoc _ _ _)
 ·have hc:c≤0:=by grind
  rw[Ht3 hc hx] at h⊢
  by_cases hr:0≤r
  ·have:c*r≤0:=by have:=Rat.mul_nonneg hr (show 0≤-c by grind);grind
   rw[Ht2 hr h,Ht3 this hx]
   exact Prod.ext (Rat.mul_assoc _ _ _) (Rat.mul_assoc _ _ _)
  ·have hr:r≤0:=by grind
   have:0≤c*r:=by have:=Rat.mul_nonneg (show 0≤-c by grind) (show 0≤-r by grind);grind
   rw[Ht3 hr h,Ht2 this hx]
   exact Prod.ext (Rat.mul_assoc _ _ _) (Rat.mul_assoc _ _ _)
theorem Hw8 (l:Nat→Iv) (r:Rat): ∀p:List Tm,ovS l (p.map fun t=>(t.1,t.2*r))=De8 (ovS l p) r
 | []=>by
  show(0,0)=De8 (0,0) r
  unfold De8 Ag0
  rw[Rat.zero_mul,(Ht1 Rat.le_refl).1,(Ht1 Rat.le_refl).2]
 | t :: p=>by
  rw[List.map_cons,ovS,ovS,Hw9 (Eq7 l t 3) (Hx3 l p),Hw8 l r p]
  congr 1
  rw[Ht4 l t.1 (t.2*r),←Hv9 (Eq7 l _ 3),←Ht4]
/-! ### Slopes -/
theorem Br1 {a b : Rat} (hb : 0 ≤ b) (h : b ≤ a) : ∀ n : Nat, ((n + 1 : Nat) : Rat) * (a - b) * b ^ n ≤ a ^ (n + 1) - b ^ (n + 1) ∧ a ^ (n + 1) - b ^ (n + 1) ≤ ((n + 1 : Nat) : Rat) * (a - b) * a ^ n
  | 0 => by
    simp only [Rat.pow_succ, Rat.pow_zero]
    constructor <;> grind
  | n + 1 => by
    obtain ⟨h1, h2⟩ := Br1 hb h n
    have ha : 0 ≤ a := by grind
    have pb := Az6 hb n
    have pa := Az6 ha n
    have ab := As3 hb h n
    have e : ((n + 1 + 1 : Nat) : Rat) = ((n + 1 : Nat) : Rat) + 1 := by push_cast; rfl
    have hn : (0 : Rat) ≤ ((n + 1 : Nat) : Rat) := by have := Rat.natCast_nonneg (a := n + 1); exact this
    have u1 := Rat.mul_nonneg (show 0 ≤ a ^ (n + 1) - b ^ (n + 1) - ((n + 1 : Nat) : Rat) * (a - b) * b ^ n by grind) ha
    have u2 := Rat.mul_nonneg (show 0 ≤ ((n + 1 : Nat) : Rat) * (a - b) * a ^ n - (a ^ (n + 1) - b ^ (n + 1)) by grind) ha
    have d : 0 ≤ a - b := by grind
    have u3 := Rat.mul_nonneg (Rat.mul_nonneg (Rat.mul_nonneg hn d) pb) d
    have u4 := Rat.mul_nonneg (show 0 ≤ a ^ (n + 1) - b ^ (n + 1) by have := As3 hb h (n + 1); grind) d
    rw [e]
    generalize ((n + 1 : Nat) : Rat) = N at *
    rw [Rat.pow_succ a (n + 1), Rat.pow_succ b (n + 1)]
    rw [Rat.pow_succ a n, Rat.pow_succ b n] at *
    generalize a ^ n = A at *
    generalize b ^ n = B at *
    constructor <;> grind
theorem Ex7 {x:Iv} {a b:Rat} (ha:inI x a) (hb:inI x b) (h:b≤a) (n:Nat):((n+1:Nat):Rat)*(a-b)*(Ai3 x n).1≤a^(n+1)-b^(n+1)∧a^(n+1)-b^(n+1)≤((n+1:Nat):Rat)*(a-b)*(Ai3 x n).2:=by
 have hn:(0:Rat)≤((n+1:Nat):Rat):=Rat.natCast_nonneg
 have fin: ∀{a b L U S A B:Rat},b≤a→L≤A→A≤U→L≤B→B≤U→((n+1:Nat):Rat)*(a-b)*A≤S→S≤((n+1:Nat):Rat)*(a-b)*B→((n+1:Nat):Rat)*(a-b)*L≤S∧S≤((n+1:Nat):Rat)*(a-b)*U:=fun {a b L U S A B} h h1 h2 h3 h4 h5 h6=>by
  have d:=Rat.mul_nonneg hn (show 0≤a-b by grind)
  have e1:=Rat.mul_nonneg d (show 0≤A-L by grind)
  have e2:=Rat.mul_nonneg d (show 0≤U-B by grind)
  generalize ((n+1:Nat):Rat)*(a-b)=D at *
  constructor<;>grind
 have pos: ∀{a b:Rat},inI x a→inI x b→0≤b→b≤a→((n+1:Nat):Rat)*(a-b)*(Ai3 x n).1≤a^(n+1)-b^(n+1)∧a^(n+1)-b^(n+1)≤((n+1:Nat):Rat)*(a-b)*(Ai3 x n).2:=fun {a b} ha hb h0 h=>by
  have s:=Br1 h0 h n
  have p:=Da5 ha n
  have q:=Da5 hb n
  exact fin h q.1 q.2 p.1 p.2 s.1 s.2
 have neg: ∀{a b:Rat},inI x a→inI x b→a≤0→b≤a→((n+1:Nat):Rat)*(a-b)*(Ai3 x n).1≤a^(n+1)-b^(n+1)∧a^(n+1)-b^(n+1)≤((n+1:Nat):Rat)*(a-b)*(Ai3 x n).2:=fun {a b} ha hb h0 h=>by
  have s:=Br1 (a:=-b) (b:=-a) (by grind) (by grind) n
  have p:=Da5 ha n
  have q:=Da5 hb n
  have ea:=Ap2 a n
  have eb:=Ap2 b n
  have fa:=Ap2 a (n+1)
  have fb:=Ap2 b (n+1)
  rw[show -b - -a=a-b by grind] at s
  rcases(by omega:n%2=0∨n%2=1) with e | e
  ·rw[fa.2 (by omega),fb.2 (by omega),ea.1 e,eb.1 e] at s
   exact fin h p.1 p.2 q.1 q.2 (by grind) (by grind)
  ·rw[fa.1 (by omega),fb.1 (by omega),ea.2 e,eb.2 e] at s
   exact fin h q.1 q.2 p.1 p.2 (by grind) (by grind)
 by_cases h1:0≤b
 ·exact pos ha hb h1 h
 ·by_cases h2:a≤0
  ·exact neg ha hb h2 h
  ·have z:inI x 0:=⟨Rat.le_trans hb.1 (by grind),Rat.le_trans (by grind) ha.2⟩
   have s:=pos ha z Rat.le_refl (by grind)
   have t:=neg z hb Rat.le_refl (by grind)
   rw[Bl8 (Nat.succ_pos n)] at s t
   generalize ((n+1:Nat):Rat)=N at *
   constructor<;>grind
theorem Fu7 {x:Iv} {a b:Rat} (ha:inI x a) (hb:inI x b) (n:Nat): ∃g,inI (Ai3 x n) g∧a^(n+1)-b^(n+1)=((n+1:Nat):Rat)*g*(a-b):=by
 have hn:(0:Rat)<((n+1:Nat):Rat):=by have:=Rat.natCast_pos (a:=n+1);exact this.2 (Nat.succ_pos n)
 have main: ∀{a b:Rat},inI x a→inI x b→b<a→∃g,inI (Ai3 x n) g∧a^(n+1)-b^(n+1)=((n+1:Nat):Rat)*g*(a-b):=fun {a b} ha hb h=>by
  obtain⟨s1,s2⟩:=Ex7 ha hb (Rat.le_of_lt h) n
  have hd:(0:Rat)<((n+1:Nat):Rat)*(a-b):=Rat.mul_pos hn (by grind)
  generalize a^(n+1)-b^(n+1)=S at *
  have q1:(Ai3 x n).1≤S/(((n+1:Nat):Rat)*(a-b)):=Rat.not_lt.1 fun h=>absurd ((Rat.div_lt_iff hd).1 h) (Rat.not_lt.2 (by rw[Rat.mul_comm];exact s1))
  have q2:S/(((n+1:Nat):Rat)*(a-b))≤(Ai3 x n).2:=Rat.not_lt.1 fun h=>absurd ((Rat.lt_div_iff hd).1 h) (Rat.not_lt.2 (by rw[Rat.mul_comm];exact s2))
  have q3:=Rat.div_mul_cancel (a:=S) (b:=((n+1:Nat):Rat)*(a-b)) (fun e=>by rw[e] at hd;exact absurd hd (by decide))
  refine⟨_,⟨q1,q2⟩,?_⟩
  generalize S/(((n+1:Nat):Rat)*(a-b))=g at q3
  generalize ((n+1:Nat):Rat)=N at q3
  grind
 by_cases h1:b<a
 ·exact main ha hb h1
 ·by_cases h2:a<b
  ·obtain⟨g,h1,h2⟩:=main hb ha h2
   exact⟨g,h1,by generalize ((n+1:Nat):Rat)=N at h2⊢;grind⟩
  ·have:a=b:=by grind
   subst this
   exact⟨a^n,Da5 ha n,by generalize ((n+1:Nat):Rat)=N;grind⟩
end Go.SX
/- A box' sides, and numbers, laid into three places. -/
namespace Go.SX
def Bm3 (bs:List Iv) (i:Nat):Iv:=bs.getD i (0,0)
def z18:List Value:=[.slice none 0 0,.bool false,.slice none 0 0,.slice none 0 0,.bool false,.slice none 0 0,.slice none 0 0,.bool false,.slice none 0 0,.slice none 0 0,.bool false,.slice none 0 0,.slice none 0 0,.bool false,.slice none 0 0,.slice none 0 0,.bool false,.slice none 0 0]
def z9:List Value:=[.slice none 0 0,.bool false,.slice none 0 0,.slice none 0 0,.bool false,.slice none 0 0,.slice none 0 0,.bool false,.slice none 0 0]
theorem Eq8 {cs l:List Value} (h:l.length=cs.length):Aj6 cs 0 l=l:=by rw[Al5 _ _ _ (by omega),Nat.zero_add,h];simp
theorem Br4 {tu:TypeId} {W:PW} {ys:List (List Value)} {bs:List Iv} (h:An5 (SpV tu W) ys bs):DmV tu W (Aj6 z18 0 (List.take 3 ys).flatten) (Bm3 bs):=by
 rcases ys with _ | ⟨y0,_ | ⟨y1,_ | ⟨y2,ys⟩⟩⟩<;>rcases bs with _ | ⟨b0,_ | ⟨b1,_ | ⟨b2,bs⟩⟩⟩<;>first | exact False.elim h | exact False.elim h.2 | exact False.elim h.2.2 | exact False.elim h.2.2.2 | skip
 ·exact⟨⟨none,0,0⟩,_,⟨none,0,0⟩,⟨none,0,0⟩,_,⟨none,0,0⟩,⟨none,0,0⟩,_,⟨none,0,0⟩,⟨none,0,0⟩,_,⟨none,0,0⟩,⟨none,0,0⟩,_,⟨none,0,0⟩,⟨none,0,0⟩,_,⟨none,0,0⟩,rfl,SpV.zero W,SpV.zero W,SpV.zero W⟩
 ·obtain⟨⟨_,_,_,_,_,_,rfl,h1,h2⟩,_⟩:=h
  exact⟨_,_,_,_,_,_,⟨none,0,0⟩,_,⟨none,0,0⟩,⟨none,0,0⟩,_,⟨none,0,0⟩,⟨none,0,0⟩,_,⟨none,0,0⟩,⟨none,0,0⟩,_,⟨none,0,0⟩,rfl,SpV.mk h1 h2,SpV.zero W,SpV.zero W⟩
 ·obtain⟨⟨_,_,_,_,_,_,rfl,h1,h2⟩,⟨_,_,_,_,_,_,rfl,h3,h4⟩,_⟩:=h
  exact⟨_,_,_,_,_,_,_,_,_,_,_,_,⟨none,0,0⟩,_,⟨none,0,0⟩,⟨none,0,0⟩,_,⟨none,0,0⟩,rfl,SpV.mk h1 h2,SpV.mk h3 h4,SpV.zero W⟩
 ·obtain⟨⟨s0,c0,t0,s1,c1,t1,rfl,h1,h2⟩,⟨s2,c2,t2,s3,c3,t3,rfl,h3,h4⟩,⟨s4,c4,t4,s5,c5,t5,rfl,h5,h6⟩,_⟩:=h
  rw[Eq8]
  ·exact⟨s0,c0,t0,s1,c1,t1,s2,c2,t2,s3,c3,t3,s4,c4,t4,s5,c5,t5,rfl,SpV.mk h1 h2,SpV.mk h3 h4,SpV.mk h5 h6⟩
  ·rfl
theorem DmV.shp {tu:TypeId} {W:PW} {l:List Value} {b:Nat→Iv} (h:DmV tu W l b):Ai7 [.slice,.bool,.slice,.slice,.bool,.slice,.slice,.bool,.slice,.slice,.bool,.slice,.slice,.bool,.slice,.slice,.bool,.slice] l=true:=by
 obtain⟨_,_,_,_,_,_,_,_,_,_,_,_,_,_,_,_,_,_,rfl,_⟩:=h
 rfl
theorem Fa0 {bs:List Iv} {i:Nat} (h:bs.length≤i):Bm3 bs i=(0,0):=by
 unfold Bm3
 rw[List.getD_eq_getElem?_getD,List.getElem?_eq_none h]
 rfl
theorem Fi1 {bs:List Iv} {i:Nat} (h:i<bs.length):Bm3 bs i=bs[i]:=by
 unfold Bm3
 rw[List.getD_eq_getElem?_getD,List.getElem?_eq_getElem h]
 rfl
theorem Ep8 {bs:List Iv} {k:Nat} (h: ∀x∈bs,IvS k x) (i:Nat):BdI (2*k+1) (Bm3 bs i):=by
 by_cases hi:i<bs.length
 ·rw[Fi1 hi]
  exact BdI.Co7 (h _ (List.getElem_mem hi))
 ·rw[Fa0 (by omega)]
  exact BdI.zero (by omega)
theorem SpV.Ge9 {tu:TypeId} {W:PW} {l:List Value} {x:Iv} {B:Bool} {K:Sl→Bool→Sl→Sl→Bool→Sl→Bool→Prop} (h:SpV tu W l x) (k: ∀s b t s' b' t',SpV tu W [s.v,.bool b,t.v,s'.v,.bool b',t'.v] x→K s b t s' b' t' B):
  ∃(s:Sl) (b:Bool) (t s':Sl) (b':Bool) (t':Sl) (c:Bool),Value.tuple ⟨[.agg ⟨l⟩,.bool B]⟩ = .tuple ⟨[.agg ⟨[s.v,.bool b,t.v,s'.v,.bool b',t'.v]⟩,.bool c]⟩∧K s b t s' b' t' c:=by
 obtain⟨s,b,t,s',b',t',rfl,h1,h2⟩:=h
 exact⟨s,b,t,s',b',t',B,rfl,k s b t s' b' t' (SpV.mk h1 h2)⟩
end Go.SX
