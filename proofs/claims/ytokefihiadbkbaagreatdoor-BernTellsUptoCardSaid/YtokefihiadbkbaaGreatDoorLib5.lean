/- Intervals hold what numbers of theirs come to: laws. -/
import Derived.Test.YtokefihiadbkbaaGreatDoorLib4
import Derived.Test.YtokefihiadbkbaaGreatDoorLib2
import Derived.Test.YtokefihiadbkbaaGreatDoorLib3
set_option linter.unusedVariables false
set_option linter.unusedSimpArgs false
namespace Go.SX
def inI (x:Iv) (v:Rat):Prop:=x.1≤v∧v≤x.2
theorem Az6 {x:Rat} (h:0≤x): ∀n:Nat,0≤x^n
 | 0=>by rw[Rat.pow_zero];decide
 | n+1=>by rw[Rat.pow_succ];exact Rat.mul_nonneg (Az6 h n) h
theorem As3 {x y:Rat} (h:0≤x) (k:x≤y): ∀n:Nat,x^n≤y^n
 | 0=>by rw[Rat.pow_zero,Rat.pow_zero];exact Rat.le_refl
 | n+1=>by
  rw[Rat.pow_succ,Rat.pow_succ]
  have ih:=As3 h k n
  have h1:=Rat.mul_nonneg (show 0≤y^n-x^n by grind) h
  have h2:=Rat.mul_nonneg (Az6 (show 0≤y by grind) n) (show 0≤y-x by grind)
  grind
theorem Ap2 (x:Rat): ∀n:Nat,(n%2=0→(-x)^n=x^n)∧(n%2=1→(-x)^n = -(x^n))
 | 0=>⟨fun _=>by rw[Rat.pow_zero,Rat.pow_zero],fun h=>by omega⟩
 | n+1=>by
  obtain⟨h1,h2⟩:=Ap2 x n
  refine⟨fun h=>?_,fun h=>?_⟩
  ·rw[Rat.pow_succ,Rat.pow_succ,h2 (by omega)]
   grind
  ·rw[Rat.pow_succ,Rat.pow_succ,h1 (by omega)]
   grind
theorem Eo2 {a b v:Rat} (h:(a≤v∧v≤b)∨(b≤v∧v≤a)):inI (Ag0 a b) v:=by
 have h1:=Dh5 a b
 have h2:=Cl6 a b
 exact⟨by show Az9 a b≤v;grind,by show v≤Au7 a b;grind⟩
theorem Da5 {x:Iv} {v:Rat} (h:inI x v) (n:Nat):inI (Ai3 x n) (v^n):=by
 obtain⟨h1,h2⟩:=h
 unfold Ai3
 have ea:=(Ap2 x.1 n).1
 have ev:=(Ap2 v n).1
 have eb:=(Ap2 x.2 n).1
 have oa:=(Ap2 x.1 n).2
 have ov:=(Ap2 v n).2
 have ob:=(Ap2 x.2 n).2
 have r:=Cl6 (x.1^n) (x.2^n)
 split
 ·rename_i c
  obtain⟨c1,c2,c3,c4⟩:=c
  by_cases hv:0≤v
  ·have:=As3 hv h2 n
   have p:=Az6 hv n
   exact⟨p,by show v^n≤Au7 (x.1^n) (x.2^n);grind⟩
  ·have q:=As3 (show 0≤-v by grind) (show -v≤-x.1 by grind) n
   have p:=Az6 (show 0≤-v by grind) n
   rw[ev c2] at p q
   rw[ea c2] at q
   exact⟨p,by show v^n≤Au7 (x.1^n) (x.2^n);grind⟩
 ·rename_i c
  apply Eo2
  rcases(by omega:n=0∨n%2=1∨(0<n∧n%2=0)) with h0 | h0 | h0
  ·subst h0
   rw[Rat.pow_zero,Rat.pow_zero,Rat.pow_zero]
   exact .inl ⟨Rat.le_refl,Rat.le_refl⟩
  ·refine .inl ⟨?_,?_⟩
   ·by_cases ha:0≤x.1
    ·exact As3 ha h1 n
    ·by_cases hv:0≤v
     ·have p:=Az6 hv n
      have q:=Az6 (show 0≤-x.1 by grind) n
      rw[oa h0] at q
      grind
     ·have q:=As3 (show 0≤-v by grind) (show -v≤-x.1 by grind) n
      rw[oa h0,ov h0] at q
      grind
   ·by_cases hv:0≤v
    ·exact As3 hv h2 n
    ·by_cases hb:0≤x.2
     ·have p:=Az6 hb n
      have q:=Az6 (show 0≤-v by grind) n
      rw[ov h0] at q
      grind
     ·have q:=As3 (show 0≤-x.2 by grind) (show -x.2≤-v by grind) n
      rw[ob h0,ov h0] at q
      grind
  ·by_cases ha:0≤x.1
   ·exact .inl ⟨As3 ha h1 n,As3 (show 0≤v by grind) h2 n⟩
   ·have hb:¬0≤x.2:=fun hb=>c ⟨h0.1,h0.2,by grind,hb⟩
    have q1:=As3 (show 0≤-v by grind) (show -v≤-x.1 by grind) n
    have q2:=As3 (show 0≤-x.2 by grind) (show -x.2≤-v by grind) n
    rw[ea h0.2,ev h0.2] at q1
    rw[eb h0.2,ev h0.2] at q2
    exact .inr ⟨q2,q1⟩
end Go.SX
/- A matrix whose rows and whose row of rows are own: elements are read and written. -/
namespace Go.SX
end Go.SX
/- Intervals within intervals; sums of terms on intervals; the slope of a power: laws. -/
namespace Go.SX
def Ft1 (x y:Iv):Prop:=y.1≤x.1∧x.2≤y.2
/-! ### Slopes -/
theorem Br1 {a b : Rat} (hb : 0 ≤ b) (h : b ≤ a) : ∀ n : Nat, ((n + 1 : Nat) : Rat) * (a - b) * b ^ n ≤ a ^ (n + 1) - b ^ (n + 1) ∧ a ^ (n + 1) - b ^ (n + 1) ≤ ((n + 1 : Nat) : Rat) * (a - b) * a ^ n
  | 0 => by
    simp only [Rat.pow_succ, Rat.pow_zero]
    constructor <;> grind
  | n + 1 => by
    obtain ⟨h1, h2⟩ := Br1 hb h n
    have ha : 0 ≤ a := by grind
    have pb := Az6 hb n
    have pa := Az6 ha n
    have ab := As3 hb h n
    have e : ((n + 1 + 1 : Nat) : Rat) = ((n + 1 : Nat) : Rat) + 1 := by push_cast; rfl
    have hn : (0 : Rat) ≤ ((n + 1 : Nat) : Rat) := by have := Rat.natCast_nonneg (a := n + 1); exact this
    have u1 := Rat.mul_nonneg (show 0 ≤ a ^ (n + 1) - b ^ (n + 1) - ((n + 1 : Nat) : Rat) * (a - b) * b ^ n by grind) ha
    have u2 := Rat.mul_nonneg (show 0 ≤ ((n + 1 : Nat) : Rat) * (a - b) * a ^ n - (a ^ (n + 1) - b ^ (n + 1)) by grind) ha
    have d : 0 ≤ a - b := by grind
    have u3 := Rat.mul_nonneg (Rat.mul_nonneg (Rat.mul_nonneg hn d) pb) d
    have u4 := Rat.mul_nonneg (show 0 ≤ a ^ (n + 1) - b ^ (n + 1) by have := As3 hb h (n + 1); grind) d
    rw [e]
    generalize ((n + 1 : Nat) : Rat) = N at *
    rw [Rat.pow_succ a (n + 1), Rat.pow_succ b (n + 1)]
    rw [Rat.pow_succ a n, Rat.pow_succ b n] at *
    generalize a ^ n = A at *
    generalize b ^ n = B at *
    constructor <;> grind
theorem Ex7 {x:Iv} {a b:Rat} (ha:inI x a) (hb:inI x b) (h:b≤a) (n:Nat):((n+1:Nat):Rat)*(a-b)*(Ai3 x n).1≤a^(n+1)-b^(n+1)∧a^(n+1)-b^(n+1)≤((n+1:Nat):Rat)*(a-b)*(Ai3 x n).2:=by
 have hn:(0:Rat)≤((n+1:Nat):Rat):=Rat.natCast_nonneg
 have fin: ∀{a b L U S A B:Rat},b≤a→L≤A→A≤U→L≤B→B≤U→((n+1:Nat):Rat)*(a-b)*A≤S→S≤((n+1:Nat):Rat)*(a-b)*B→((n+1:Nat):Rat)*(a-b)*L≤S∧S≤((n+1:Nat):Rat)*(a-b)*U:=fun {a b L U S A B} h h1 h2 h3 h4 h5 h6=>by
  have d:=Rat.mul_nonneg hn (show 0≤a-b by grind)
  have e1:=Rat.mul_nonneg d (show 0≤A-L by grind)
  have e2:=Rat.mul_nonneg d (show 0≤U-B by grind)
  generalize ((n+1:Nat):Rat)*(a-b)=D at *
  constructor<;>grind
 have pos: ∀{a b:Rat},inI x a→inI x b→0≤b→b≤a→((n+1:Nat):Rat)*(a-b)*(Ai3 x n).1≤a^(n+1)-b^(n+1)∧a^(n+1)-b^(n+1)≤((n+1:Nat):Rat)*(a-b)*(Ai3 x n).2:=fun {a b} ha hb h0 h=>by
  have s:=Br1 h0 h n
  have p:=Da5 ha n
  have q:=Da5 hb n
  exact fin h q.1 q.2 p.1 p.2 s.1 s.2
 have neg: ∀{a b:Rat},inI x a→inI x b→a≤0→b≤a→((n+1:Nat):Rat)*(a-b)*(Ai3 x n).1≤a^(n+1)-b^(n+1)∧a^(n+1)-b^(n+1)≤((n+1:Nat):Rat)*(a-b)*(Ai3 x n).2:=fun {a b} ha hb h0 h=>by
  have s:=Br1 (a:=-b) (b:=-a) (by grind) (by grind) n
  have p:=Da5 ha n
  have q:=Da5 hb n
  have ea:=Ap2 a n
  have eb:=Ap2 b n
  have fa:=Ap2 a (n+1)
  have fb:=Ap2 b (n+1)
  rw[show -b - -a=a-b by grind] at s
  rcases(by omega:n%2=0∨n%2=1) with e | e
  ·rw[fa.2 (by omega),fb.2 (by omega),ea.1 e,eb.1 e] at s
   exact fin h p.1 p.2 q.1 q.2 (by grind) (by grind)
  ·rw[fa.1 (by omega),fb.1 (by omega),ea.2 e,eb.2 e] at s
   exact fin h q.1 q.2 p.1 p.2 (by grind) (by grind)
 by_cases h1:0≤b
 ·exact pos ha hb h1 h
 ·by_cases h2:a≤0
  ·exact neg ha hb h2 h
  ·have z:inI x 0:=⟨Rat.le_trans hb.1 (by grind),Rat.le_trans (by grind) ha.2⟩
   have s:=pos ha z Rat.le_refl (by grind)
   have t:=neg z hb Rat.le_refl (by grind)
   rw[Bl8 (Nat.succ_pos n)] at s t
   generalize ((n+1:Nat):Rat)=N at *
   constructor<;>grind
theorem Fu7 {x:Iv} {a b:Rat} (ha:inI x a) (hb:inI x b) (n:Nat): ∃g,inI (Ai3 x n) g∧a^(n+1)-b^(n+1)=((n+1:Nat):Rat)*g*(a-b):=by
 have hn:(0:Rat)<((n+1:Nat):Rat):=by have:=Rat.natCast_pos (a:=n+1);exact this.2 (Nat.succ_pos n)
 have main: ∀{a b:Rat},inI x a→inI x b→b<a→∃g,inI (Ai3 x n) g∧a^(n+1)-b^(n+1)=((n+1:Nat):Rat)*g*(a-b):=fun {a b} ha hb h=>by
  obtain⟨s1,s2⟩:=Ex7 ha hb (Rat.le_of_lt h) n
  have hd:(0:Rat)<((n+1:Nat):Rat)*(a-b):=Rat.mul_pos hn (by grind)
  generalize a^(n+1)-b^(n+1)=S at *
  have q1:(Ai3 x n).1≤S/(((n+1:Nat):Rat)*(a-b)):=Rat.not_lt.1 fun h=>absurd ((Rat.div_lt_iff hd).1 h) (Rat.not_lt.2 (by rw[Rat.mul_comm];exact s1))
  have q2:S/(((n+1:Nat):Rat)*(a-b))≤(Ai3 x n).2:=Rat.not_lt.1 fun h=>absurd ((Rat.lt_div_iff hd).1 h) (Rat.not_lt.2 (by rw[Rat.mul_comm];exact s2))
  have q3:=Rat.div_mul_cancel (a:=S) (b:=((n+1:Nat):Rat)*(a-b)) (fun e=>by rw[e] at hd;exact absurd hd (by decide))
  refine⟨_,⟨q1,q2⟩,?_⟩
  generalize S/(((n+1:Nat):Rat)*(a-b))=g at q3
  generalize ((n+1:Nat):Rat)=N at q3
  grind
 by_cases h1:b<a
 ·exact main ha hb h1
 ·by_cases h2:a<b
  ·obtain⟨g,h1,h2⟩:=main hb ha h2
   exact⟨g,h1,by generalize ((n+1:Nat):Rat)=N at h2⊢;grind⟩
  ·have:a=b:=by grind
   subst this
   exact⟨a^n,Da5 ha n,by generalize ((n+1:Nat):Rat)=N;grind⟩
end Go.SX
/- A box' sides, and numbers, laid into three places. -/
namespace Go.SX
def Bm3 (bs:List Iv) (i:Nat):Iv:=bs.getD i (0,0)
def z9:List Value:=[.slice none 0 0,.bool false,.slice none 0 0,.slice none 0 0,.bool false,.slice none 0 0,.slice none 0 0,.bool false,.slice none 0 0]
theorem Fa0 {bs:List Iv} {i:Nat} (h:bs.length≤i):Bm3 bs i=(0,0):=by
 unfold Bm3
 rw[List.getD_eq_getElem?_getD,List.getElem?_eq_none h]
 rfl
theorem Fi1 {bs:List Iv} {i:Nat} (h:i<bs.length):Bm3 bs i=bs[i]:=by
 unfold Bm3
 rw[List.getD_eq_getElem?_getD,List.getElem?_eq_getElem h]
 rfl
theorem Ep8 {bs:List Iv} {k:Nat} (h: ∀x∈bs,IvS k x) (i:Nat):BdI (2*k+1) (Bm3 bs i):=by
 by_cases hi:i<bs.length
 ·rw[Fi1 hi]
  exact BdI.Co7 (h _ (List.getElem_mem hi))
 ·rw[Fa0 (by omega)]
  exact BdI.zero (by omega)
theorem SpV.Ge9 {tu:TypeId} {W:PW} {l:List Value} {x:Iv} {B:Bool} {K:Sl→Bool→Sl→Sl→Bool→Sl→Bool→Prop} (h:SpV tu W l x) (k: ∀s b t s' b' t',SpV tu W [s.v,.bool b,t.v,s'.v,.bool b',t'.v] x→K s b t s' b' t' B):
  ∃(s:Sl) (b:Bool) (t s':Sl) (b':Bool) (t':Sl) (c:Bool),Value.tuple ⟨[.agg ⟨l⟩,.bool B]⟩ = .tuple ⟨[.agg ⟨[s.v,.bool b,t.v,s'.v,.bool b',t'.v]⟩,.bool c]⟩∧K s b t s' b' t' c:=by
 obtain⟨s,b,t,s',b',t',rfl,h1,h2⟩:=h
 exact⟨s,b,t,s',b',t',B,rfl,k s b t s' b' t' (SpV.mk h1 h2)⟩
end Go.SX
/- A row of numbers of one's own: numbers are read and written. A box of numbers that is known by its pointer. -/
namespace Go.SX
def OwV (tu tq:TypeId) (W:PW) (s:Sl) (n:Nat) (f:Nat→Rat):Prop:=∃xs,Own W tq 3 s xs∧Qs tu W xs n f
def Ij6 (f:Nat→Rat) (j:Nat) (q:Rat) (k:Nat):Rat:=if k=j then q else f k
variable {tu tq:TypeId} {W W':PW} {s:Sl} {c:Nat} {f:Nat→Rat}
theorem OwV.ext (h:OwV tu tq W s c f) (hE:Ext W W'):OwV tu tq W' s c f:=let⟨xs,k1,k2⟩:=h;⟨xs,k1.ext hE,k2.ext hE⟩
theorem OwV.qs (h:OwV tu tq W s c f):Gv6 tu tq W s c f:=let⟨xs,k1,k2⟩:=h;⟨xs,k1.row,k2⟩
theorem OwV.n (h:OwV tu tq W s c f):s.n=c:=h.qs.n
theorem OwV.inB (h:OwV tu tq W s c f) {i:Int} (h0:0≤i) (h1:i<(c:Int)):SX.inB s i:=h.qs.inB h0 h1
theorem OwV.at (h:OwV tu tq W s c f) {i:Nat} (hi:i<c): ∃(s1:Sl) (b:Bool) (s2:Sl),Aa7 W s 3 i 0 [s1.v,.bool b,s2.v]∧Ab3 tu W s1 b s2 (f i):=h.qs.at hi
theorem OwV.congr {g:Nat→Rat} (h:OwV tu tq W s c f) (he: ∀i,i<c→f i=g i):OwV tu tq W s c g:=let⟨xs,k1,k2⟩:=h;⟨xs,k1,k2.congr he⟩
theorem OwV.store {W0:PW} {M:Nat→Prop} {j:Nat} {s1 s2:Sl} {b:Bool} {q:Rat} {K:PW→Prop} (h:OwV tu tq W s c f) (hj:j<c) (hq:Ab3 tu W s1 b s2 q) (hu:tu≠tq) (hM: ∀g,s.v.ownBlock=some g→may W0 M g)
  (kont: ∀W'',Put tq (fun g=>s.v.ownBlock=some g) W W''→OwV tu tq W'' s c (Ij6 f j q)→K W''):An9 W0 M s (j*3+0) [s1.v,.bool b,s2.v] W K:=by
 obtain⟨xs,k1,k2⟩:=h
 refine Ao7 k1 (by rw[k2.1];exact hj) rfl ?_ hM fun W'' g hg hw ho=>kont W'' ⟨g,hg,hw⟩ ⟨_,ho,((hw.qs k2 hu).set hj (hw.rat hq hu)).congr fun k hk=>rfl⟩
 intro u hu
 simp only[List.mem_cons,List.not_mem_nil,or_false] at hu
 rcases hu with rfl | rfl | rfl<;>rfl
theorem OwV.put {N:Nat→Prop} (h:OwV tu tq W s c f) (hp:Put tq N W W') (hN: ∀g,s.v.ownBlock=some g→¬N g) (hu:tu≠tq):OwV tu tq W' s c f:=let⟨xs,k1,k2⟩:=h;⟨xs,hp.own k1 hN,hp.qs k2 hu⟩
theorem OwV.did {A:PW} (h:OwV tu tq W s c f) (hn:0<c) (hA:Ext W A) (hE:Au9 (fun g=>s.v.ownBlock=some g) A W'):Put tq (fun g=>s.v.ownBlock=some g) W W':=by
 obtain⟨xs,k1,k2⟩:=h
 have hne:xs≠[]:=fun e=>by have:=k2.1;rw[e] at this;simp at this;omega
 obtain⟨g,cs,_,hg,_,hh,_⟩:=(k1.ext hA).at hne
 exact⟨g,hg,A,cs,(0,0),hA,hE.mono fun b hb=>by rw[hg] at hb;exact(Option.some.inj hb).symm,hh⟩
theorem Aa7.put {N:Nat→Prop} {sz i off:Nat} {l:List Value} (h:Aa7 W s sz i off l) (hp:Put tq N W W') (hN: ∀g,s.v.ownBlock=some g→¬N g):Aa7 W' s sz i off l:=by
 obtain⟨g,h1,h2⟩:=hp
 obtain⟨b,o,cs,t,fz,hA,hS,hh,hc⟩:=h
 have hk:=h2.Fi9.Ai1 b (Array.getElem?_eq_some_iff.1 hh).1 hS fun e=>by
  have e:b=g:=e
  subst e
  exact hN b (by rw[Sl.v,hA];rfl) h1
 exact⟨b,o,cs,t,fz,hA,hk.2,hk.1.trans hh,hc⟩
def In9 (tu:TypeId) (W:PW) (r:Option Addr) (m:Nat) (q:Nat→Rat):Prop:=∃xs,Aa7 W ⟨r,1,1⟩ 1 0 0 xs.flatten∧Qs tu W xs m q
theorem In9.ext {r:Option Addr} {m:Nat} {q:Nat→Rat} (h:In9 tu W r m q) (hE:Ext W W'):In9 tu W' r m q:=let⟨xs,h1,h2⟩:=h;⟨xs,h1.ext hE,h2.ext hE⟩
theorem In9.put {r:Option Addr} {m:Nat} {q:Nat→Rat} {N:Nat→Prop} (h:In9 tu W r m q) (hp:Put tq N W W') (hN: ∀g,(⟨r,1,1⟩:Sl).v.ownBlock=some g→¬N g) (hu:tu≠tq):In9 tu W' r m q:=let⟨xs,h1,h2⟩:=h;⟨xs,h1.put hp hN,hp.qs h2 hu⟩
theorem In9.two {r:Option Addr} {q:Nat→Rat} (h:In9 tu W r 2 q): ∃(s1:Sl) (b:Bool) (s2 s3:Sl) (d:Bool) (s4:Sl),Aa7 W ⟨r,1,1⟩ 1 0 0 [s1.v,.bool b,s2.v,s3.v,.bool d,s4.v]∧Ab3 tu W s1 b s2 (q 0)∧Ab3 tu W s3 d s4 (q 1):=by
 obtain⟨xs,h1,h2⟩:=h
 obtain⟨s1,b,s2,h3,h4⟩:=h2.2 0 (by omega)
 obtain⟨s3,d,s4,h5,h6⟩:=h2.2 1 (by omega)
 rcases xs with _ | ⟨x,_ | ⟨y,_ | ⟨z,xs⟩⟩⟩
 ·cases h2.1
 ·have:=h2.1;simp at this
 ·cases h3
  cases h5
  exact⟨s1,b,s2,s3,d,s4,h1,h4,h6⟩
 ·have:=h2.1;simp at this
theorem In9.mk2 {r:Option Addr} {q:Nat→Rat} {s1 s2 s3 s4:Sl} {b d:Bool} (h:Aa7 W ⟨r,1,1⟩ 1 0 0 [s1.v,.bool b,s2.v,s3.v,.bool d,s4.v]) (hq:Ab3 tu W s1 b s2 (q 0)) (hq2:Ab3 tu W s3 d s4 (q 1)):In9 tu W r 2 q:=
 ⟨[[s1.v,.bool b,s2.v],[s3.v,.bool d,s4.v]],h,rfl,fun i hi=>by
  rcases(by omega:i=0∨i=1) with rfl | rfl
  ·exact⟨s1,b,s2,rfl,hq⟩
  ·exact⟨s3,d,s4,rfl,hq2⟩⟩
end Go.SX
/- Lines of a block of numbers along a side: plain law. -/
namespace Go.SX
def Ie3 (st n k:Nat):Nat:=k-k/st%n*st
def Id6 (st n:Nat) (T:(Nat→Rat)→Nat→Rat) (F:Nat→Rat) (k:Nat):Rat:=T (fun j=>F (Ie3 st n k+j*st)) (k/st%n)
theorem Il4 {st n k:Nat} (hs:0<st) (hn:0<n): ∃a c j,a<st∧j<n∧k=a+(n*c+j)*st∧k/st=n*c+j∧k/st%n=j∧Ie3 st n k=a+n*c*st:=by
 refine⟨k%st,k/st/n,k/st%n,Nat.mod_lt _ hs,Nat.mod_lt _ hn,?_,?_,rfl,?_⟩
 ·rw[Nat.div_add_mod,Nat.mul_comm];exact(Nat.mod_add_div k st).symm
 ·exact(Nat.div_add_mod _ _).symm
 ·unfold Ie3
  have h1:k%st+st*(k/st)=k:=Nat.mod_add_div k st
  have h2:n*(k/st/n)+k/st%n=k/st:=Nat.div_add_mod _ _
  have h3:st*(k/st)=n*(k/st/n)*st+k/st%n*st:=by rw[←Nat.add_mul,h2,Nat.mul_comm]
  omega
theorem Iv5 {st n a c j:Nat} (hs:0<st) (ha:a<st) (hj:j<n):(a+(n*c+j)*st)/st=n*c+j∧(a+(n*c+j)*st)/st%n=j∧Ie3 st n (a+(n*c+j)*st)=a+n*c*st:=by
 have h1:(a+(n*c+j)*st)/st=n*c+j:=by rw[Nat.add_mul_div_right _ _ hs,Nat.div_eq_of_lt ha,Nat.zero_add]
 have h2:(n*c+j)%n=j:=by rw[Nat.mul_add_mod];exact Nat.mod_eq_of_lt hj
 refine⟨h1,by rw[h1,h2],?_⟩
 unfold Ie3
 rw[h1,h2,Nat.add_mul]
 omega
theorem Ig2 {st n R t:Nat} (hs:0<st) (hn:0<n) (ht:t<st*n*R) (h0:t/st%n=0) {j:Nat} (hj:j<n):t+j*st<st*n*R∧(t+j*st)/st%n=j∧Ie3 st n (t+j*st)=t:=by
 obtain⟨a,c,i,ha,hi,hk,hq,hm,hb⟩:=Il4 (k:=t) hs hn
 rw[hm] at h0
 subst h0
 have e:t+j*st=a+(n*c+j)*st:=by rw[hk,Nat.add_zero,Nat.add_mul];omega
 have e0:t=a+n*c*st:=by rw[hk,Nat.add_zero]
 obtain⟨h1,h2,h3⟩:=Iv5 (n:=n) (c:=c) hs ha hj
 refine⟨?_,by rw[e,h2],by rw[e,h3,←e0]⟩
 have hc:c<R:=by
  refine Classical.byContradiction fun hge=>?_
  have hge:R≤c:=by omega
  have:st*n*R≤st*n*c:=Nat.mul_le_mul_left _ hge
  have:n*c*st=st*n*c:=by rw[Nat.mul_comm (n*c),Nat.mul_assoc]
  omega
 have k1:(n*c+j+1)*st≤n*R*st:=Nat.mul_le_mul_right _ (by
  have:n*(c+1)≤n*R:=Nat.mul_le_mul_left _ hc
  rw[Nat.mul_add] at this
  omega)
 have k2:n*R*st=st*n*R:=by rw[Nat.mul_comm (n*R),Nat.mul_assoc]
 rw[Nat.add_mul,Nat.one_mul] at k1
 rw[e]
 omega
theorem Id8 {st n k:Nat} (hs:0<st) (hn:0<n):Ie3 st n k/st%n=0∧Ie3 st n k≤k∧k=Ie3 st n k+k/st%n*st∧k/st%n<n:=by
 obtain⟨a,c,j,ha,hj,hk,hq,hm,hb⟩:=Il4 (k:=k) hs hn
 have h:=(Iv5 (n:=n) (c:=c) (j:=0) hs ha hn).2.1
 rw[Nat.add_zero] at h
 have e:k=Ie3 st n k+j*st:=by
  rw[hb]
  have h9:a+(n*c+j)*st=a+n*c*st+j*st:=by
   rw[Nat.add_mul]
   omega
  exact hk.trans h9
 exact⟨by rw[hb];exact h,by omega,by rw[hm];exact e,by omega⟩
def Id7 (st n:Nat) (T:(Nat→Rat)→Nat→Rat) (F:Nat→Rat) (t k:Nat):Rat:=if Ie3 st n k<t then Id6 st n T F k else F k
theorem Ig0 (st n:Nat) (T:(Nat→Rat)→Nat→Rat) (F:Nat→Rat):Id7 st n T F 0=F:=by funext k;unfold Id7;rw[if_neg (by omega)]
theorem Ig8 {st n N:Nat} {T:(Nat→Rat)→Nat→Rat} {F:Nat→Rat} (hs:0<st) (hn:0<n) {k:Nat} (hk:k<N):Id7 st n T F N k=Id6 st n T F k:=by
 unfold Id7
 rw[if_pos]
 have:=(Id8 (k:=k) hs hn).2.1
 omega
theorem Ig1 {st n t:Nat} {T:(Nat→Rat)→Nat→Rat} {F:Nat→Rat} (hs:0<st) (hn:0<n) (h:t/st%n≠0):Id7 st n T F (t+1)=Id7 st n T F t:=by
 funext k
 unfold Id7
 have h1:=(Id8 (k:=k) hs hn).1
 have:Ie3 st n k≠t:=fun e=>h (by rw[←e];exact h1)
 by_cases e:Ie3 st n k<t
 ·rw[if_pos (by omega),if_pos e]
 ·rw[if_neg (by omega),if_neg e]
def If8 (st n:Nat) (T:(Nat→Rat)→Nat→Rat) (F:Nat→Rat) (t m k:Nat):Rat:=if Ie3 st n k=t∧k/st%n<m then Id6 st n T F k else Id7 st n T F t k
theorem Ij2 (st n:Nat) (T:(Nat→Rat)→Nat→Rat) (F:Nat→Rat) (t:Nat):If8 st n T F t 0=Id7 st n T F t:=by funext k;unfold If8;rw[if_neg (by omega)]
theorem Il6 {st n t:Nat} {T:(Nat→Rat)→Nat→Rat} {F:Nat→Rat} (hs:0<st) (hn:0<n):If8 st n T F t n=Id7 st n T F (t+1):=by
 funext k
 unfold If8 Id7
 have h1:=(Id8 (k:=k) hs hn).2.2.2
 by_cases e:Ie3 st n k=t
 ·rw[if_pos ⟨e,h1⟩,if_pos (by omega)]
 ·rw[if_neg (fun h=>e h.1)]
  by_cases e2:Ie3 st n k<t
  ·rw[if_pos e2,if_pos (by omega)]
  ·rw[if_neg e2,if_neg (by omega)]
theorem Ij0 {st n R t m:Nat} {T:(Nat→Rat)→Nat→Rat} {F:Nat→Rat} (hs:0<st) (hn:0<n) (ht:t<st*n*R) (h0:t/st%n=0) (hm:m<n):If8 st n T F t (m+1)=fun k=>if k=t+m*st then T (fun j=>F (t+j*st)) m else If8 st n T F t m k:=by
 obtain⟨_,h2,h3⟩:=Ig2 hs hn ht h0 hm
 funext k
 by_cases e:k=t+m*st
 ·subst e
  rw[if_pos rfl]
  unfold If8 Id6
  rw[h3,h2,if_pos ⟨rfl,by omega⟩]
 ·rw[if_neg e]
  unfold If8
  by_cases e1:Ie3 st n k=t∧k/st%n<m
  ·rw[if_pos e1,if_pos ⟨e1.1,by omega⟩]
  ·rw[if_neg e1,if_neg]
   rintro⟨e2,e3⟩
   refine e ?_
   have h4:=(Id8 (k:=k) hs hn).2.2.1
   have:k/st%n=m:=by
    refine Classical.byContradiction fun hne=>e1 ⟨e2,by omega⟩
   rw[e2,this] at h4
   exact h4
theorem Iu6 {st n R t:Nat} {T:(Nat→Rat)→Nat→Rat} {F:Nat→Rat} (hs:0<st) (hn:0<n) (ht:t<st*n*R) (h0:t/st%n=0) {m:Nat} (hm:m<n):Id7 st n T F t (t+m*st)=F (t+m*st):=by
 obtain⟨_,_,h3⟩:=Ig2 hs hn ht h0 hm
 unfold Id7
 rw[h3,if_neg (by omega)]
end Go.SX
/- Coefficients in the basis of Bernstein: neighbours are brought together, again and again: plain law. -/
namespace Go.SX
def btw (u a b:Rat):Rat:=a+u*(b-a)
def dc (u:Rat) (f:Nat→Rat):Nat→Nat→Rat
 | 0,i=>f i
 | r+1,i=>btw u (dc u f r i) (dc u f r (i+1))
def Id9 (n D N:Nat) (f:Nat→Rat):Prop:=∀i,i<n→Ak3 D N (f i)
def loS (u:Rat) (f:Nat→Rat) (k j i:Nat):Rat:=if i≤k then dc u f i 0 else if j<i then dc u f (k+1) (i-k-1) else dc u f k (i-k)
end Go.SX
