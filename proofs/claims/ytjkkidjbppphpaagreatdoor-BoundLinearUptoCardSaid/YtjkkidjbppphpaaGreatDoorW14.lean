/- whole.Pow, rat.Pow; cinctureref1.times. -/
import Derived.Test.YtjkkidjbppphpaaGreatDoorW6
import Derived.Test.YtjkkidjbppphpaaGreatDoorR8
import Derived.Test.YtjkkidjbppphpaaGreatDoorLib2
import Derived.Test.YtjkkidjbppphpaaGreatDoorLib4
import Derived.Test.YtjkkidjbppphpaaGreatDoorR13
set_option linter.unusedVariables false
set_option linter.unusedSimpArgs false
set_option maxRecDepth 100000
namespace Go.Proofs.YtjkkidjbppphpaaGreatDoor
open Go Go.SX
theorem Fu3 {i:Nat} (h:i<256):bits .and .i64 (i:Int) 1=((i%2:Nat):Int):=by
 have key: ∀i:Nat,i<256→bits .and .i64 (i:Int) 1=((i%2:Nat):Int):=by decide +kernel
 exact key i h
theorem Fp4 (i:Nat):Ah0 (i:Int) 1=((i/2:Nat):Int):=by
 unfold Ah0
 rw[Int.fdiv_eq_ediv_of_nonneg _ (by decide)]
 omega
theorem Cf5 {z:Int} {k:Nat} (h:nl z.natAbs≤k) (e:Nat):nl (z^e).natAbs≤k*e+1:=by
 induction e with
 | zero=>simp[Ax0]
 | succ e ih=>
  rw[Int.pow_succ,Int.natAbs_mul]
  have:=Ae5 (z^e).natAbs z.natAbs
  rw[Nat.mul_add]
  omega
theorem Di0 {W0:PW} {M:Nat→Prop} {s:Sl} {b:Bool} {z:Int} {n k:Nat} (h:Ab5 284 W0 s b z) (hz:nl z.natAbs≤k) (hk:k≤1048576) (hn:n≤255):
  Aa0 Tryz.prog 185 [.agg ⟨[s.v,.bool b]⟩,.int .i64 (n:Int)] W0 M fun v W'=>∃(s':Sl),∃(b':Bool),v = .agg ⟨[Sl.v s',.bool b']⟩∧Ab5 284 W' s' b' (z^n):=by
 apply Cg5
 have en:mn (mx (n:Int) 0) 255=(n:Int):=by unfold mn mx;split<;>(try split)<;>omega
 unfold Cf2
 rw[en]
 refine Bk1 (z:=1) (by unfold I64;omega) fun s3 b4 W2 hE2 h2=>⟨s3,b4,rfl,?_⟩
 refine⟨fun l W=>match l with
  | [.val (.int .i64 i),.cells [.slice A m c,.bool x],.cells [.slice A' m' c',.bool y]]=>∃(j e f:Nat),i=(j:Int)∧Ext W0 W∧f+e*j=n∧e≤2*n+1∧j≤255∧Ab5 284 W ⟨A,m,c⟩ x (z^f)∧Ab5 284 W ⟨A',m',c'⟩ y (z^e)
  | _=>False,fun l _=>match l with | [.val (.int .i64 i),_,_]=>i.toNat | _=>0,⟨n,1,0,rfl,hE2,by omega,by omega,hn,by simpa using h2,by rw[show z^1=z by rw[Int.pow_succ,Int.pow_zero,Int.one_mul]];exact h.ext hE2⟩,?_⟩
 rintro s7 b8 s9 b10 i11 W12 ⟨j,e,f,rfl,hE,hfe,he,hj,hf1,hf2⟩
 have hf1:Ab5 284 W12 s7 b8 (z^f):=hf1
 have hf2:Ab5 284 W12 s9 b10 (z^e):=hf2
 have hjn:e*j≤n:=by omega
 refine⟨fun hpos=>?_,fun hz0 W25 hE25=>⟨s7,b8,rfl,?_⟩⟩
 ·have hj1:1≤j:=by omega
  have hen:e≤n:=Nat.le_trans (Nat.le_mul_of_pos_right e hj1) hjn
  have hsz: ∀x,x≤511→nl (z^x).natAbs≤68719476736:=fun x hx=>by
   have h1:=Cf5 hz x
   have h2:=Nat.mul_le_mul hk hx
   omega
  have hee:(e+e)*(j/2)=e*(2*(j/2)):=by rw[←Nat.two_mul,Nat.mul_comm 2 e,Nat.mul_assoc]
  have hi:Int.toNat (Ah0 (j:Int) 1)<Int.toNat (j:Int):=by rw[Fp4];omega
  refine⟨fun hodd=>?_,fun heven=>?_⟩
  ·have ho:j%2=1:=by rw[Fu3 (by omega)] at hodd;omega
   have hj2:j=2*(j/2)+1:=by omega
   have hej:e*j=e*(2*(j/2))+e:=by conv=>lhs;rw[hj2,Nat.mul_add,Nat.mul_one]
   refine Ak0 hf1 hf2 (hsz f (by omega)) (hsz e (by omega)) fun s15 b16 W14 hE14 h14=>⟨s15,b16,rfl,Ak0 (hf2.ext hE14) (hf2.ext hE14) (hsz e (by omega)) (hsz e (by omega)) fun s19 b20 W18 hE18 h18=>⟨s19,b20,rfl,⟨j/2,e+e,f+e,by rw[Fp4],hE.trans (hE14.trans hE18),by omega,by omega,by omega,?_,?_⟩,hi⟩⟩
   ·rw[Int.pow_add];exact h14.ext hE18
   ·rw[Int.pow_add];exact h18
  ·have ho:j%2=0:=by
    rw[Fu3 (by omega)] at heven
    omega
   have hj2:j=2*(j/2):=by omega
   have hej:e*j=e*(2*(j/2)):=by conv=>lhs;rw[hj2]
   refine Ak0 hf2 hf2 (hsz e (by omega)) (hsz e (by omega)) fun s23 b24 W22 hE22 h22=>⟨s23,b24,rfl,⟨j/2,e+e,f,by rw[Fp4],hE.trans hE22,by omega,by omega,by omega,hf1.ext hE22,?_⟩,hi⟩
   rw[Int.pow_add];exact h22
 ·have:j=0:=by omega
  subst this
  rw[Nat.mul_zero,Nat.add_zero] at hfe
  rw[←hfe]
  exact hf1.ext hE25
theorem Bd6 {W0 W:PW} {M:Nat→Prop} {s:Sl} {b:Bool} {z:Int} {n k:Nat} {K:Value→PW→Prop} (h:Ab5 284 W s b z) (hz:nl z.natAbs≤k) (hk:k≤1048576) (hn:n≤255) (kont: ∀(s':Sl) (b':Bool) (W':PW),Ext W W'→(Ab5 284 W' s' b' (z^n))→K (.agg ⟨[Sl.v s',.bool b']⟩) W'):
  Aa1 Tryz.prog W0 M 185 [.agg ⟨[s.v,.bool b]⟩,.int .i64 (n:Int)] W K:=
 Aa2 (fun W' hE=>Di0 (M:=fun _=>False) (h.ext hE) hz hk hn) (fun W' v W'' hE hE' hP=>by
  obtain⟨s',b',rfl,h⟩:=hP
  exact kont s' b' W'' (hE.trans hE') h)
theorem Eo3 (q:Rat) (n:Nat):dn (q^n)=if dn q=0∨n=0 then 0 else q.den^n:=by
 unfold dn
 rw[Rat.den_pow]
 by_cases h1:q.den=1
 ·simp[h1]
 ·by_cases h2:n=0
  ·subst h2;simp
  ·have:q.den^n≠1:=by
    have hd:=q.den_nz
    obtain⟨m,rfl⟩: ∃m,n=m+1:=⟨n-1,by omega⟩
    rw[Nat.pow_succ]
    have:1≤q.den^m:=Nat.pow_pos (by omega)
    have:=Nat.mul_le_mul this (show 2≤q.den by omega)
    omega
   have hz:q.den≠0:=q.den_nz
   simp[h1,h2,this,hz]
theorem Er1 {W0:PW} {M:Nat→Prop} {s t:Sl} {b:Bool} {q:Rat} {n k:Nat} (h:Ab3 284 W0 s b t q) (hz:Sz k q) (hk:k≤1048576) (hn:n≤255):
  Aa0 Tryz.prog 110 [.agg ⟨[s.v,.bool b,t.v]⟩,.int .i64 (n:Int)] W0 M fun v W'=>∃(s':Sl),∃(b':Bool),∃(t':Sl),v = .agg ⟨[Sl.v s',.bool b',Sl.v t']⟩∧Ab3 284 W' s' b' t' (q^n):=by
 apply Dk0
 have hd:=hz.dn
 refine Bd6 h.1 hz.1 hk hn fun s3 b4 W2 hE2 h2=>⟨s3,b4,rfl,Ac9 (h.2.ext hE2) (by omega) fun W6 hE6 _=>⟨_,rfl,fun hb=>⟨fun hn0=>?_,fun hn0 W20 hE20=>⟨s3,b4,⟨none,0,0⟩,rfl,(h2.ext hE6).ext hE20,?_⟩⟩,fun hb W21 hE21=>⟨s3,b4,⟨none,0,0⟩,rfl,(h2.ext hE6).ext hE21,?_⟩⟩⟩
 ·refine Bc0 (h.ext (hE2.trans hE6)) hz (by omega) fun s10 b11 W9 hE9 h9=>⟨s10,b11,rfl,Bd6 h9 (by rw[Int.natAbs_natCast];exact hz.2) hk hn fun s14 b15 W13 hE13 h13=>⟨s14,b15,rfl,Ag5 h13 fun s18 W17 hE17 h17=>⟨s18,rfl,fun W19 hE19=>⟨s3,b4,s18,rfl,(h2.ext (hE6.trans (hE9.trans (hE13.trans hE17)))).ext hE19,?_⟩⟩⟩⟩
  have hdq:dn q≠0:=fun e=>by
   rw[e] at hb
   simp[Aj9] at hb
  have e:dn (q^n)=q.den^n:=by rw[Eo3,if_neg (by omega)]
  rw[e]
  have e2:((q.den:Int)^n).natAbs=q.den^n:=by rw[Int.natAbs_pow,Int.natAbs_natCast]
  rw[e2] at h17
  exact h17.ext hE19
 ·have:n=0:=by omega
  rw[Eo3,if_pos (.inr this)]
  exact Ao9 W20
 ·have:dn q=0:=(Ag3 (x:=dn q)).1 (by omega)
  rw[Eo3,if_pos (.inl this)]
  exact Ao9 W21
theorem Bq4 {W0 W:PW} {M:Nat→Prop} {s t:Sl} {b:Bool} {q:Rat} {n k:Nat} {K:Value→PW→Prop} (h:Ab3 284 W s b t q) (hz:Sz k q) (hk:k≤1048576) (hn:n≤255) (kont: ∀(s':Sl) (b':Bool) (t':Sl) (W':PW),Ext W W'→(Ab3 284 W' s' b' t' (q^n))→K (.agg ⟨[Sl.v s',.bool b',Sl.v t']⟩) W'):
  Aa1 Tryz.prog W0 M 110 [.agg ⟨[s.v,.bool b,t.v]⟩,.int .i64 (n:Int)] W K:=
 Aa2 (fun W' hE=>Er1 (M:=fun _=>False) (h.ext hE) hz hk hn) (fun W' v W'' hE hE' hP=>by
  obtain⟨s',b',t',rfl,h⟩:=hP
  exact kont s' b' t' W'' (hE.trans hE') h)
end Go.Proofs.YtjkkidjbppphpaaGreatDoor
/- The program's intervals. -/
namespace Go.Proofs.YtjkkidjbppphpaaGreatDoor
open Go Go.SX
theorem De5 {W0:PW} {M:Nat→Prop} {s t s' t':Sl} {b b':Bool} {p q:Rat} {k:Nat} (h1:Ab3 284 W0 s b t p) (h2:Ab3 284 W0 s' b' t' q) (hp:Sz k p) (hq:Sz k q) (hk:k≤34359738368):
  Aa0 Tryz.prog 175 [.agg ⟨[s.v,.bool b,t.v]⟩,.agg ⟨[s'.v,.bool b',t'.v]⟩] W0 M fun v W'=>∃(r:Sl),∃(c:Bool),∃(u:Sl),v = .agg ⟨[Sl.v r,.bool c,Sl.v u]⟩∧Ab3 284 W' r c u (Az9 p q):=by
 apply Cg1
 refine Aj2 h2 h1 hq hp hk hk fun W2 hE2 _=>⟨_,rfl,fun h W4 hE4=>⟨s',b',t',rfl,?_⟩,fun h W5 hE5=>⟨s,b,t,rfl,?_⟩⟩
 ·rw[Az9,if_pos (At6.1 h)];exact h2.ext (hE2.trans hE4)
 ·rw[Az9,if_neg (fun e=>h (At6.2 e))];exact h1.ext (hE2.trans hE5)
theorem Be3 {W0 W:PW} {M:Nat→Prop} {s t s' t':Sl} {b b':Bool} {p q:Rat} {k:Nat} {K:Value→PW→Prop} (h1:Ab3 284 W s b t p) (h2:Ab3 284 W s' b' t' q) (hp:Sz k p) (hq:Sz k q) (hk:k≤34359738368) (kont: ∀(r:Sl) (c:Bool) (u:Sl) (W':PW),Ext W W'→(Ab3 284 W' r c u (Az9 p q))→K (.agg ⟨[Sl.v r,.bool c,Sl.v u]⟩) W'):
  Aa1 Tryz.prog W0 M 175 [.agg ⟨[s.v,.bool b,t.v]⟩,.agg ⟨[s'.v,.bool b',t'.v]⟩] W K:=
 Aa2 (fun W' hE=>De5 (M:=fun _=>False) (h1.ext hE) (h2.ext hE) hp hq hk) (fun W' v W'' hE hE' hP=>by
  obtain⟨r,c,u,rfl,h⟩:=hP
  exact kont r c u W'' (hE.trans hE') h)
theorem Dl7 {W0:PW} {M:Nat→Prop} {s t s' t':Sl} {b b':Bool} {p q:Rat} {k:Nat} (h1:Ab3 284 W0 s b t p) (h2:Ab3 284 W0 s' b' t' q) (hp:Sz k p) (hq:Sz k q) (hk:k≤34359738368):
  Aa0 Tryz.prog 176 [.agg ⟨[s.v,.bool b,t.v]⟩,.agg ⟨[s'.v,.bool b',t'.v]⟩] W0 M fun v W'=>∃(r:Sl),∃(c:Bool),∃(u:Sl),v = .agg ⟨[Sl.v r,.bool c,Sl.v u]⟩∧Ab3 284 W' r c u (Au7 p q):=by
 apply Ck9
 refine Aj2 h2 h1 hq hp hk hk fun W2 hE2 _=>⟨_,rfl,fun h W4 hE4=>⟨s',b',t',rfl,?_⟩,fun h W5 hE5=>⟨s,b,t,rfl,?_⟩⟩
 ·rw[Au7,if_pos (Al3.1 h)];exact h2.ext (hE2.trans hE4)
 ·rw[Au7,if_neg (fun e=>h (Al3.2 e))];exact h1.ext (hE2.trans hE5)
theorem Bd3 {W0 W:PW} {M:Nat→Prop} {s t s' t':Sl} {b b':Bool} {p q:Rat} {k:Nat} {K:Value→PW→Prop} (h1:Ab3 284 W s b t p) (h2:Ab3 284 W s' b' t' q) (hp:Sz k p) (hq:Sz k q) (hk:k≤34359738368) (kont: ∀(r:Sl) (c:Bool) (u:Sl) (W':PW),Ext W W'→(Ab3 284 W' r c u (Au7 p q))→K (.agg ⟨[Sl.v r,.bool c,Sl.v u]⟩) W'):
  Aa1 Tryz.prog W0 M 176 [.agg ⟨[s.v,.bool b,t.v]⟩,.agg ⟨[s'.v,.bool b',t'.v]⟩] W K:=
 Aa2 (fun W' hE=>Dl7 (M:=fun _=>False) (h1.ext hE) (h2.ext hE) hp hq hk) (fun W' v W'' hE hE' hP=>by
  obtain⟨r,c,u,rfl,h⟩:=hP
  exact kont r c u W'' (hE.trans hE') h)
theorem Cl8 {W0:PW} {M:Nat→Prop} {s t s' t':Sl} {b b':Bool} {p q:Rat} {k:Nat} (h1:Ab3 284 W0 s b t p) (h2:Ab3 284 W0 s' b' t' q) (hp:Sz k p) (hq:Sz k q) (hk:k≤34359738368):
  Aa0 Tryz.prog 97 [.agg ⟨[s.v,.bool b,t.v]⟩,.agg ⟨[s'.v,.bool b',t'.v]⟩] W0 M fun v W'=>∃(l:List Value),v = .agg ⟨l⟩∧SpV 284 W' l (Ag0 p q):=by
 apply Bv4
 exact Be3 h1 h2 hp hq hk fun s3 b4 s5 W2 hE2 g1=>⟨s3,b4,s5,rfl,Bd3 (h1.ext hE2) (h2.ext hE2) hp hq hk fun s8 b9 s10 W7 hE7 g2=>⟨s8,b9,s10,rfl,fun W11 hE11=>⟨_,rfl,SpV.mk (x:=Ag0 p q) (g1.ext (hE7.trans hE11)) (g2.ext hE11)⟩⟩⟩
theorem Ap8 {W0 W:PW} {M:Nat→Prop} {s t s' t':Sl} {b b':Bool} {p q:Rat} {k:Nat} {K:Value→PW→Prop} (h1:Ab3 284 W s b t p) (h2:Ab3 284 W s' b' t' q) (hp:Sz k p) (hq:Sz k q) (hk:k≤34359738368) (kont: ∀(l:List Value) (W':PW),Ext W W'→(SpV 284 W' l (Ag0 p q))→K (.agg ⟨l⟩) W'):
  Aa1 Tryz.prog W0 M 97 [.agg ⟨[s.v,.bool b,t.v]⟩,.agg ⟨[s'.v,.bool b',t'.v]⟩] W K:=
 Aa2 (fun W' hE=>Cl8 (M:=fun _=>False) (h1.ext hE) (h2.ext hE) hp hq hk) (fun W' v W'' hE hE' hP=>by
  obtain⟨l,rfl,h⟩:=hP
  exact kont l W'' (hE.trans hE') h)
theorem Dh8 {W0:PW} {M:Nat→Prop} {l1 l2:List Value} {x y:Iv} {k:Nat} (h1:SpV 284 W0 l1 x) (h2:SpV 284 W0 l2 y) (hx:IvS k x) (hy:IvS k y) (hk:k≤34359738368):
  Aa0 Tryz.prog 140 [.agg ⟨l1⟩,.agg ⟨l2⟩] W0 M fun v W'=>∃(l:List Value),v = .agg ⟨l⟩∧SpV 284 W' l (Bu9 x y):=by
 obtain⟨s0,b0,t0,s1,b1,t1,rfl,h1,h1'⟩:=h1
 obtain⟨s2,b2,t2,s3,b3,t3,rfl,h2,h2'⟩:=h2
 apply Ck6
 exact Be3 h1 h2 hx.1 hy.1 hk fun s3 b4 s5 W2 hE2 g1=>⟨s3,b4,s5,rfl,Bd3 (h1'.ext hE2) (h2'.ext hE2) hx.2 hy.2 hk fun s8 b9 s10 W7 hE7 g2=>⟨s8,b9,s10,rfl,fun W11 hE11=>⟨_,rfl,SpV.mk (x:=Bu9 x y) (g1.ext (hE7.trans hE11)) (g2.ext hE11)⟩⟩⟩
theorem Cn9 {W0 W:PW} {M:Nat→Prop} {l1 l2:List Value} {x y:Iv} {k:Nat} {K:Value→PW→Prop} (h1:SpV 284 W l1 x) (h2:SpV 284 W l2 y) (hx:IvS k x) (hy:IvS k y) (hk:k≤34359738368) (kont: ∀(l:List Value) (W':PW),Ext W W'→(SpV 284 W' l (Bu9 x y))→K (.agg ⟨l⟩) W'):
  Aa1 Tryz.prog W0 M 140 [.agg ⟨l1⟩,.agg ⟨l2⟩] W K:=
 Aa2 (fun W' hE=>Dh8 (M:=fun _=>False) (h1.ext hE) (h2.ext hE) hx hy hk) (fun W' v W'' hE hE' hP=>by
  obtain⟨l,rfl,h⟩:=hP
  exact kont l W'' (hE.trans hE') h)
theorem Dx1 {W0:PW} {M:Nat→Prop} {l1 l2:List Value} {x y:Iv} {k:Nat} (h1:SpV 284 W0 l1 x) (h2:SpV 284 W0 l2 y) (hx:IvS k x) (hy:IvS k y) (hk:k≤8589934592):
  Aa0 Tryz.prog 28 [.agg ⟨l1⟩,.agg ⟨l2⟩] W0 M fun v W'=>∃(l:List Value),v = .agg ⟨l⟩∧SpV 284 W' l (Cb5 x y):=by
 obtain⟨s0,b0,t0,s1,b1,t1,rfl,h1,h1'⟩:=h1
 obtain⟨s2,b2,t2,s3,b3,t3,rfl,h2,h2'⟩:=h2
 apply Cs4
 exact At2 h1 h2 hx.1 hy.1 hk hk fun s3 b4 s5 W2 hE2 g1=>⟨s3,b4,s5,rfl,At2 (h1'.ext hE2) (h2'.ext hE2) hx.2 hy.2 hk hk fun s8 b9 s10 W7 hE7 g2=>⟨s8,b9,s10,rfl,fun W11 hE11=>⟨_,rfl,SpV.mk (x:=Cb5 x y) (g1.ext (hE7.trans hE11)) (g2.ext hE11)⟩⟩⟩
theorem Cy0 {W0 W:PW} {M:Nat→Prop} {l1 l2:List Value} {x y:Iv} {k:Nat} {K:Value→PW→Prop} (h1:SpV 284 W l1 x) (h2:SpV 284 W l2 y) (hx:IvS k x) (hy:IvS k y) (hk:k≤8589934592) (kont: ∀(l:List Value) (W':PW),Ext W W'→(SpV 284 W' l (Cb5 x y))→K (.agg ⟨l⟩) W'):
  Aa1 Tryz.prog W0 M 28 [.agg ⟨l1⟩,.agg ⟨l2⟩] W K:=
 Aa2 (fun W' hE=>Dx1 (M:=fun _=>False) (h1.ext hE) (h2.ext hE) hx hy hk) (fun W' v W'' hE hE' hP=>by
  obtain⟨l,rfl,h⟩:=hP
  exact kont l W'' (hE.trans hE') h)
theorem Dy9 {W0:PW} {M:Nat→Prop} {l1 l2:List Value} {x y:Iv} {k:Nat} (h1:SpV 284 W0 l1 x) (h2:SpV 284 W0 l2 y) (hx:IvS k x) (hy:IvS k y) (hk:k≤8589934592):
  Aa0 Tryz.prog 85 [.agg ⟨l1⟩,.agg ⟨l2⟩] W0 M fun v W'=>∃(l:List Value),v = .agg ⟨l⟩∧SpV 284 W' l (Ay9 x y):=by
 obtain⟨s0,b0,t0,s1,b1,t1,rfl,h1,h1'⟩:=h1
 obtain⟨s2,b2,t2,s3,b3,t3,rfl,h2,h2'⟩:=h2
 apply Cy7
 have z1:=hx.1.mul hy.1
 have z2:=hx.2.mul hy.2
 have z3:=hx.1.mul hy.2
 have z4:=hx.2.mul hy.1
 have zm: ∀{a b:Rat},Sz (k+k) a→Sz (k+k) b→IvS (k+k) (Ag0 a b):=fun ha hb=>⟨by rcases Dj0 _ _ with e | e<;>rw[Ag0,e]<;>assumption,by rcases Dj7 _ _ with e | e<;>rw[Ag0,e]<;>assumption⟩
 refine Ak9 h1 h2 hx.1 hy.1 hk hk fun s3 b4 s5 W2 hE2 g1=>⟨s3,b4,s5,rfl,Ak9 (h1'.ext hE2) (h2'.ext hE2) hx.2 hy.2 hk hk fun s8 b9 s10 W7 hE7 g2=>⟨s8,b9,s10,rfl,Ap8 (g1.ext hE7) g2 z1 z2 (by omega) fun l W12 hE12 h12=>h12.out fun s13 b14 s15 s16 b17 s18 h12=>?_⟩⟩
 have hE:=(hE2.trans hE7).trans hE12
 refine Ak9 (h1.ext hE) (h2'.ext hE) hx.1 hy.2 hk hk fun s3 b4 s5 W20 hE20 g1=>⟨s3,b4,s5,rfl,Ak9 (h1'.ext (hE.trans hE20)) (h2.ext (hE.trans hE20)) hx.2 hy.1 hk hk fun s8 b9 s10 W25 hE25 g2=>⟨s8,b9,s10,rfl,Ap8 (g1.ext hE25) g2 z3 z4 (by omega) fun l W30 hE30 h30=>h30.out fun s31 b32 s33 s34 b35 s36 h30=>?_⟩⟩
 exact Cn9 (h12.ext ((hE20.trans hE25).trans hE30)) h30 (zm z1 z2) (zm z3 z4) (by omega) fun l W38 hE38 h38=>h38.out fun s39 b40 s41 s42 b43 s44 h38 W45 hE45=>⟨_,rfl,h38.ext hE45⟩
theorem Cx4 {W0 W:PW} {M:Nat→Prop} {l1 l2:List Value} {x y:Iv} {k:Nat} {K:Value→PW→Prop} (h1:SpV 284 W l1 x) (h2:SpV 284 W l2 y) (hx:IvS k x) (hy:IvS k y) (hk:k≤8589934592) (kont: ∀(l:List Value) (W':PW),Ext W W'→(SpV 284 W' l (Ay9 x y))→K (.agg ⟨l⟩) W'):
  Aa1 Tryz.prog W0 M 85 [.agg ⟨l1⟩,.agg ⟨l2⟩] W K:=
 Aa2 (fun W' hE=>Dy9 (M:=fun _=>False) (h1.ext hE) (h2.ext hE) hx hy hk) (fun W' v W'' hE hE' hP=>by
  obtain⟨l,rfl,h⟩:=hP
  exact kont l W'' (hE.trans hE') h)
theorem Ep4 {W0:PW} {M:Nat→Prop} {s t:Sl} {b:Bool} {r:Rat} (h:Ab3 284 W0 s b t r):
  Aa0 Tryz.prog 84 [.agg ⟨[s.v,.bool b,t.v]⟩] W0 M fun v W'=>∃(l:List Value),v = .agg ⟨l⟩∧SpV 284 W' l (Eb6 r):=by
 apply Dk8
 exact fun W1 hE=>⟨_,rfl,SpV.mk (x:=Eb6 r) (h.ext hE) (h.ext hE)⟩
theorem De4 {W0 W:PW} {M:Nat→Prop} {s t:Sl} {b:Bool} {r:Rat} {K:Value→PW→Prop} (h:Ab3 284 W s b t r) (kont: ∀(l:List Value) (W':PW),Ext W W'→(SpV 284 W' l (Eb6 r))→K (.agg ⟨l⟩) W'):
  Aa1 Tryz.prog W0 M 84 [.agg ⟨[s.v,.bool b,t.v]⟩] W K:=
 Aa2 (fun W' hE=>Ep4 (M:=fun _=>False) (h.ext hE)) (fun W' v W'' hE hE' hP=>by
  obtain⟨l,rfl,h⟩:=hP
  exact kont l W'' (hE.trans hE') h)
theorem Dt0 {W0:PW} {M:Nat→Prop} {l1:List Value} {s t:Sl} {b:Bool} {x:Iv} {r:Rat} {k:Nat} (h1:SpV 284 W0 l1 x) (h2:Ab3 284 W0 s b t r) (hx:IvS k x) (hr:Sz k r) (hk:k≤8589934592):
  Aa0 Tryz.prog 65 [.agg ⟨l1⟩,.agg ⟨[s.v,.bool b,t.v]⟩] W0 M fun v W'=>v = .bool (decide (x.1≤r∧r≤x.2))∧True:=by
 obtain⟨s0,b0,t0,s1,b1,t1,rfl,h1,h1'⟩:=h1
 apply Cu8
 refine Aj2 h1 h2 hx.1 hr (by omega) (by omega) fun W2 hE2 _=>⟨_,rfl,fun h=>Aj2 (h2.ext hE2) (h1'.ext hE2) hr hx.2 (by omega) (by omega) fun W5 hE5 _=>⟨_,rfl,fun W7 hE7=>⟨?_,trivial⟩⟩,fun h W8 hE8=>⟨?_,trivial⟩⟩
 ·have h:=Dn3.1 h
  congr 1
  rw[decide_eq_decide,Dn3]
  exact⟨fun e=>⟨h,e⟩,fun e=>e.2⟩
 ·rw[decide_eq_false fun e=>h (Dn3.2 e.1)]
theorem Cs8 {W0 W:PW} {M:Nat→Prop} {l1:List Value} {s t:Sl} {b:Bool} {x:Iv} {r:Rat} {k:Nat} {K:Value→PW→Prop} (h1:SpV 284 W l1 x) (h2:Ab3 284 W s b t r) (hx:IvS k x) (hr:Sz k r) (hk:k≤8589934592) (kont: ∀(W':PW),Ext W W'→(True)→K (.bool (decide (x.1≤r∧r≤x.2))) W'):
  Aa1 Tryz.prog W0 M 65 [.agg ⟨l1⟩,.agg ⟨[s.v,.bool b,t.v]⟩] W K:=
 Aa2 (fun W' hE=>Dt0 (M:=fun _=>False) (h1.ext hE) (h2.ext hE) hx hr hk) (fun W' v W'' hE hE' hP=>by
  obtain⟨rfl,h⟩:=hP
  exact kont W'' (hE.trans hE') h)
theorem Du0 {W0:PW} {M:Nat→Prop} {l1:List Value} {x:Iv} {n k:Nat} (h1:SpV 284 W0 l1 x) (hx:IvS k x) (hk:k≤1048576) (hn:n≤255):
  Aa0 Tryz.prog 86 [.agg ⟨l1⟩,.int .i64 (n:Int)] W0 M fun v W'=>∃(l:List Value),v = .agg ⟨l⟩∧SpV 284 W' l (Ai3 x n):=by
 obtain⟨s0,b0,t0,s1,b1,t1,rfl,h1,h1'⟩:=h1
 apply Cz8
 have hm:=Nat.mul_le_mul hk hn
 have hmn:mn (mx (n:Int) 0) 255=(n:Int):=by unfold mn mx;(repeat' split)<;>omega
 unfold Da1
 rw[hmn]
 refine Bq4 h1 hx.1 hk hn fun s3 b4 s5 W2 hE2 g1=>⟨s3,b4,s5,rfl,Bq4 (h1'.ext hE2) hx.2 hk hn fun s8 b9 s10 W7 hE7 g2=>⟨s8,b9,s10,rfl,Ap8 (g1.ext hE7) g2 (Sz.Fe7 hx.1 n) (Sz.Fe7 hx.2 n) (by omega) fun l W12 hE12 h12=>h12.out fun s13 b14 s15 s16 b17 s18 h12=>⟨fun hpos=>⟨by omega,fun hev=>?_,fun hod W24 hE24=>⟨_,rfl,?_⟩⟩,fun h0 W25 hE25=>⟨_,rfl,?_⟩⟩⟩⟩
 ·have hev':n%2=0:=by have:=Int.tmod_eq_emod_of_nonneg (a:=(n:Int)) (b:=2) (by omega);omega
  have hE:=(hE2.trans hE7).trans hE12
  refine Cs8 (s:=⟨none,0,0⟩) (b:=false) (t:=⟨none,0,0⟩) (k:=k+1) (SpV.mk (h1.ext hE) (h1'.ext hE)) (Ar9 W12) ⟨hx.1.mono (by omega),hx.2.mono (by omega)⟩ (Sz.zero (by omega)) (by omega) fun W20 hE20 _=>⟨_,rfl,fun hb W22 hE22=>⟨_,rfl,?_⟩,fun hb W23 hE23=>⟨_,rfl,?_⟩⟩
  ·have hb:=of_decide_eq_true hb
   rw[Ai3,if_pos ⟨by omega,hev',hb⟩]
   obtain⟨_,_,_,_,_,_,e,k1,k2⟩:=h12.ext (hE20.trans hE22)
   simp only[List.cons.injEq,Value.bool.injEq,and_true] at e
   obtain⟨e1,e2,e3,e4,e5,e6⟩:=e
   have e4:=Sl.Ck0 e4
   have e6:=Sl.Ck0 e6
   subst e4 e5 e6
   exact⟨⟨none,0,0⟩,false,⟨none,0,0⟩,_,_,_,rfl,Ar9 _,k2⟩
  ·have hb:=of_decide_eq_false hb
   rw[Ai3,if_neg fun e=>hb e.2.2]
   exact h12.ext (hE20.trans hE23)
 ·rw[Ai3,if_neg]
  ·exact h12.ext hE24
  ·intro e
   apply hod
   have:=Int.tmod_eq_emod_of_nonneg (a:=(n:Int)) (b:=2) (by omega)
   have:=e.2.1
   omega
 ·rw[Ai3,if_neg fun e=>h0 (by have:=e.1;omega)]
  exact h12.ext hE25
theorem Co8 {W0 W:PW} {M:Nat→Prop} {l1:List Value} {x:Iv} {n k:Nat} {K:Value→PW→Prop} (h1:SpV 284 W l1 x) (hx:IvS k x) (hk:k≤1048576) (hn:n≤255) (kont: ∀(l:List Value) (W':PW),Ext W W'→(SpV 284 W' l (Ai3 x n))→K (.agg ⟨l⟩) W'):
  Aa1 Tryz.prog W0 M 86 [.agg ⟨l1⟩,.int .i64 (n:Int)] W K:=
 Aa2 (fun W' hE=>Du0 (M:=fun _=>False) (h1.ext hE) hx hk hn) (fun W' v W'' hE hE' hP=>by
  obtain⟨l,rfl,h⟩:=hP
  exact kont l W'' (hE.trans hE') h)
theorem Dt4 {W0:PW} {M:Nat→Prop} {s t s' t':Sl} {b b':Bool} {p q:Rat} {k:Nat} (h1:Ab3 284 W0 s b t p) (h2:Ab3 284 W0 s' b' t' q) (hp:Sz k p) (hq:Sz k q) (hk:k≤34359738368):
  Aa0 Tryz.prog 168 [.agg ⟨[s.v,.bool b,t.v]⟩,.agg ⟨[s'.v,.bool b',t'.v]⟩] W0 M fun v W'=>∃(l:List Value),v = .tuple ⟨[.agg ⟨l⟩,.bool (decide (p≤q))]⟩∧SpV 284 W' l (if p≤q then(p,q) else(0,0)):=by
 apply Ct1
 refine Aj2 h1 h2 hp hq hk hk fun W2 hE2 _=>⟨_,rfl,fun h W4 hE4=>?_,fun h W5 hE5=>?_⟩
 ·have h:=Al3.1 h
  have h':¬p≤q:=Rat.not_le.2 h
  rw[if_neg h',decide_eq_false h']
  exact⟨_,rfl,SpV.zero W4⟩
 ·have h':p≤q:=Rat.not_lt.1 fun e=>h (Al3.2 e)
  rw[if_pos h',decide_eq_true h']
  exact⟨_,rfl,SpV.mk (x:=(p,q)) (h1.ext (hE2.trans hE5)) (h2.ext (hE2.trans hE5))⟩
theorem Cq7 {W0 W:PW} {M:Nat→Prop} {s t s' t':Sl} {b b':Bool} {p q:Rat} {k:Nat} {K:Value→PW→Prop} (h1:Ab3 284 W s b t p) (h2:Ab3 284 W s' b' t' q) (hp:Sz k p) (hq:Sz k q) (hk:k≤34359738368) (kont: ∀(l:List Value) (W':PW),Ext W W'→(SpV 284 W' l (if p≤q then(p,q) else(0,0)))→K (.tuple ⟨[.agg ⟨l⟩,.bool (decide (p≤q))]⟩) W'):
  Aa1 Tryz.prog W0 M 168 [.agg ⟨[s.v,.bool b,t.v]⟩,.agg ⟨[s'.v,.bool b',t'.v]⟩] W K:=
 Aa2 (fun W' hE=>Dt4 (M:=fun _=>False) (h1.ext hE) (h2.ext hE) hp hq hk) (fun W' v W'' hE hE' hP=>by
  obtain⟨l,rfl,h⟩:=hP
  exact kont l W'' (hE.trans hE') h)
end Go.Proofs.YtjkkidjbppphpaaGreatDoor
