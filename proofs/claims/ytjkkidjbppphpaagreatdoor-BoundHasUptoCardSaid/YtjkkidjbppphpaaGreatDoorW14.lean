/- whole.Pow, rat.Pow; cinctureref1.times. -/
import Derived.Test.YtjkkidjbppphpaaGreatDoorW6
import Derived.Test.YtjkkidjbppphpaaGreatDoorR8
import Derived.Test.YtjkkidjbppphpaaGreatDoorLib2
import Derived.Test.YtjkkidjbppphpaaGreatDoorLib4
import Derived.Test.YtjkkidjbppphpaaGreatDoorR13
set_option linter.unusedVariables false
set_option linter.unusedSimpArgs false
set_option maxRecDepth 100000
set_option linter.unusedVariables false
set_option linter.unusedSimpArgs false
namespace Go.Proofs.YtjkkidjbppphpaaGreatDoor
open Go Go.SX
theorem and1 {i:Nat} (h:i<256):bits .and .i64 (i:Int) 1=((i%2:Nat):Int):=by
 have key: ∀i:Nat,i<256→bits .and .i64 (i:Int) 1=((i%2:Nat):Int):=by decide +kernel
 exact key i h
theorem shr1 (i:Nat):ishr (i:Int) 1=((i/2:Nat):Int):=by
 unfold ishr
 rw[Int.fdiv_eq_ediv_of_nonneg _ (by decide)]
 omega
theorem nl_pow {z:Int} {k:Nat} (h:nl z.natAbs≤k) (e:Nat):nl (z^e).natAbs≤k*e+1:=by
 induction e with
 | zero=>simp[nl_one]
 | succ e ih=>
  rw[Int.pow_succ,Int.natAbs_mul]
  have:=nl_mul (z^e).natAbs z.natAbs
  rw[Nat.mul_add]
  omega
theorem wholePow_ok {W0:PW} {M:Nat→Prop} {s:Sl} {b:Bool} {z:Int} {n k:Nat} (h:IsInt 284 W0 s b z) (hz:nl z.natAbs≤k) (hk:k≤1048576) (hn:n≤255):
  PCallsM Go.Proofs.Tryz.prog 185 [.agg ⟨[s.v,.bool b]⟩,.int .i64 (n:Int)] W0 M fun v W'=>∃(s':Sl),∃(b':Bool),v = .agg ⟨[Sl.v s',.bool b']⟩∧IsInt 284 W' s' b' (z^n):=by
 apply callwhole_Pow
 have en:mn (mx (n:Int) 0) 255=(n:Int):=by unfold mn mx;split<;>(try split)<;>omega
 unfold Rwhole_Pow
 rw[en]
 refine wholeOf_call (z:=1) (by unfold I64;omega) fun s3 b4 W2 hE2 h2=>⟨s3,b4,rfl,?_⟩
 refine⟨fun l W=>match l with
  | [.val (.int .i64 i),.cells [.slice A m c,.bool x],.cells [.slice A' m' c',.bool y]]=>∃(j e f:Nat),i=(j:Int)∧Ext W0 W∧f+e*j=n∧e≤2*n+1∧j≤255∧IsInt 284 W ⟨A,m,c⟩ x (z^f)∧IsInt 284 W ⟨A',m',c'⟩ y (z^e)
  | _=>False,fun l _=>match l with | [.val (.int .i64 i),_,_]=>i.toNat | _=>0,⟨n,1,0,rfl,hE2,by omega,by omega,hn,by simpa using h2,by rw[show z^1=z by rw[Int.pow_succ,Int.pow_zero,Int.one_mul]];exact h.ext hE2⟩,?_⟩
 rintro s7 b8 s9 b10 i11 W12 ⟨j,e,f,rfl,hE,hfe,he,hj,hf1,hf2⟩
 have hf1:IsInt 284 W12 s7 b8 (z^f):=hf1
 have hf2:IsInt 284 W12 s9 b10 (z^e):=hf2
 have hjn:e*j≤n:=by omega
 refine⟨fun hpos=>?_,fun hz0 W25 hE25=>⟨s7,b8,rfl,?_⟩⟩
 ·have hj1:1≤j:=by omega
  have hen:e≤n:=Nat.le_trans (Nat.le_mul_of_pos_right e hj1) hjn
  have hsz: ∀x,x≤511→nl (z^x).natAbs≤68719476736:=fun x hx=>by
   have h1:=nl_pow hz x
   have h2:=Nat.mul_le_mul hk hx
   omega
  have hee:(e+e)*(j/2)=e*(2*(j/2)):=by rw[←Nat.two_mul,Nat.mul_comm 2 e,Nat.mul_assoc]
  have hi:Int.toNat (ishr (j:Int) 1)<Int.toNat (j:Int):=by rw[shr1];omega
  refine⟨fun hodd=>?_,fun heven=>?_⟩
  ·have ho:j%2=1:=by rw[and1 (by omega)] at hodd;omega
   have hj2:j=2*(j/2)+1:=by omega
   have hej:e*j=e*(2*(j/2))+e:=by conv=>lhs;rw[hj2,Nat.mul_add,Nat.mul_one]
   refine wholeMul_call hf1 hf2 (hsz f (by omega)) (hsz e (by omega)) fun s15 b16 W14 hE14 h14=>⟨s15,b16,rfl,wholeMul_call (hf2.ext hE14) (hf2.ext hE14) (hsz e (by omega)) (hsz e (by omega)) fun s19 b20 W18 hE18 h18=>⟨s19,b20,rfl,⟨j/2,e+e,f+e,by rw[shr1],hE.trans (hE14.trans hE18),by omega,by omega,by omega,?_,?_⟩,hi⟩⟩
   ·rw[Int.pow_add];exact h14.ext hE18
   ·rw[Int.pow_add];exact h18
  ·have ho:j%2=0:=by
    rw[and1 (by omega)] at heven
    omega
   have hj2:j=2*(j/2):=by omega
   have hej:e*j=e*(2*(j/2)):=by conv=>lhs;rw[hj2]
   refine wholeMul_call hf2 hf2 (hsz e (by omega)) (hsz e (by omega)) fun s23 b24 W22 hE22 h22=>⟨s23,b24,rfl,⟨j/2,e+e,f,by rw[shr1],hE.trans hE22,by omega,by omega,by omega,hf1.ext hE22,?_⟩,hi⟩
   rw[Int.pow_add];exact h22
 ·have:j=0:=by omega
  subst this
  rw[Nat.mul_zero,Nat.add_zero] at hfe
  rw[←hfe]
  exact hf1.ext hE25
theorem wholePow_call {W0 W:PW} {M:Nat→Prop} {s:Sl} {b:Bool} {z:Int} {n k:Nat} {K:Value→PW→Prop} (h:IsInt 284 W s b z) (hz:nl z.natAbs≤k) (hk:k≤1048576) (hn:n≤255) (kont: ∀(s':Sl) (b':Bool) (W':PW),Ext W W'→(IsInt 284 W' s' b' (z^n))→K (.agg ⟨[Sl.v s',.bool b']⟩) W'):
  callN Go.Proofs.Tryz.prog W0 M 185 [.agg ⟨[s.v,.bool b]⟩,.int .i64 (n:Int)] W K:=
 callN_of (fun W' hE=>wholePow_ok (M:=fun _=>False) (h.ext hE) hz hk hn) (fun W' v W'' hE hE' hP=>by
  obtain⟨s',b',rfl,h⟩:=hP
  exact kont s' b' W'' (hE.trans hE') h)
theorem dn_pow (q:Rat) (n:Nat):dn (q^n)=if dn q=0∨n=0 then 0 else q.den^n:=by
 unfold dn
 rw[Rat.den_pow]
 by_cases h1:q.den=1
 ·simp[h1]
 ·by_cases h2:n=0
  ·subst h2;simp
  ·have:q.den^n≠1:=by
    have hd:=q.den_nz
    obtain⟨m,rfl⟩: ∃m,n=m+1:=⟨n-1,by omega⟩
    rw[Nat.pow_succ]
    have:1≤q.den^m:=Nat.pow_pos (by omega)
    have:=Nat.mul_le_mul this (show 2≤q.den by omega)
    omega
   have hz:q.den≠0:=q.den_nz
   simp[h1,h2,this,hz]
theorem ratPow_ok {W0:PW} {M:Nat→Prop} {s t:Sl} {b:Bool} {q:Rat} {n k:Nat} (h:IsRat 284 W0 s b t q) (hz:Sz k q) (hk:k≤1048576) (hn:n≤255):
  PCallsM Go.Proofs.Tryz.prog 110 [.agg ⟨[s.v,.bool b,t.v]⟩,.int .i64 (n:Int)] W0 M fun v W'=>∃(s':Sl),∃(b':Bool),∃(t':Sl),v = .agg ⟨[Sl.v s',.bool b',Sl.v t']⟩∧IsRat 284 W' s' b' t' (q^n):=by
 apply callrat_Pow
 have hd:=hz.dn
 refine wholePow_call h.1 hz.1 hk hn fun s3 b4 W2 hE2 h2=>⟨s3,b4,rfl,natBits_call (h.2.ext hE2) (by omega) fun W6 hE6 _=>⟨_,rfl,fun hb=>⟨fun hn0=>?_,fun hn0 W20 hE20=>⟨s3,b4,⟨none,0,0⟩,rfl,(h2.ext hE6).ext hE20,?_⟩⟩,fun hb W21 hE21=>⟨s3,b4,⟨none,0,0⟩,rfl,(h2.ext hE6).ext hE21,?_⟩⟩⟩
 ·refine ratDen_call (h.ext (hE2.trans hE6)) hz (by omega) fun s10 b11 W9 hE9 h9=>⟨s10,b11,rfl,wholePow_call h9 (by rw[Int.natAbs_natCast];exact hz.2) hk hn fun s14 b15 W13 hE13 h13=>⟨s14,b15,rfl,wholeAbs_call h13 fun s18 W17 hE17 h17=>⟨s18,rfl,fun W19 hE19=>⟨s3,b4,s18,rfl,(h2.ext (hE6.trans (hE9.trans (hE13.trans hE17)))).ext hE19,?_⟩⟩⟩⟩
  have hdq:dn q≠0:=fun e=>by
   rw[e] at hb
   simp[blen] at hb
  have e:dn (q^n)=q.den^n:=by rw[dn_pow,if_neg (by omega)]
  rw[e]
  have e2:((q.den:Int)^n).natAbs=q.den^n:=by rw[Int.natAbs_pow,Int.natAbs_natCast]
  rw[e2] at h17
  exact h17.ext hE19
 ·have:n=0:=by omega
  rw[dn_pow,if_pos (.inr this)]
  exact isNat_zero W20
 ·have:dn q=0:=(blen_eq_zero (x:=dn q)).1 (by omega)
  rw[dn_pow,if_pos (.inl this)]
  exact isNat_zero W21
theorem ratPow_call {W0 W:PW} {M:Nat→Prop} {s t:Sl} {b:Bool} {q:Rat} {n k:Nat} {K:Value→PW→Prop} (h:IsRat 284 W s b t q) (hz:Sz k q) (hk:k≤1048576) (hn:n≤255) (kont: ∀(s':Sl) (b':Bool) (t':Sl) (W':PW),Ext W W'→(IsRat 284 W' s' b' t' (q^n))→K (.agg ⟨[Sl.v s',.bool b',Sl.v t']⟩) W'):
  callN Go.Proofs.Tryz.prog W0 M 110 [.agg ⟨[s.v,.bool b,t.v]⟩,.int .i64 (n:Int)] W K:=
 callN_of (fun W' hE=>ratPow_ok (M:=fun _=>False) (h.ext hE) hz hk hn) (fun W' v W'' hE hE' hP=>by
  obtain⟨s',b',t',rfl,h⟩:=hP
  exact kont s' b' t' W'' (hE.trans hE') h)
end Go.Proofs.YtjkkidjbppphpaaGreatDoor

/- The program's intervals. -/
set_option maxRecDepth 100000
set_option linter.unusedVariables false
set_option linter.unusedSimpArgs false
namespace Go.Proofs.YtjkkidjbppphpaaGreatDoor
open Go Go.SX
theorem spanLess_ok {W0:PW} {M:Nat→Prop} {s t s' t':Sl} {b b':Bool} {p q:Rat} {k:Nat} (h1:IsRat 284 W0 s b t p) (h2:IsRat 284 W0 s' b' t' q) (hp:Sz k p) (hq:Sz k q) (hk:k≤34359738368):
  PCallsM Go.Proofs.Tryz.prog 175 [.agg ⟨[s.v,.bool b,t.v]⟩,.agg ⟨[s'.v,.bool b',t'.v]⟩] W0 M fun v W'=>∃(r:Sl),∃(c:Bool),∃(u:Sl),v = .agg ⟨[Sl.v r,.bool c,Sl.v u]⟩∧IsRat 284 W' r c u (rmin p q):=by
 apply callspan_less
 refine ratCmp_call h2 h1 hq hp hk hk fun W2 hE2 _=>⟨_,rfl,fun h W4 hE4=>⟨s',b',t',rfl,?_⟩,fun h W5 hE5=>⟨s,b,t,rfl,?_⟩⟩
 ·rw[rmin,if_pos (cmpQ_lt.1 h)];exact h2.ext (hE2.trans hE4)
 ·rw[rmin,if_neg (fun e=>h (cmpQ_lt.2 e))];exact h1.ext (hE2.trans hE5)
theorem spanLess_call {W0 W:PW} {M:Nat→Prop} {s t s' t':Sl} {b b':Bool} {p q:Rat} {k:Nat} {K:Value→PW→Prop} (h1:IsRat 284 W s b t p) (h2:IsRat 284 W s' b' t' q) (hp:Sz k p) (hq:Sz k q) (hk:k≤34359738368) (kont: ∀(r:Sl) (c:Bool) (u:Sl) (W':PW),Ext W W'→(IsRat 284 W' r c u (rmin p q))→K (.agg ⟨[Sl.v r,.bool c,Sl.v u]⟩) W'):
  callN Go.Proofs.Tryz.prog W0 M 175 [.agg ⟨[s.v,.bool b,t.v]⟩,.agg ⟨[s'.v,.bool b',t'.v]⟩] W K:=
 callN_of (fun W' hE=>spanLess_ok (M:=fun _=>False) (h1.ext hE) (h2.ext hE) hp hq hk) (fun W' v W'' hE hE' hP=>by
  obtain⟨r,c,u,rfl,h⟩:=hP
  exact kont r c u W'' (hE.trans hE') h)
theorem spanMore_ok {W0:PW} {M:Nat→Prop} {s t s' t':Sl} {b b':Bool} {p q:Rat} {k:Nat} (h1:IsRat 284 W0 s b t p) (h2:IsRat 284 W0 s' b' t' q) (hp:Sz k p) (hq:Sz k q) (hk:k≤34359738368):
  PCallsM Go.Proofs.Tryz.prog 176 [.agg ⟨[s.v,.bool b,t.v]⟩,.agg ⟨[s'.v,.bool b',t'.v]⟩] W0 M fun v W'=>∃(r:Sl),∃(c:Bool),∃(u:Sl),v = .agg ⟨[Sl.v r,.bool c,Sl.v u]⟩∧IsRat 284 W' r c u (rmax p q):=by
 apply callspan_more
 refine ratCmp_call h2 h1 hq hp hk hk fun W2 hE2 _=>⟨_,rfl,fun h W4 hE4=>⟨s',b',t',rfl,?_⟩,fun h W5 hE5=>⟨s,b,t,rfl,?_⟩⟩
 ·rw[rmax,if_pos (cmpQ_gt.1 h)];exact h2.ext (hE2.trans hE4)
 ·rw[rmax,if_neg (fun e=>h (cmpQ_gt.2 e))];exact h1.ext (hE2.trans hE5)
theorem spanMore_call {W0 W:PW} {M:Nat→Prop} {s t s' t':Sl} {b b':Bool} {p q:Rat} {k:Nat} {K:Value→PW→Prop} (h1:IsRat 284 W s b t p) (h2:IsRat 284 W s' b' t' q) (hp:Sz k p) (hq:Sz k q) (hk:k≤34359738368) (kont: ∀(r:Sl) (c:Bool) (u:Sl) (W':PW),Ext W W'→(IsRat 284 W' r c u (rmax p q))→K (.agg ⟨[Sl.v r,.bool c,Sl.v u]⟩) W'):
  callN Go.Proofs.Tryz.prog W0 M 176 [.agg ⟨[s.v,.bool b,t.v]⟩,.agg ⟨[s'.v,.bool b',t'.v]⟩] W K:=
 callN_of (fun W' hE=>spanMore_ok (M:=fun _=>False) (h1.ext hE) (h2.ext hE) hp hq hk) (fun W' v W'' hE hE' hP=>by
  obtain⟨r,c,u,rfl,h⟩:=hP
  exact kont r c u W'' (hE.trans hE') h)
theorem spanAround_ok {W0:PW} {M:Nat→Prop} {s t s' t':Sl} {b b':Bool} {p q:Rat} {k:Nat} (h1:IsRat 284 W0 s b t p) (h2:IsRat 284 W0 s' b' t' q) (hp:Sz k p) (hq:Sz k q) (hk:k≤34359738368):
  PCallsM Go.Proofs.Tryz.prog 97 [.agg ⟨[s.v,.bool b,t.v]⟩,.agg ⟨[s'.v,.bool b',t'.v]⟩] W0 M fun v W'=>∃(l:List Value),v = .agg ⟨l⟩∧SpV 284 W' l (ivAround p q):=by
 apply callspan_around
 exact spanLess_call h1 h2 hp hq hk fun s3 b4 s5 W2 hE2 g1=>⟨s3,b4,s5,rfl,spanMore_call (h1.ext hE2) (h2.ext hE2) hp hq hk fun s8 b9 s10 W7 hE7 g2=>⟨s8,b9,s10,rfl,fun W11 hE11=>⟨_,rfl,SpV.mk (x:=ivAround p q) (g1.ext (hE7.trans hE11)) (g2.ext hE11)⟩⟩⟩
theorem spanAround_call {W0 W:PW} {M:Nat→Prop} {s t s' t':Sl} {b b':Bool} {p q:Rat} {k:Nat} {K:Value→PW→Prop} (h1:IsRat 284 W s b t p) (h2:IsRat 284 W s' b' t' q) (hp:Sz k p) (hq:Sz k q) (hk:k≤34359738368) (kont: ∀(l:List Value) (W':PW),Ext W W'→(SpV 284 W' l (ivAround p q))→K (.agg ⟨l⟩) W'):
  callN Go.Proofs.Tryz.prog W0 M 97 [.agg ⟨[s.v,.bool b,t.v]⟩,.agg ⟨[s'.v,.bool b',t'.v]⟩] W K:=
 callN_of (fun W' hE=>spanAround_ok (M:=fun _=>False) (h1.ext hE) (h2.ext hE) hp hq hk) (fun W' v W'' hE hE' hP=>by
  obtain⟨l,rfl,h⟩:=hP
  exact kont l W'' (hE.trans hE') h)
theorem spanHull_ok {W0:PW} {M:Nat→Prop} {l1 l2:List Value} {x y:Iv} {k:Nat} (h1:SpV 284 W0 l1 x) (h2:SpV 284 W0 l2 y) (hx:IvS k x) (hy:IvS k y) (hk:k≤34359738368):
  PCallsM Go.Proofs.Tryz.prog 140 [.agg ⟨l1⟩,.agg ⟨l2⟩] W0 M fun v W'=>∃(l:List Value),v = .agg ⟨l⟩∧SpV 284 W' l (ivHull x y):=by
 obtain⟨s0,b0,t0,s1,b1,t1,rfl,h1,h1'⟩:=h1
 obtain⟨s2,b2,t2,s3,b3,t3,rfl,h2,h2'⟩:=h2
 apply callspan_Hull
 exact spanLess_call h1 h2 hx.1 hy.1 hk fun s3 b4 s5 W2 hE2 g1=>⟨s3,b4,s5,rfl,spanMore_call (h1'.ext hE2) (h2'.ext hE2) hx.2 hy.2 hk fun s8 b9 s10 W7 hE7 g2=>⟨s8,b9,s10,rfl,fun W11 hE11=>⟨_,rfl,SpV.mk (x:=ivHull x y) (g1.ext (hE7.trans hE11)) (g2.ext hE11)⟩⟩⟩
theorem spanHull_call {W0 W:PW} {M:Nat→Prop} {l1 l2:List Value} {x y:Iv} {k:Nat} {K:Value→PW→Prop} (h1:SpV 284 W l1 x) (h2:SpV 284 W l2 y) (hx:IvS k x) (hy:IvS k y) (hk:k≤34359738368) (kont: ∀(l:List Value) (W':PW),Ext W W'→(SpV 284 W' l (ivHull x y))→K (.agg ⟨l⟩) W'):
  callN Go.Proofs.Tryz.prog W0 M 140 [.agg ⟨l1⟩,.agg ⟨l2⟩] W K:=
 callN_of (fun W' hE=>spanHull_ok (M:=fun _=>False) (h1.ext hE) (h2.ext hE) hx hy hk) (fun W' v W'' hE hE' hP=>by
  obtain⟨l,rfl,h⟩:=hP
  exact kont l W'' (hE.trans hE') h)
theorem spanAdd_ok {W0:PW} {M:Nat→Prop} {l1 l2:List Value} {x y:Iv} {k:Nat} (h1:SpV 284 W0 l1 x) (h2:SpV 284 W0 l2 y) (hx:IvS k x) (hy:IvS k y) (hk:k≤8589934592):
  PCallsM Go.Proofs.Tryz.prog 28 [.agg ⟨l1⟩,.agg ⟨l2⟩] W0 M fun v W'=>∃(l:List Value),v = .agg ⟨l⟩∧SpV 284 W' l (ivAdd x y):=by
 obtain⟨s0,b0,t0,s1,b1,t1,rfl,h1,h1'⟩:=h1
 obtain⟨s2,b2,t2,s3,b3,t3,rfl,h2,h2'⟩:=h2
 apply callspan_Add
 exact ratAdd_call h1 h2 hx.1 hy.1 hk hk fun s3 b4 s5 W2 hE2 g1=>⟨s3,b4,s5,rfl,ratAdd_call (h1'.ext hE2) (h2'.ext hE2) hx.2 hy.2 hk hk fun s8 b9 s10 W7 hE7 g2=>⟨s8,b9,s10,rfl,fun W11 hE11=>⟨_,rfl,SpV.mk (x:=ivAdd x y) (g1.ext (hE7.trans hE11)) (g2.ext hE11)⟩⟩⟩
theorem spanAdd_call {W0 W:PW} {M:Nat→Prop} {l1 l2:List Value} {x y:Iv} {k:Nat} {K:Value→PW→Prop} (h1:SpV 284 W l1 x) (h2:SpV 284 W l2 y) (hx:IvS k x) (hy:IvS k y) (hk:k≤8589934592) (kont: ∀(l:List Value) (W':PW),Ext W W'→(SpV 284 W' l (ivAdd x y))→K (.agg ⟨l⟩) W'):
  callN Go.Proofs.Tryz.prog W0 M 28 [.agg ⟨l1⟩,.agg ⟨l2⟩] W K:=
 callN_of (fun W' hE=>spanAdd_ok (M:=fun _=>False) (h1.ext hE) (h2.ext hE) hx hy hk) (fun W' v W'' hE hE' hP=>by
  obtain⟨l,rfl,h⟩:=hP
  exact kont l W'' (hE.trans hE') h)
theorem spanMul_ok {W0:PW} {M:Nat→Prop} {l1 l2:List Value} {x y:Iv} {k:Nat} (h1:SpV 284 W0 l1 x) (h2:SpV 284 W0 l2 y) (hx:IvS k x) (hy:IvS k y) (hk:k≤8589934592):
  PCallsM Go.Proofs.Tryz.prog 85 [.agg ⟨l1⟩,.agg ⟨l2⟩] W0 M fun v W'=>∃(l:List Value),v = .agg ⟨l⟩∧SpV 284 W' l (ivMul x y):=by
 obtain⟨s0,b0,t0,s1,b1,t1,rfl,h1,h1'⟩:=h1
 obtain⟨s2,b2,t2,s3,b3,t3,rfl,h2,h2'⟩:=h2
 apply callspan_Mul
 have z1:=hx.1.mul hy.1
 have z2:=hx.2.mul hy.2
 have z3:=hx.1.mul hy.2
 have z4:=hx.2.mul hy.1
 have zm: ∀{a b:Rat},Sz (k+k) a→Sz (k+k) b→IvS (k+k) (ivAround a b):=fun ha hb=>⟨by rcases rmin_or _ _ with e | e<;>rw[ivAround,e]<;>assumption,by rcases rmax_or _ _ with e | e<;>rw[ivAround,e]<;>assumption⟩
 refine ratMul_call h1 h2 hx.1 hy.1 hk hk fun s3 b4 s5 W2 hE2 g1=>⟨s3,b4,s5,rfl,ratMul_call (h1'.ext hE2) (h2'.ext hE2) hx.2 hy.2 hk hk fun s8 b9 s10 W7 hE7 g2=>⟨s8,b9,s10,rfl,spanAround_call (g1.ext hE7) g2 z1 z2 (by omega) fun l W12 hE12 h12=>h12.out fun s13 b14 s15 s16 b17 s18 h12=>?_⟩⟩
 have hE:=(hE2.trans hE7).trans hE12
 refine ratMul_call (h1.ext hE) (h2'.ext hE) hx.1 hy.2 hk hk fun s3 b4 s5 W20 hE20 g1=>⟨s3,b4,s5,rfl,ratMul_call (h1'.ext (hE.trans hE20)) (h2.ext (hE.trans hE20)) hx.2 hy.1 hk hk fun s8 b9 s10 W25 hE25 g2=>⟨s8,b9,s10,rfl,spanAround_call (g1.ext hE25) g2 z3 z4 (by omega) fun l W30 hE30 h30=>h30.out fun s31 b32 s33 s34 b35 s36 h30=>?_⟩⟩
 exact spanHull_call (h12.ext ((hE20.trans hE25).trans hE30)) h30 (zm z1 z2) (zm z3 z4) (by omega) fun l W38 hE38 h38=>h38.out fun s39 b40 s41 s42 b43 s44 h38 W45 hE45=>⟨_,rfl,h38.ext hE45⟩
theorem spanMul_call {W0 W:PW} {M:Nat→Prop} {l1 l2:List Value} {x y:Iv} {k:Nat} {K:Value→PW→Prop} (h1:SpV 284 W l1 x) (h2:SpV 284 W l2 y) (hx:IvS k x) (hy:IvS k y) (hk:k≤8589934592) (kont: ∀(l:List Value) (W':PW),Ext W W'→(SpV 284 W' l (ivMul x y))→K (.agg ⟨l⟩) W'):
  callN Go.Proofs.Tryz.prog W0 M 85 [.agg ⟨l1⟩,.agg ⟨l2⟩] W K:=
 callN_of (fun W' hE=>spanMul_ok (M:=fun _=>False) (h1.ext hE) (h2.ext hE) hx hy hk) (fun W' v W'' hE hE' hP=>by
  obtain⟨l,rfl,h⟩:=hP
  exact kont l W'' (hE.trans hE') h)
theorem spanOf_ok {W0:PW} {M:Nat→Prop} {s t:Sl} {b:Bool} {r:Rat} (h:IsRat 284 W0 s b t r):
  PCallsM Go.Proofs.Tryz.prog 84 [.agg ⟨[s.v,.bool b,t.v]⟩] W0 M fun v W'=>∃(l:List Value),v = .agg ⟨l⟩∧SpV 284 W' l (ivPt r):=by
 apply callspan_Of
 exact fun W1 hE=>⟨_,rfl,SpV.mk (x:=ivPt r) (h.ext hE) (h.ext hE)⟩
theorem spanOf_call {W0 W:PW} {M:Nat→Prop} {s t:Sl} {b:Bool} {r:Rat} {K:Value→PW→Prop} (h:IsRat 284 W s b t r) (kont: ∀(l:List Value) (W':PW),Ext W W'→(SpV 284 W' l (ivPt r))→K (.agg ⟨l⟩) W'):
  callN Go.Proofs.Tryz.prog W0 M 84 [.agg ⟨[s.v,.bool b,t.v]⟩] W K:=
 callN_of (fun W' hE=>spanOf_ok (M:=fun _=>False) (h.ext hE)) (fun W' v W'' hE hE' hP=>by
  obtain⟨l,rfl,h⟩:=hP
  exact kont l W'' (hE.trans hE') h)
theorem spanHas_ok {W0:PW} {M:Nat→Prop} {l1:List Value} {s t:Sl} {b:Bool} {x:Iv} {r:Rat} {k:Nat} (h1:SpV 284 W0 l1 x) (h2:IsRat 284 W0 s b t r) (hx:IvS k x) (hr:Sz k r) (hk:k≤8589934592):
  PCallsM Go.Proofs.Tryz.prog 65 [.agg ⟨l1⟩,.agg ⟨[s.v,.bool b,t.v]⟩] W0 M fun v W'=>v = .bool (decide (x.1≤r∧r≤x.2))∧True:=by
 obtain⟨s0,b0,t0,s1,b1,t1,rfl,h1,h1'⟩:=h1
 apply callspan_Has
 refine ratCmp_call h1 h2 hx.1 hr (by omega) (by omega) fun W2 hE2 _=>⟨_,rfl,fun h=>ratCmp_call (h2.ext hE2) (h1'.ext hE2) hr hx.2 (by omega) (by omega) fun W5 hE5 _=>⟨_,rfl,fun W7 hE7=>⟨?_,trivial⟩⟩,fun h W8 hE8=>⟨?_,trivial⟩⟩
 ·have h:=cmpQ_le.1 h
  congr 1
  rw[decide_eq_decide,cmpQ_le]
  exact⟨fun e=>⟨h,e⟩,fun e=>e.2⟩
 ·rw[decide_eq_false fun e=>h (cmpQ_le.2 e.1)]
theorem spanHas_call {W0 W:PW} {M:Nat→Prop} {l1:List Value} {s t:Sl} {b:Bool} {x:Iv} {r:Rat} {k:Nat} {K:Value→PW→Prop} (h1:SpV 284 W l1 x) (h2:IsRat 284 W s b t r) (hx:IvS k x) (hr:Sz k r) (hk:k≤8589934592) (kont: ∀(W':PW),Ext W W'→(True)→K (.bool (decide (x.1≤r∧r≤x.2))) W'):
  callN Go.Proofs.Tryz.prog W0 M 65 [.agg ⟨l1⟩,.agg ⟨[s.v,.bool b,t.v]⟩] W K:=
 callN_of (fun W' hE=>spanHas_ok (M:=fun _=>False) (h1.ext hE) (h2.ext hE) hx hr hk) (fun W' v W'' hE hE' hP=>by
  obtain⟨rfl,h⟩:=hP
  exact kont W'' (hE.trans hE') h)
theorem spanPow_ok {W0:PW} {M:Nat→Prop} {l1:List Value} {x:Iv} {n k:Nat} (h1:SpV 284 W0 l1 x) (hx:IvS k x) (hk:k≤1048576) (hn:n≤255):
  PCallsM Go.Proofs.Tryz.prog 86 [.agg ⟨l1⟩,.int .i64 (n:Int)] W0 M fun v W'=>∃(l:List Value),v = .agg ⟨l⟩∧SpV 284 W' l (ivPow x n):=by
 obtain⟨s0,b0,t0,s1,b1,t1,rfl,h1,h1'⟩:=h1
 apply callspan_Pow
 have hm:=Nat.mul_le_mul hk hn
 have hmn:mn (mx (n:Int) 0) 255=(n:Int):=by unfold mn mx;(repeat' split)<;>omega
 unfold Rspan_Pow
 rw[hmn]
 refine ratPow_call h1 hx.1 hk hn fun s3 b4 s5 W2 hE2 g1=>⟨s3,b4,s5,rfl,ratPow_call (h1'.ext hE2) hx.2 hk hn fun s8 b9 s10 W7 hE7 g2=>⟨s8,b9,s10,rfl,spanAround_call (g1.ext hE7) g2 (Sz.powq hx.1 n) (Sz.powq hx.2 n) (by omega) fun l W12 hE12 h12=>h12.out fun s13 b14 s15 s16 b17 s18 h12=>⟨fun hpos=>⟨by omega,fun hev=>?_,fun hod W24 hE24=>⟨_,rfl,?_⟩⟩,fun h0 W25 hE25=>⟨_,rfl,?_⟩⟩⟩⟩
 ·have hev':n%2=0:=by have:=Int.tmod_eq_emod_of_nonneg (a:=(n:Int)) (b:=2) (by omega);omega
  have hE:=(hE2.trans hE7).trans hE12
  refine spanHas_call (s:=⟨none,0,0⟩) (b:=false) (t:=⟨none,0,0⟩) (k:=k+1) (SpV.mk (h1.ext hE) (h1'.ext hE)) (isRat_zero W12) ⟨hx.1.mono (by omega),hx.2.mono (by omega)⟩ (Sz.zero (by omega)) (by omega) fun W20 hE20 _=>⟨_,rfl,fun hb W22 hE22=>⟨_,rfl,?_⟩,fun hb W23 hE23=>⟨_,rfl,?_⟩⟩
  ·have hb:=of_decide_eq_true hb
   rw[ivPow,if_pos ⟨by omega,hev',hb⟩]
   obtain⟨_,_,_,_,_,_,e,k1,k2⟩:=h12.ext (hE20.trans hE22)
   simp only[List.cons.injEq,Value.bool.injEq,and_true] at e
   obtain⟨e1,e2,e3,e4,e5,e6⟩:=e
   have e4:=Sl.v_inj e4
   have e6:=Sl.v_inj e6
   subst e4 e5 e6
   exact⟨⟨none,0,0⟩,false,⟨none,0,0⟩,_,_,_,rfl,isRat_zero _,k2⟩
  ·have hb:=of_decide_eq_false hb
   rw[ivPow,if_neg fun e=>hb e.2.2]
   exact h12.ext (hE20.trans hE23)
 ·rw[ivPow,if_neg]
  ·exact h12.ext hE24
  ·intro e
   apply hod
   have:=Int.tmod_eq_emod_of_nonneg (a:=(n:Int)) (b:=2) (by omega)
   have:=e.2.1
   omega
 ·rw[ivPow,if_neg fun e=>h0 (by have:=e.1;omega)]
  exact h12.ext hE25
theorem spanPow_call {W0 W:PW} {M:Nat→Prop} {l1:List Value} {x:Iv} {n k:Nat} {K:Value→PW→Prop} (h1:SpV 284 W l1 x) (hx:IvS k x) (hk:k≤1048576) (hn:n≤255) (kont: ∀(l:List Value) (W':PW),Ext W W'→(SpV 284 W' l (ivPow x n))→K (.agg ⟨l⟩) W'):
  callN Go.Proofs.Tryz.prog W0 M 86 [.agg ⟨l1⟩,.int .i64 (n:Int)] W K:=
 callN_of (fun W' hE=>spanPow_ok (M:=fun _=>False) (h1.ext hE) hx hk hn) (fun W' v W'' hE hE' hP=>by
  obtain⟨l,rfl,h⟩:=hP
  exact kont l W'' (hE.trans hE') h)
theorem spanWidth_ok {W0:PW} {M:Nat→Prop} {l1:List Value} {x:Iv} {k:Nat} (h1:SpV 284 W0 l1 x) (hx:IvS k x) (hk:k≤8589934592):
  PCallsM Go.Proofs.Tryz.prog 109 [.agg ⟨l1⟩] W0 M fun v W'=>∃(r:Sl),∃(c:Bool),∃(u:Sl),v = .agg ⟨[Sl.v r,.bool c,Sl.v u]⟩∧IsRat 284 W' r c u (x.2-x.1):=by
 obtain⟨s0,b0,t0,s1,b1,t1,rfl,h1,h1'⟩:=h1
 apply callspan_Width
 exact ratSub_call h1' h1 hx.2 hx.1 hk hk fun s3 b4 s5 W2 hE2 g=>⟨s3,b4,s5,rfl,fun W6 hE6=>⟨_,_,_,rfl,g.ext hE6⟩⟩
theorem spanWidth_call {W0 W:PW} {M:Nat→Prop} {l1:List Value} {x:Iv} {k:Nat} {K:Value→PW→Prop} (h1:SpV 284 W l1 x) (hx:IvS k x) (hk:k≤8589934592) (kont: ∀(r:Sl) (c:Bool) (u:Sl) (W':PW),Ext W W'→(IsRat 284 W' r c u (x.2-x.1))→K (.agg ⟨[Sl.v r,.bool c,Sl.v u]⟩) W'):
  callN Go.Proofs.Tryz.prog W0 M 109 [.agg ⟨l1⟩] W K:=
 callN_of (fun W' hE=>spanWidth_ok (M:=fun _=>False) (h1.ext hE) hx hk) (fun W' v W'' hE hE' hP=>by
  obtain⟨r,c,u,rfl,h⟩:=hP
  exact kont r c u W'' (hE.trans hE') h)
theorem spanNew_ok {W0:PW} {M:Nat→Prop} {s t s' t':Sl} {b b':Bool} {p q:Rat} {k:Nat} (h1:IsRat 284 W0 s b t p) (h2:IsRat 284 W0 s' b' t' q) (hp:Sz k p) (hq:Sz k q) (hk:k≤34359738368):
  PCallsM Go.Proofs.Tryz.prog 168 [.agg ⟨[s.v,.bool b,t.v]⟩,.agg ⟨[s'.v,.bool b',t'.v]⟩] W0 M fun v W'=>∃(l:List Value),v = .tuple ⟨[.agg ⟨l⟩,.bool (decide (p≤q))]⟩∧SpV 284 W' l (if p≤q then(p,q) else(0,0)):=by
 apply callspan_New
 refine ratCmp_call h1 h2 hp hq hk hk fun W2 hE2 _=>⟨_,rfl,fun h W4 hE4=>?_,fun h W5 hE5=>?_⟩
 ·have h:=cmpQ_gt.1 h
  have h':¬p≤q:=Rat.not_le.2 h
  rw[if_neg h',decide_eq_false h']
  exact⟨_,rfl,SpV.zero W4⟩
 ·have h':p≤q:=Rat.not_lt.1 fun e=>h (cmpQ_gt.2 e)
  rw[if_pos h',decide_eq_true h']
  exact⟨_,rfl,SpV.mk (x:=(p,q)) (h1.ext (hE2.trans hE5)) (h2.ext (hE2.trans hE5))⟩
theorem spanNew_call {W0 W:PW} {M:Nat→Prop} {s t s' t':Sl} {b b':Bool} {p q:Rat} {k:Nat} {K:Value→PW→Prop} (h1:IsRat 284 W s b t p) (h2:IsRat 284 W s' b' t' q) (hp:Sz k p) (hq:Sz k q) (hk:k≤34359738368) (kont: ∀(l:List Value) (W':PW),Ext W W'→(SpV 284 W' l (if p≤q then(p,q) else(0,0)))→K (.tuple ⟨[.agg ⟨l⟩,.bool (decide (p≤q))]⟩) W'):
  callN Go.Proofs.Tryz.prog W0 M 168 [.agg ⟨[s.v,.bool b,t.v]⟩,.agg ⟨[s'.v,.bool b',t'.v]⟩] W K:=
 callN_of (fun W' hE=>spanNew_ok (M:=fun _=>False) (h1.ext hE) (h2.ext hE) hp hq hk) (fun W' v W'' hE hE' hP=>by
  obtain⟨l,rfl,h⟩:=hP
  exact kont l W'' (hE.trans hE') h)
end Go.Proofs.YtjkkidjbppphpaaGreatDoor
