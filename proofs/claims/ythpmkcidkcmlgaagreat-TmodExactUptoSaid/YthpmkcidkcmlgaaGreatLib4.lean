/- The greatest weight of a polynomial's monomials: of sums and of products. -/
import Derived.Test.YthpmkcidkcmlgaaGreatLib3
import Derived.Test.YthpmkcidkcmlgaaGreatSx1
import Derived.Test.YthpmkcidkcmlgaaGreatLib2
import Derived.Test.YthpmkcidkcmlgaaGreatLib1
import Derived.JoinedCond
set_option linter.unusedVariables false
set_option linter.unusedSimpArgs false
set_option linter.unusedVariables false
namespace Go.SX
def maxf (w:Mon→Int) (n:Int) (p:List Tm):Int:=p.foldl (fun a t=>mx a (w t.1)) n
def lastDeg (p:List Tm):Int:=match p.getLast? with
 | none=>-1
 | some t=>t.1.deg
theorem maxf_le {w:Mon→Int} {n e:Int} {p:List Tm} (hn:n≤e) (h: ∀t∈p,w t.1≤e):maxf w n p≤e:=by
 induction p generalizing n with
 | nil=>exact hn
 | cons t r ih=>
  refine ih (n:=mx n (w t.1)) ?_ fun u hu=>h u (by simp[hu])
  have:=h t (by simp)
  unfold mx
  split<;>omega
theorem le_maxf {w:Mon→Int} {n:Int} {p:List Tm} :n≤maxf w n p∧∀t∈p,w t.1≤maxf w n p:=by
 induction p generalizing n with
 | nil=>exact⟨Int.le_refl _,by simp⟩
 | cons t r ih=>
  have:=ih (n:=mx n (w t.1))
  have e:maxf w n (t :: r)=maxf w (mx n (w t.1)) r:=rfl
  rw[e]
  have h1:n≤mx n (w t.1)∧w t.1≤mx n (w t.1):=by unfold mx;split<;>omega
  refine⟨by omega,fun u hu=>?_⟩
  rcases List.mem_cons.1 hu with rfl | hu
  ·omega
  ·exact this.2 u hu
theorem lastDeg_max: ∀{p:List Tm},PGood p→POk p→lastDeg p=maxf Mon.deg (-1) p:=by
 intro p hp op
 cases hl:p.getLast? with
 | none=>
  have:p = []:=List.getLast?_eq_none_iff.1 hl
  subst this
  rfl
 | some t=>
  have e:lastDeg p=t.1.deg:=by unfold lastDeg;rw[hl]
  obtain⟨l,rfl⟩:=List.getLast?_eq_some_iff.1 hl
  have ht:=op t (by simp)
  have h1:=(le_maxf (w:=Mon.deg) (n:=-1) (p:=l ++ [t])).2 t (by simp)
  have h2:maxf Mon.deg (-1) (l ++ [t])≤t.1.deg:=by
   refine maxf_le (by unfold Mon.deg;unfold Mon.ok at ht;omega) fun u hu=>?_
   rcases List.mem_append.1 hu with hu | hu
   ·have:=(List.pairwise_append.1 hp.srt).2.2 u hu t (by simp)
    unfold Mon.lt at this
    omega
   ·simp at hu
    rw[hu]
    exact Int.le_refl _
  omega
end Go.SX

/- How great the numbers of short texts are. -/
set_option linter.unusedVariables false
namespace Go.SX
end Go.SX

/- A polynomial in normal form has no more terms than there are monomials. -/
set_option linter.unusedVariables false
namespace Go.SX
theorem nodup_bound: ∀{n:Nat} {l:List Nat} (_:l.Nodup) (_: ∀x∈l,x<n),l.length≤n
 | 0,l,_,h=>by
  cases l with
  | nil=>exact Nat.le_refl _
  | cons x r=>exact absurd (h x (by simp)) (Nat.not_lt_zero x)
 | n+1,l,hn,h=>by
  have h1:=nodup_bound (n:=n) (l:=l.filter fun x=>x != n) (hn.sublist List.filter_sublist) fun x hx=>by
   obtain⟨a,b⟩:=List.mem_filter.1 hx
   have:=h x a
   simp at b
   omega
  have h2:l.length≤(l.filter fun x=>x != n).length+1:=by
   clear h1 h
   induction l with
   | nil=>simp
   | cons y r ih=>
    rw[List.nodup_cons] at hn
    by_cases e:y=n
    ·subst e
     have:(r.filter fun x=>x != y)=r:=List.filter_eq_self.2 fun x hx=>by
      have:x≠y:=fun e=>hn.1 (e ▸ hx)
      simpa using this
     simp[this]
    ·have:=ih hn.2
     simp[e]
     omega
  omega
end Go.SX

/- Where no part of a matrix is below 0, no form is. -/
set_option linter.unusedVariables false
namespace Go.SX
end Go.SX

/- Intervals of rational numbers, and what a polynomial's terms come to on them: laws. -/
set_option linter.unusedVariables false
namespace Go.SX
abbrev Iv:=Rat×Rat
def rmin (a b:Rat):Rat:=if b<a then b else a
def rmax (a b:Rat):Rat:=if a<b then b else a
def ivPt (q:Rat):Iv:=(q,q)
def ivAround (a b:Rat):Iv:=(rmin a b,rmax a b)
def ivHull (x y:Iv):Iv:=(rmin x.1 y.1,rmax x.2 y.2)
def ivAdd (x y:Iv):Iv:=(x.1+y.1,x.2+y.2)
def ivMul (x y:Iv):Iv:=ivHull (ivAround (x.1*y.1) (x.2*y.2)) (ivAround (x.1*y.2) (x.2*y.1))
def ivPow (x:Iv) (n:Nat):Iv:=if 0<n∧n%2=0∧x.1≤0∧0≤x.2 then(0,rmax (x.1^n) (x.2^n)) else ivAround (x.1^n) (x.2^n)
theorem rmin_or (a b:Rat):rmin a b=a∨rmin a b=b:=by unfold rmin;split<;>simp
theorem rmax_or (a b:Rat):rmax a b=a∨rmax a b=b:=by unfold rmax;split<;>simp
def FitI (D N:Nat) (x:Iv):Prop:=FitQ D N x.1∧FitQ D N x.2
def BdI (k:Nat) (x:Iv):Prop:=∃D N,FitI D N x∧D≠0∧nl D≤k∧nl N≤k
theorem FitQ.rmin {D N:Nat} {a b:Rat} (h:FitQ D N a) (k:FitQ D N b):FitQ D N (rmin a b):=by rcases rmin_or a b with e | e<;>rw[e]<;>assumption
theorem FitQ.rmax {D N:Nat} {a b:Rat} (h:FitQ D N a) (k:FitQ D N b):FitQ D N (rmax a b):=by rcases rmax_or a b with e | e<;>rw[e]<;>assumption
theorem FitI.mono {D N N':Nat} {x:Iv} (h:FitI D N x) (hn:N≤N'):FitI D N' x:=⟨h.1.mono hn,h.2.mono hn⟩
theorem FitI.scale {D N:Nat} {x:Iv} (h:FitI D N x) (E:Nat):FitI (D*E) (N*E) x:=⟨h.1.scale E,h.2.scale E⟩
theorem FitI.add {D N N':Nat} {x y:Iv} (h:FitI D N x) (k:FitI D N' y):FitI D (N+N') (ivAdd x y):=⟨h.1.add k.1,h.2.add k.2⟩
theorem FitI.around {D N:Nat} {a b:Rat} (h:FitQ D N a) (k:FitQ D N b):FitI D N (ivAround a b):=⟨h.rmin k,h.rmax k⟩
theorem FitI.hull {D N:Nat} {x y:Iv} (h:FitI D N x) (k:FitI D N y):FitI D N (ivHull x y):=⟨h.1.rmin k.1,h.2.rmax k.2⟩
theorem FitI.mul {D E N M:Nat} {x y:Iv} (h:FitI D N x) (k:FitI E M y):FitI (D*E) (N*M) (ivMul x y):=
 FitI.hull (FitI.around (h.1.mul k.1) (h.2.mul k.2)) (FitI.around (h.1.mul k.2) (h.2.mul k.1))
theorem Sz.powq {k:Nat} {q:Rat} (h:Sz k q) (n:Nat):Sz (k*n+1) (q^n):=by
 induction n with
 | zero=>rw[Rat.pow_zero];exact Sz.one (by omega)
 | succ n ih=>
  rw[Rat.pow_succ]
  exact(ih.mul h).mono (by rw[Nat.mul_add];omega)
theorem FitQ.pow {D N:Nat} {q:Rat} (h:FitQ D N q) (n:Nat):FitQ (D^n) (N^n) (q^n):=by
 induction n with
 | zero=>rw[Rat.pow_zero];exact FitQ.int 1
 | succ n ih=>rw[Rat.pow_succ,Nat.pow_succ,Nat.pow_succ];exact ih.mul h
theorem FitI.pow {D N:Nat} {x:Iv} (h:FitI D N x) (n:Nat):FitI (D^n) (N^n) (ivPow x n):=by
 unfold ivPow
 split
 ·exact⟨FitQ.zero,(h.1.pow n).rmax (h.2.pow n)⟩
 ·exact FitI.around (h.1.pow n) (h.2.pow n)
theorem npow_ne {x:Nat} (hx:x≠0) (e:Nat):x^e≠0:=Nat.pos_iff_ne_zero.1 (Nat.pow_pos (Nat.pos_iff_ne_zero.2 hx))
theorem nl_pow (a n:Nat):nl (a^n)≤nl a*n+1:=by
 induction n with
 | zero=>rw[Nat.pow_zero,nl_one];omega
 | succ n ih=>
  rw[Nat.pow_succ]
  have:=nl_mul (a^n) a
  rw[Nat.mul_add,Nat.mul_one]
  omega
theorem BdI.mono {k k':Nat} {x:Iv} (h:BdI k x) (hk:k≤k'):BdI k' x:=let⟨D,N,h1,h2,h3,h4⟩:=h;⟨D,N,h1,h2,Nat.le_trans h3 hk,Nat.le_trans h4 hk⟩
theorem BdI.sz {k:Nat} {x:Iv} (h:BdI k x):Sz k x.1∧Sz k x.2:=let⟨D,N,h1,h2,h3,h4⟩:=h;⟨h1.1.sz h2 h3 h4,h1.2.sz h2 h3 h4⟩
theorem BdI.pt {k:Nat} {q:Rat} (h:Sz k q):BdI k (ivPt q):=⟨q.den,q.num.natAbs,⟨FitQ.den q,FitQ.den q⟩,q.den_nz,h.2,h.1⟩
theorem BdI.zero {k:Nat} (h:1≤k):BdI k (0,0):=BdI.pt (Sz.zero h)
theorem BdI.of_sz {k:Nat} {x:Iv} (h:Sz k x.1∧Sz k x.2):BdI (2*k+1) x:=by
 have e1:=nl_mul x.1.den x.2.den
 have e2:=nl_mul x.1.num.natAbs x.2.den
 have e3:=nl_mul x.2.num.natAbs x.1.den
 have e4:=nl_add (x.1.num.natAbs*x.2.den) (x.2.num.natAbs*x.1.den)
 have h1:=h.1.1
 have h2:=h.1.2
 have h3:=h.2.1
 have h4:=h.2.2
 refine⟨x.1.den*x.2.den,x.1.num.natAbs*x.2.den+x.2.num.natAbs*x.1.den,⟨((FitQ.den x.1).scale x.2.den).mono (by omega),?_⟩,Nat.mul_ne_zero x.1.den_nz x.2.den_nz,by omega,by omega⟩
 have:=(FitQ.den x.2).scale x.1.den
 rw[Nat.mul_comm x.1.den]
 exact this.mono (by omega)
theorem BdI.mul {k k':Nat} {x y:Iv} (h:BdI k x) (h':BdI k' y):BdI (k+k') (ivMul x y):=by
 obtain⟨D,N,h1,h2,h3,h4⟩:=h
 obtain⟨E,M,g1,g2,g3,g4⟩:=h'
 have e1:=nl_mul D E
 have e2:=nl_mul N M
 exact⟨D*E,N*M,h1.mul g1,Nat.mul_ne_zero h2 g2,by omega,by omega⟩
theorem BdI.add {k k':Nat} {x y:Iv} (h:BdI k x) (h':BdI k' y):BdI (k+k'+1) (ivAdd x y):=by
 obtain⟨D,N,h1,h2,h3,h4⟩:=h
 obtain⟨E,M,g1,g2,g3,g4⟩:=h'
 have e1:=nl_mul D E
 have e2:=nl_mul N E
 have e3:=nl_mul M D
 have e4:=nl_add (N*E) (M*D)
 have:=(h1.scale E).add (show FitI (D*E) (M*D) y by rw[Nat.mul_comm D E];exact g1.scale D)
 exact⟨D*E,N*E+M*D,this,Nat.mul_ne_zero h2 g2,by omega,by omega⟩
theorem BdI.pow {k:Nat} {x:Iv} (h:BdI k x) (n:Nat):BdI (k*n+1) (ivPow x n):=by
 obtain⟨D,N,h1,h2,h3,h4⟩:=h
 have e1:=nl_pow D n
 have e2:=nl_pow N n
 have e3:=Nat.mul_le_mul_right n h3
 have e4:=Nat.mul_le_mul_right n h4
 exact⟨D^n,N^n,h1.pow n,npow_ne h2 n,by omega,by omega⟩
def mex (m:Mon) (k:Nat):Nat:=if k=0 then m.x.toNat else if k=1 then m.y.toNat else m.z.toNat
def ivTm (l:Nat→Iv) (t:Tm):Nat→Iv
 | 0=>ivPt t.2
 | j+1=>if 0<mex t.1 j then ivMul (ivTm l t j) (ivPow (l j) (mex t.1 j)) else ivTm l t j
def ivOver (l:Nat→Iv) (p:List Tm):Iv:=p.foldl (fun a t=>ivAdd a (ivTm l t 3)) (0,0)
theorem ivOver_snoc (l:Nat→Iv) (p:List Tm) (t:Tm):ivOver l (p ++ [t])=ivAdd (ivOver l p) (ivTm l t 3):=by simp[ivOver]
theorem ivTm_bd {l:Nat→Iv} {t:Tm} {k m e:Nat} (ht:Sz k t.2) (hl: ∀i,BdI m (l i)) (he: ∀i,mex t.1 i≤e): ∀j,BdI (k+j*(m*e+1)) (ivTm l t j)
 | 0=>by rw[Nat.zero_mul,Nat.add_zero];exact BdI.pt ht
 | j+1=>by
  have h1:=ivTm_bd ht hl he j
  have h2:=(hl j).pow (mex t.1 j)
  have h3:=Nat.mul_le_mul_left m (he j)
  rw[ivTm]
  split
  ·exact(h1.mul h2).mono (by rw[Nat.add_mul,Nat.one_mul];omega)
  ·exact h1.mono (by rw[Nat.add_mul,Nat.one_mul];omega)
theorem ivPow_fit {D N e n:Nat} {x:Iv} (h:FitI D N x) (hn:n≤e):FitI (D^e) ((N+D)^e) (ivPow x n):=by
 have:=(h.pow n).scale (D^(e-n))
 rw[←Nat.pow_add,show n+(e-n)=e by omega] at this
 refine this.mono ?_
 have h1:=Nat.pow_le_pow_left (show N≤N+D by omega) n
 have h2:=Nat.pow_le_pow_left (show D≤N+D by omega) (e-n)
 have h3:=Nat.mul_le_mul h1 h2
 rwa [←Nat.pow_add,show n+(e-n)=e by omega] at h3
theorem FitI.step {D N E M e n:Nat} {x y:Iv} (h:FitI D N x) (k:FitI E M y) (hn:n≤e):FitI (D*E^e) (N*(M+E)^e) (if 0<n then ivMul x (ivPow y n) else x):=by
 split
 ·exact h.mul (ivPow_fit k hn)
 ·exact(h.scale (E^e)).mono (Nat.mul_le_mul_left _ (Nat.pow_le_pow_left (by omega) e))
theorem ivOver_bd {l:Nat→Iv} {p:List Tm} {k m e:Nat} (hp:Bd k p) (hl: ∀i,BdI m (l i)) (he: ∀t∈p,∀i,mex t.1 i≤e):BdI (k+3*((m+1)*e+1)) (ivOver l p):=by
 obtain⟨D,N,h1,h2,h3,h4⟩:=hp
 obtain⟨D0,N0,a1,a2,a3,a4⟩:=hl 0
 obtain⟨D1,N1,b1,b2,b3,b4⟩:=hl 1
 obtain⟨D2,N2,c1,c2,c3,c4⟩:=hl 2
 have key: ∀(p:List Tm) (N A:Nat) (a:Iv),Fit D N p→(∀t∈p,∀i,mex t.1 i≤e)→FitI (D*D0^e*D1^e*D2^e) A a→FitI (D*D0^e*D1^e*D2^e) (A+N*((N0+D0)^e*(N1+D1)^e*(N2+D2)^e)) (p.foldl (fun a t=>ivAdd a (ivTm l t 3)) a):=by
  intro p
  induction p with
  | nil=>intro N A a _ _ ha;exact ha.mono (by omega)
  | cons t r ih=>
   intro N A a hf hm ha
   obtain⟨n,n',g1,g2,g3⟩:=hf
   rw[List.foldl_cons]
   have ht:FitI (D*D0^e*D1^e*D2^e) (n*(N0+D0)^e*(N1+D1)^e*(N2+D2)^e) (ivTm l t 3):=by
    have hm:=hm t (by simp)
    exact(((show FitI D n (ivPt t.2) from⟨g2,g2⟩).step a1 (hm 0)).step b1 (hm 1)).step c1 (hm 2)
   refine(ih n' _ _ g3 (fun x hx=>hm x (by simp[hx])) (ha.add ht)).mono ?_
   have e1:n*(N0+D0)^e*(N1+D1)^e*(N2+D2)^e=n*((N0+D0)^e*(N1+D1)^e*(N2+D2)^e):=by simp only[Nat.mul_assoc]
   rw[e1,Nat.add_assoc,←Nat.add_mul]
   exact Nat.add_le_add_left (Nat.mul_le_mul_right _ g1) _
 have hres:=key p N 0 (0,0) h1 he ⟨FitQ.zero,FitQ.zero⟩
 have q1: ∀{x y:Nat},nl x≤m→nl y≤m→nl (x^e)≤(m+1)*e+1∧nl ((y+x)^e)≤(m+1)*e+1:=fun {x y} hx hy=>by
  have e1:=nl_pow x e
  have e2:=nl_pow (y+x) e
  have e3:=nl_add_le hy hx
  have e4:=Nat.mul_le_mul_right e (show nl x≤m+1 by omega)
  have e5:=Nat.mul_le_mul_right e e3
  omega
 have u0:=q1 a3 a4
 have u1:=q1 b3 b4
 have u2:=q1 c3 c4
 have v1:=nl_mul D (D0^e)
 have v2:=nl_mul (D*D0^e) (D1^e)
 have v3:=nl_mul (D*D0^e*D1^e) (D2^e)
 have w1:=nl_mul ((N0+D0)^e) ((N1+D1)^e)
 have w2:=nl_mul ((N0+D0)^e*(N1+D1)^e) ((N2+D2)^e)
 have w3:=nl_mul N ((N0+D0)^e*(N1+D1)^e*(N2+D2)^e)
 refine⟨_,_,hres,Nat.mul_ne_zero (Nat.mul_ne_zero (Nat.mul_ne_zero h2 (npow_ne a2 e)) (npow_ne b2 e)) (npow_ne c2 e),by omega,?_⟩
 rw[Nat.zero_add]
 omega
end Go.SX

/- Models: a polynomial and a rest; how great their numbers are: laws. -/
set_option linter.unusedVariables false
namespace Go.SX
theorem Fit.filter {D N:Nat} {l:List Tm} (h:Fit D N l) (f:Tm→Bool):Fit D N (l.filter f):=by
 induction l generalizing N with
 | nil=>exact h
 | cons t r ih=>
  obtain⟨n,k,h1,h2,h3⟩:=h
  rw[List.filter_cons]
  split
  ·exact⟨n,k,h1,h2,ih h3⟩
  ·exact(ih h3).mono (by omega)
theorem Bd.filter {k:Nat} {l:List Tm} (h:Bd k l) (f:Tm→Bool):Bd k (l.filter f):=let⟨D,N,h1,h2,h3,h4⟩:=h;⟨D,N,h1.filter f,h2,h3,h4⟩
theorem PGood.filter {p:List Tm} (h:PGood p) (f:Tm→Bool):PGood (p.filter f):=⟨h.srt.filter f,fun t ht=>h.nz t (List.mem_filter.1 ht).1⟩
theorem filter_snoc {f:Tm→Bool} {p:List Tm} {j:Nat} (hj:j<p.length):(p.take (j+1)).filter f=if f p[j]=true then(p.take j).filter f ++ [p[j]] else(p.take j).filter f:=by
 rw[List.take_succ_eq_append_getElem hj,List.filter_append]
 split
 ·rename_i h;simp[h]
 ·rename_i h;simp[h]
abbrev Mdl:=List Tm×Iv
def DRight (b:Nat→Iv) (n:Int):Prop:=(b 0).1≤(b 0).2∧(b 1).1≤(b 1).2∧(b 2).1≤(b 2).2∧0≤n∧n≤8
instance (b:Nat→Iv) (n:Int):Decidable (DRight b n):=by unfold DRight;infer_instance
def lowP (n:Int) (p:List Tm):List Tm:=p.filter fun t=>decide (t.1.deg≤n)
def highP (n:Int) (p:List Tm):List Tm:=p.filter fun t=>decide (n<t.1.deg)
def cutP (b:Nat→Iv) (n:Int) (p:List Tm):Mdl:=(lowP n p,ivOver b (highP n p))
def mdlZ:Mdl:=([],(0,0))
structure MdB (k r:Nat) (e:Int) (x:Mdl):Prop where
 bd:Bd k x.1
 rest:BdI r x.2
 good:PGood x.1
 ok: ∀t∈x.1,t.1.ok∧t.1.x≤e∧t.1.y≤e∧t.1.z≤e
theorem mex_le {m:Mon} {e:Int} (h:m.ok∧m.x≤e∧m.y≤e∧m.z≤e) (i:Nat):mex m i≤e.toNat:=by
 unfold Mon.ok at h
 unfold mex
 (repeat' split)<;>omega
end Go.SX

/- Products of polynomials are bilinear; a form's squares: laws. -/
set_option linter.unusedVariables false
namespace Go.SX
theorem ptot_lin (p:List Tm) (m:Mon):ptot p m=lin (fun n=>if n=m then 1 else 0) p:=by
 induction p with
 | nil=>rfl
 | cons t r ih=>
  simp only[ptot,lin,ih]
  split<;>grind
end Go.SX

/- The closed facts that a row asks, in parts: a great program's are asked one part after the other. -/
set_option linter.unusedVariables false
namespace Go
def facts0 (P:Program) (f:FuncId) (fn:Func) (s:ChangeSpec) (c:OpenClaim):Bool:=c.wf (OpenSpec.ofChange s) && laidOutB P && mapsRowed P && fn.params.all (P.readableRec ·) && namedTie P c.named s.vars && (c.stops == []) && (P.stops == []) && (c.knobs == []) && (P.stopKnobs == [])
def facts1 (P:Program) (f:FuncId) (fn:Func) (s:ChangeSpec) (c:OpenClaim):Bool:=(c.inPlace == P.inPlace f) && (c.unfollowed == P.unfollowed f) && (c.recurses == P.recurses f) && (c.named == P.varsNamed f)
def facts2 (P:Program) (f:FuncId) (fn:Func) (s:ChangeSpec) (c:OpenClaim):Bool:=(c.maps == (fn.params.toList ++ s.plain.varTypes P).any (P.mapsRec ·)) && (c.ifaces == (fn.params.toList ++ s.plain.varTypes P).any (P.ifacesRec ·)) && (c.mapsOut == P.mapsAmong fn.resultTypes.toList) && (c.loops == (fn.params.toList ++ s.plain.varTypes P).any (P.loopsFrom ·)) && (c.wideKeys == (fn.params.toList ++ s.plain.varTypes P ++ fn.resultTypes.toList).any (P.wideKeysFrom ·)) && s.vars.all (P.varReadable ·)
def facts3 (P:Program) (f:FuncId) (fn:Func) (s:ChangeSpec) (c:OpenClaim):Bool:=fn.resultTypes.all (fun t=>P.readableRec t && decide (t<P.types.size)) && (c.ifacesOut == fn.resultTypes.toList.any (P.ifacesRec ·)) && (c.loopsOut == fn.resultTypes.toList.any (P.loopsFrom ·)) && (c.plainKeys == P.plainKeys) && c.shortTexts.isNone && P.stopsHeard && P.mayEnter
def facts4 (P:Program) (f:FuncId) (fn:Func) (s:ChangeSpec) (c:OpenClaim):Bool:=(c.lifted == P.liftsFinal) && (P.make == some c.make) && (c.kinds == (if c.domain.isEmpty then[] else fn.params.toList.map fun t=>match P.underlying t with | some (.int k)=>some k | _=>none)) && (c.pinned == c.pinnedBy) && (c.veiled == (fn.params.toList ++ s.plain.varTypes P ++ fn.resultTypes.toList).any (P.veiledRec ·)) && c.veiledFits P fn.params.toList (fn.params.toList ++ s.plain.varTypes P ++ fn.resultTypes.toList)
theorem re1 {x a0 a1 a2 a3:Bool} (h:x=true) (g:(a0 && a1 && a2 && a3)=true):(x && a0 && a1 && a2 && a3)=true:=by rw[h];exact g
theorem re2 {x a0 a1 a2 a3 a4 a5:Bool} (h:x=true) (g:(a0 && a1 && a2 && a3 && a4 && a5)=true):(x && a0 && a1 && a2 && a3 && a4 && a5)=true:=by rw[h];exact g
theorem re3 {x a0 a1 a2 a3 a4 a5 a6:Bool} (h:x=true) (g:(a0 && a1 && a2 && a3 && a4 && a5 && a6)=true):(x && a0 && a1 && a2 && a3 && a4 && a5 && a6)=true:=by rw[h];exact g
theorem re4 {x a0 a1 a2 a3 a4 a5:Bool} (h:x=true) (g:(a0 && a1 && a2 && a3 && a4 && a5)=true):(x && a0 && a1 && a2 && a3 && a4 && a5)=true:=by rw[h];exact g
theorem joined_of {P:Program} {f:FuncId} {fn:Func} {s:ChangeSpec} {c:OpenClaim} (h0:facts0 P f fn s c=true) (h1:facts1 P f fn s c=true) (h2:facts2 P f fn s c=true) (h3:facts3 P f fn s c=true) (h4:facts4 P f fn s c=true):joinedFacts P f fn s c=true:=re4 (re3 (re2 (re1 h0 h1) h2) h3) h4
end Go

/- Intervals, domains, models in memory. -/
set_option linter.unusedVariables false
namespace Go.SX
theorem cmpQ_lt {a b:Rat} :cmpQ a b<0↔a<b:=by
 unfold cmpQ
 split
 ·simp[*]
 ·split<;>simp_all
theorem cmpQ_gt {a b:Rat} :0<cmpQ a b↔b<a:=by
 unfold cmpQ
 split
 ·grind
 ·split
  ·rename_i h1 h2
   subst h2
   grind
  ·rename_i h1 h2
   constructor
   ·intro _
    exact Rat.not_le.1 fun h=>(Rat.le_iff_lt_or_eq.1 h).elim h1 h2
   ·intro _;omega
theorem cmpQ_le {a b:Rat} :cmpQ a b≤0↔a≤b:=by rw[←Int.not_lt,cmpQ_gt,Rat.not_lt]
def SpV (tu:TypeId) (W:PW) (l:List Value) (x:Iv):Prop:=∃(s:Sl) (b:Bool) (t s':Sl) (b':Bool) (t':Sl),l = [s.v,.bool b,t.v,s'.v,.bool b',t'.v]∧IsRat tu W s b t x.1∧IsRat tu W s' b' t' x.2
def RSpV (tu:TypeId) (W:PW) (l:List Value) (x:Iv):Prop:=∃(b:Bool) (s t:Sl) (b':Bool) (s' t':Sl),l = [.bool b,s.v,t.v,.bool b',s'.v,t'.v]∧IsRefQ tu W b s t x.1∧IsRefQ tu W b' s' t' x.2
theorem SpV.ext {tu:TypeId} {W W':PW} {l:List Value} {x:Iv} (h:SpV tu W l x) (hE:Ext W W'):SpV tu W' l x:=let⟨s,b,t,s',b',t',e,h1,h2⟩:=h;⟨s,b,t,s',b',t',e,h1.ext hE,h2.ext hE⟩
theorem RSpV.ext {tu:TypeId} {W W':PW} {l:List Value} {x:Iv} (h:RSpV tu W l x) (hE:Ext W W'):RSpV tu W' l x:=let⟨s,b,t,s',b',t',e,h1,h2⟩:=h;⟨s,b,t,s',b',t',e,h1.ext hE,h2.ext hE⟩
theorem SpV.mk {tu:TypeId} {W:PW} {s t s' t':Sl} {b b':Bool} {x:Iv} (h1:IsRat tu W s b t x.1) (h2:IsRat tu W s' b' t' x.2):SpV tu W [s.v,.bool b,t.v,s'.v,.bool b',t'.v] x:=⟨s,b,t,s',b',t',rfl,h1,h2⟩
theorem RSpV.mk {tu:TypeId} {W:PW} {s t s' t':Sl} {b b':Bool} {x:Iv} (h1:IsRefQ tu W b s t x.1) (h2:IsRefQ tu W b' s' t' x.2):RSpV tu W [.bool b,s.v,t.v,.bool b',s'.v,t'.v] x:=⟨b,s,t,b',s',t',rfl,h1,h2⟩
theorem SpV.out {tu:TypeId} {W:PW} {l:List Value} {x:Iv} {K:Sl→Bool→Sl→Sl→Bool→Sl→Prop} (h:SpV tu W l x) (k: ∀s b t s' b' t',SpV tu W [s.v,.bool b,t.v,s'.v,.bool b',t'.v] x→K s b t s' b' t'):
  ∃(s:Sl) (b:Bool) (t s':Sl) (b':Bool) (t':Sl),Value.agg ⟨l⟩ = .agg ⟨[s.v,.bool b,t.v,s'.v,.bool b',t'.v]⟩∧K s b t s' b' t':=by
 obtain⟨s,b,t,s',b',t',rfl,h1,h2⟩:=h
 exact⟨s,b,t,s',b',t',rfl,k s b t s' b' t' (SpV.mk h1 h2)⟩
theorem SpV.zero {tu:TypeId} (W:PW):SpV tu W [.slice none 0 0,.bool false,.slice none 0 0,.slice none 0 0,.bool false,.slice none 0 0] (0,0):=⟨⟨none,0,0⟩,false,⟨none,0,0⟩,⟨none,0,0⟩,false,⟨none,0,0⟩,rfl,isRat_zero W,isRat_zero W⟩
theorem RSpV.zero {tu:TypeId} (W:PW):RSpV tu W [.bool false,.slice none 0 0,.slice none 0 0,.bool false,.slice none 0 0,.slice none 0 0] (0,0):=⟨false,⟨none,0,0⟩,⟨none,0,0⟩,false,⟨none,0,0⟩,⟨none,0,0⟩,rfl,isRQ_zero W,isRQ_zero W⟩
theorem Sl.v_inj {s t:Sl} (h:s.v=t.v):s=t:=by
 cases s
 cases t
 simp only[Sl.v,Value.slice.injEq] at h
 obtain⟨rfl,rfl,rfl⟩:=h
 rfl
theorem SpV.two {tu:TypeId} {W:PW} {s t s' t':Sl} {b b':Bool} {x:Iv} (h:SpV tu W [s.v,.bool b,t.v,s'.v,.bool b',t'.v] x):IsRat tu W s b t x.1∧IsRat tu W s' b' t' x.2:=by
 obtain⟨_,_,_,_,_,_,e,k1,k2⟩:=h
 simp only[List.cons.injEq,Value.bool.injEq,and_true] at e
 obtain⟨e1,e2,e3,e4,e5,e6⟩:=e
 rw[Sl.v_inj e1,e2,Sl.v_inj e3,Sl.v_inj e4,e5,Sl.v_inj e6]
 exact⟨k1,k2⟩
theorem RSpV.two {tu:TypeId} {W:PW} {s t s' t':Sl} {b b':Bool} {x:Iv} (h:RSpV tu W [.bool b,s.v,t.v,.bool b',s'.v,t'.v] x):IsRefQ tu W b s t x.1∧IsRefQ tu W b' s' t' x.2:=by
 obtain⟨_,_,_,_,_,_,e,k1,k2⟩:=h
 simp only[List.cons.injEq,Value.bool.injEq,and_true] at e
 obtain⟨e1,e2,e3,e4,e5,e6⟩:=e
 rw[e1,Sl.v_inj e2,Sl.v_inj e3,e4,Sl.v_inj e5,Sl.v_inj e6]
 exact⟨k1,k2⟩
def IvS (k:Nat) (x:Iv):Prop:=Sz k x.1∧Sz k x.2
def DmV (tu:TypeId) (W:PW) (l:List Value) (b:Nat→Iv):Prop:=∃(s0:Sl) (b0:Bool) (t0 s1:Sl) (b1:Bool) (t1 s2:Sl) (b2:Bool) (t2 s3:Sl) (b3:Bool) (t3 s4:Sl) (b4:Bool) (t4 s5:Sl) (b5:Bool) (t5:Sl),
 l = [s0.v,.bool b0,t0.v,s1.v,.bool b1,t1.v,s2.v,.bool b2,t2.v,s3.v,.bool b3,t3.v,s4.v,.bool b4,t4.v,s5.v,.bool b5,t5.v]∧SpV tu W [s0.v,.bool b0,t0.v,s1.v,.bool b1,t1.v] (b 0)∧SpV tu W [s2.v,.bool b2,t2.v,s3.v,.bool b3,t3.v] (b 1)∧SpV tu W [s4.v,.bool b4,t4.v,s5.v,.bool b5,t5.v] (b 2)
def RDmV (tu:TypeId) (W:PW) (l:List Value) (b:Nat→Iv):Prop:=∃(b0:Bool) (s0 t0:Sl) (b1:Bool) (s1 t1:Sl) (b2:Bool) (s2 t2:Sl) (b3:Bool) (s3 t3:Sl) (b4:Bool) (s4 t4:Sl) (b5:Bool) (s5 t5:Sl),
 l = [.bool b0,s0.v,t0.v,.bool b1,s1.v,t1.v,.bool b2,s2.v,t2.v,.bool b3,s3.v,t3.v,.bool b4,s4.v,t4.v,.bool b5,s5.v,t5.v]∧RSpV tu W [.bool b0,s0.v,t0.v,.bool b1,s1.v,t1.v] (b 0)∧RSpV tu W [.bool b2,s2.v,t2.v,.bool b3,s3.v,t3.v] (b 1)∧RSpV tu W [.bool b4,s4.v,t4.v,.bool b5,s5.v,t5.v] (b 2)
theorem DmV.ext {tu:TypeId} {W W':PW} {l:List Value} {b:Nat→Iv} (h:DmV tu W l b) (hE:Ext W W'):DmV tu W' l b:=by
 obtain⟨s0,b0,t0,s1,b1,t1,s2,b2,t2,s3,b3,t3,s4,b4,t4,s5,b5,t5,e,h1,h2,h3⟩:=h
 exact⟨s0,b0,t0,s1,b1,t1,s2,b2,t2,s3,b3,t3,s4,b4,t4,s5,b5,t5,e,h1.ext hE,h2.ext hE,h3.ext hE⟩
theorem RDmV.ext {tu:TypeId} {W W':PW} {l:List Value} {b:Nat→Iv} (h:RDmV tu W l b) (hE:Ext W W'):RDmV tu W' l b:=by
 obtain⟨s0,b0,t0,s1,b1,t1,s2,b2,t2,s3,b3,t3,s4,b4,t4,s5,b5,t5,e,h1,h2,h3⟩:=h
 exact⟨s0,b0,t0,s1,b1,t1,s2,b2,t2,s3,b3,t3,s4,b4,t4,s5,b5,t5,e,h1.ext hE,h2.ext hE,h3.ext hE⟩
theorem DmV.box {tu:TypeId} {W:PW} {l:List Value} {b:Nat→Iv} (h:DmV tu W l b) {j:Nat} (hj:j<3): ∃(s:Sl) (c:Bool) (t s':Sl) (c':Bool) (t':Sl),BoxAt l (0+Int.toNat (j:Int)*6+0) [s.v,.bool c,t.v,s'.v,.bool c',t'.v]∧SpV tu W [s.v,.bool c,t.v,s'.v,.bool c',t'.v] (b j):=by
 obtain⟨s0,b0,t0,s1,b1,t1,s2,b2,t2,s3,b3,t3,s4,b4,t4,s5,b5,t5,rfl,h1,h2,h3⟩:=h
 rcases(by omega:j=0∨j=1∨j=2) with rfl | rfl | rfl
 ·exact⟨_,_,_,_,_,_,⟨by simp,rfl⟩,h1⟩
 ·exact⟨_,_,_,_,_,_,⟨by simp,rfl⟩,h2⟩
 ·exact⟨_,_,_,_,_,_,⟨by simp,rfl⟩,h3⟩
def MdV (tu tt:TypeId) (W:PW) (l:List Value) (x:Mdl):Prop:=∃(s:Sl) (l':List Value),l=s.v :: l'∧IsPoly tu tt W s x.1∧SpV tu W l' x.2
theorem MdV.ext {tu tt:TypeId} {W W':PW} {l:List Value} {x:Mdl} (h:MdV tu tt W l x) (hE:Ext W W'):MdV tu tt W' l x:=let⟨s,l',e,h1,h2⟩:=h;⟨s,l',e,h1.ext hE,h2.ext hE⟩
theorem MdV.mk {tu tt:TypeId} {W:PW} {l:List Value} {s:Sl} {x:Mdl} (h1:IsPoly tu tt W s x.1) (h2:SpV tu W l x.2):MdV tu tt W (s.v :: l) x:=⟨s,l,rfl,h1,h2⟩
theorem MdV.zero {tu tt:TypeId} (W:PW):MdV tu tt W [.slice none 0 0,.slice none 0 0,.bool false,.slice none 0 0,.slice none 0 0,.bool false,.slice none 0 0] mdlZ:=⟨⟨none,0,0⟩,_,rfl,IsPoly.nil W,SpV.zero W⟩
theorem MdV.out {tu tt:TypeId} {W:PW} {l:List Value} {x:Mdl} {B:Bool} {K:Sl→Sl→Bool→Sl→Sl→Bool→Sl→Bool→Prop} (h:MdV tu tt W l x) (k: ∀p s b t s' b' t',MdV tu tt W [p.v,s.v,.bool b,t.v,s'.v,.bool b',t'.v] x→IsPoly tu tt W p x.1→SpV tu W [s.v,.bool b,t.v,s'.v,.bool b',t'.v] x.2→K p s b t s' b' t' B):
  ∃(p:Sl) (s:Sl) (b:Bool) (t s':Sl) (b':Bool) (t':Sl) (c:Bool),Value.tuple ⟨[.agg ⟨l⟩,.bool B]⟩ = .tuple ⟨[.agg ⟨[p.v,s.v,.bool b,t.v,s'.v,.bool b',t'.v]⟩,.bool c]⟩∧K p s b t s' b' t' c:=by
 obtain⟨p,l',rfl,h1,s,b,t,s',b',t',rfl,h2,h3⟩:=h
 exact⟨p,s,b,t,s',b',t',B,rfl,k p s b t s' b' t' (MdV.mk h1 (SpV.mk h2 h3)) h1 (SpV.mk h2 h3)⟩
theorem MdV.out1 {tu tt:TypeId} {W:PW} {l:List Value} {x:Mdl} {K:Sl→Sl→Bool→Sl→Sl→Bool→Sl→Prop} (h:MdV tu tt W l x) (k: ∀p s b t s' b' t',MdV tu tt W [p.v,s.v,.bool b,t.v,s'.v,.bool b',t'.v] x→IsPoly tu tt W p x.1→SpV tu W [s.v,.bool b,t.v,s'.v,.bool b',t'.v] x.2→K p s b t s' b' t'):
  ∃(p:Sl) (s:Sl) (b:Bool) (t s':Sl) (b':Bool) (t':Sl),Value.agg ⟨l⟩ = .agg ⟨[p.v,s.v,.bool b,t.v,s'.v,.bool b',t'.v]⟩∧K p s b t s' b' t':=by
 obtain⟨p,l',rfl,h1,s,b,t,s',b',t',rfl,h2,h3⟩:=h
 exact⟨p,s,b,t,s',b',t',rfl,k p s b t s' b' t' (MdV.mk h1 (SpV.mk h2 h3)) h1 (SpV.mk h2 h3)⟩
def DomV (tu:TypeId) (W:PW) (l:List Value) (b:Nat→Iv) (n:Int):Prop:=∃l',l=l' ++ [.int .i64 n]∧DmV tu W l' b
theorem DomV.mk {tu:TypeId} {W:PW} {l:List Value} {b:Nat→Iv} {n:Int} (h:DmV tu W l b):DomV tu W (l ++ [.int .i64 n]) b n:=⟨l,rfl,h⟩
theorem DomV.ext {tu:TypeId} {W W':PW} {l:List Value} {b:Nat→Iv} {n:Int} (h:DomV tu W l b n) (hE:Ext W W'):DomV tu W' l b n:=let⟨l',e,h⟩:=h;⟨l',e,h.ext hE⟩
def RDomV (tu:TypeId) (W:PW) (l:List Value) (b:Nat→Iv) (n:Int):Prop:=∃l',l=l' ++ [.int .i64 n]∧RDmV tu W l' b
theorem RDomV.mk {tu:TypeId} {W:PW} {l:List Value} {b:Nat→Iv} {n:Int} (h:RDmV tu W l b):RDomV tu W (l ++ [.int .i64 n]) b n:=⟨l,rfl,h⟩
theorem RDomV.ext {tu:TypeId} {W W':PW} {l:List Value} {b:Nat→Iv} {n:Int} (h:RDomV tu W l b n) (hE:Ext W W'):RDomV tu W' l b n:=let⟨l',e,h⟩:=h;⟨l',e,h.ext hE⟩
theorem DmV.take {tu:TypeId} {W:PW} {l:List Value} {b:Nat→Iv} (h:DmV tu W l b) {j:Nat} (hj:j<3): ∃(s:Sl) (c:Bool) (t s':Sl) (c':Bool) (t':Sl),List.take 6 (List.drop (Int.toNat (j:Int)*6) l) = [s.v,.bool c,t.v,s'.v,.bool c',t'.v]∧IsRat tu W s c t (b j).1∧IsRat tu W s' c' t' (b j).2:=by
 obtain⟨s0,b0,t0,s1,b1,t1,s2,b2,t2,s3,b3,t3,s4,b4,t4,s5,b5,t5,rfl,h1,h2,h3⟩:=h
 rcases(by omega:j=0∨j=1∨j=2) with rfl | rfl | rfl
 ·obtain⟨_,_,_,_,_,_,e,k1,k2⟩:=h1
  exact⟨_,_,_,_,_,_,e,k1,k2⟩
 ·obtain⟨_,_,_,_,_,_,e,k1,k2⟩:=h2
  exact⟨_,_,_,_,_,_,e,k1,k2⟩
 ·obtain⟨_,_,_,_,_,_,e,k1,k2⟩:=h3
  exact⟨_,_,_,_,_,_,e,k1,k2⟩
theorem RDmV.ends {tu:TypeId} {W:PW} {l m:List Value} {b:Nat→Iv} (h:RDmV tu W l b) {j:Nat} (hj:j<3): ∃(c:Bool) (s t:Sl) (c':Bool) (s' t':Sl),BoxAt (l ++ m) (0+Int.toNat (j:Int)*6+0) [.bool c,s.v,t.v]∧BoxAt (l ++ m) (0+Int.toNat (j:Int)*6+3) [.bool c',s'.v,t'.v]∧IsRefQ tu W c s t (b j).1∧IsRefQ tu W c' s' t' (b j).2:=by
 obtain⟨s0,b0,t0,s1,b1,t1,s2,b2,t2,s3,b3,t3,s4,b4,t4,s5,b5,t5,rfl,h1,h2,h3⟩:=h
 rcases(by omega:j=0∨j=1∨j=2) with rfl | rfl | rfl
 ·exact⟨_,_,_,_,_,_,⟨by simp,rfl⟩,⟨by simp,rfl⟩,h1.two⟩
 ·exact⟨_,_,_,_,_,_,⟨by simp,rfl⟩,⟨by simp,rfl⟩,h2.two⟩
 ·exact⟨_,_,_,_,_,_,⟨by simp,rfl⟩,⟨by simp,rfl⟩,h3.two⟩
theorem dom_out {tu:TypeId} {W:PW} {l l':List Value} {b:Nat→Iv} {n:Int} {ok:Bool} {K:Sl→Bool→Sl→Sl→Bool→Sl→Sl→Bool→Sl→Sl→Bool→Sl→Sl→Bool→Sl→Sl→Bool→Sl→Int→Bool→Sl→Sl→Bool→Sl→Sl→Bool→Sl→Sl→Bool→Sl→Sl→Bool→Sl→Sl→Bool→Sl→Sl→Int→Bool→Prop} (h:DomV tu W l b n) (h':RDomV tu W l' b n)
  (k: ∀(xs0:Sl) (xb0:Bool) (xt0:Sl) (xs1:Sl) (xb1:Bool) (xt1:Sl) (xs2:Sl) (xb2:Bool) (xt2:Sl) (xs3:Sl) (xb3:Bool) (xt3:Sl) (xs4:Sl) (xb4:Bool) (xt4:Sl) (xs5:Sl) (xb5:Bool) (xt5:Sl) (yb0:Bool) (ys0 yt0:Sl) (yb1:Bool) (ys1 yt1:Sl) (yb2:Bool) (ys2 yt2:Sl) (yb3:Bool) (ys3 yt3:Sl) (yb4:Bool) (ys4 yt4:Sl) (yb5:Bool) (ys5 yt5:Sl),DomV tu W [xs0.v,.bool xb0,xt0.v,xs1.v,.bool xb1,xt1.v,xs2.v,.bool xb2,xt2.v,xs3.v,.bool xb3,xt3.v,xs4.v,.bool xb4,xt4.v,xs5.v,.bool xb5,xt5.v,.int .i64 n] b n→RDomV tu W [.bool yb0,ys0.v,yt0.v,.bool yb1,ys1.v,yt1.v,.bool yb2,ys2.v,yt2.v,.bool yb3,ys3.v,yt3.v,.bool yb4,ys4.v,yt4.v,.bool yb5,ys5.v,yt5.v,.int .i64 n] b n→K xs0 xb0 xt0 xs1 xb1 xt1 xs2 xb2 xt2 xs3 xb3 xt3 xs4 xb4 xt4 xs5 xb5 xt5 n yb0 ys0 yt0 yb1 ys1 yt1 yb2 ys2 yt2 yb3 ys3 yt3 yb4 ys4 yt4 yb5 ys5 yt5 n ok):
  ∃(xs0:Sl) (xb0:Bool) (xt0:Sl) (xs1:Sl) (xb1:Bool) (xt1:Sl) (xs2:Sl) (xb2:Bool) (xt2:Sl) (xs3:Sl) (xb3:Bool) (xt3:Sl) (xs4:Sl) (xb4:Bool) (xt4:Sl) (xs5:Sl) (xb5:Bool) (xt5:Sl) (n1:Int) (yb0:Bool) (ys0 yt0:Sl) (yb1:Bool) (ys1 yt1:Sl) (yb2:Bool) (ys2 yt2:Sl) (yb3:Bool) (ys3 yt3:Sl) (yb4:Bool) (ys4 yt4:Sl) (yb5:Bool) (ys5 yt5:Sl) (n2:Int) (c:Bool),Value.tuple ⟨[.agg ⟨l⟩,.agg ⟨l'⟩,.bool ok]⟩ = .tuple ⟨[.agg ⟨[xs0.v,.bool xb0,xt0.v,xs1.v,.bool xb1,xt1.v,xs2.v,.bool xb2,xt2.v,xs3.v,.bool xb3,xt3.v,xs4.v,.bool xb4,xt4.v,xs5.v,.bool xb5,xt5.v,.int .i64 n1]⟩,.agg ⟨[.bool yb0,ys0.v,yt0.v,.bool yb1,ys1.v,yt1.v,.bool yb2,ys2.v,yt2.v,.bool yb3,ys3.v,yt3.v,.bool yb4,ys4.v,yt4.v,.bool yb5,ys5.v,yt5.v,.int .i64 n2]⟩,.bool c]⟩∧K xs0 xb0 xt0 xs1 xb1 xt1 xs2 xb2 xt2 xs3 xb3 xt3 xs4 xb4 xt4 xs5 xb5 xt5 n1 yb0 ys0 yt0 yb1 ys1 yt1 yb2 ys2 yt2 yb3 ys3 yt3 yb4 ys4 yt4 yb5 ys5 yt5 n2 c:=by
 obtain⟨_,rfl,hb⟩:=h
 obtain⟨_,rfl,hb'⟩:=h'
 have g:=hb
 have g':=hb'
 obtain⟨xs0,xb0,xt0,xs1,xb1,xt1,xs2,xb2,xt2,xs3,xb3,xt3,xs4,xb4,xt4,xs5,xb5,xt5,rfl,_⟩:=hb
 obtain⟨yb0,ys0,yt0,yb1,ys1,yt1,yb2,ys2,yt2,yb3,ys3,yt3,yb4,ys4,yt4,yb5,ys5,yt5,rfl,_⟩:=hb'
 exact⟨xs0,xb0,xt0,xs1,xb1,xt1,xs2,xb2,xt2,xs3,xb3,xt3,xs4,xb4,xt4,xs5,xb5,xt5,n,yb0,ys0,yt0,yb1,ys1,yt1,yb2,ys2,yt2,yb3,ys3,yt3,yb4,ys4,yt4,yb5,ys5,yt5,n,ok,rfl,k xs0 xb0 xt0 xs1 xb1 xt1 xs2 xb2 xt2 xs3 xb3 xt3 xs4 xb4 xt4 xs5 xb5 xt5 yb0 ys0 yt0 yb1 ys1 yt1 yb2 ys2 yt2 yb3 ys3 yt3 yb4 ys4 yt4 yb5 ys5 yt5 (DomV.mk g) (RDomV.mk g')⟩
theorem DomV.set0 {tu:TypeId} {W:PW} {s0 t0 s1 t1 s2 t2 s3 t3 s4 t4 s5 t5 u v u' v':Sl} {b0 b1 b2 b3 b4 b5 c c':Bool} {b:Nat→Iv} {n n':Int} {x:Iv}
  (h:DomV tu W [s0.v,.bool b0,t0.v,s1.v,.bool b1,t1.v,s2.v,.bool b2,t2.v,s3.v,.bool b3,t3.v,s4.v,.bool b4,t4.v,s5.v,.bool b5,t5.v,.int .i64 n'] b n) (hx:SpV tu W [u.v,.bool c,v.v,u'.v,.bool c',v'.v] x):
  DomV tu W [u.v,.bool c,v.v,u'.v,.bool c',v'.v,s2.v,.bool b2,t2.v,s3.v,.bool b3,t3.v,s4.v,.bool b4,t4.v,s5.v,.bool b5,t5.v,.int .i64 n'] (fun k=>if k=0 then x else b k) n∧
  DomV tu W [s0.v,.bool b0,t0.v,s1.v,.bool b1,t1.v,u.v,.bool c,v.v,u'.v,.bool c',v'.v,s4.v,.bool b4,t4.v,s5.v,.bool b5,t5.v,.int .i64 n'] (fun k=>if k=1 then x else b k) n∧
  DomV tu W [s0.v,.bool b0,t0.v,s1.v,.bool b1,t1.v,s2.v,.bool b2,t2.v,s3.v,.bool b3,t3.v,u.v,.bool c,v.v,u'.v,.bool c',v'.v,.int .i64 n'] (fun k=>if k=2 then x else b k) n:=by
 obtain⟨_,e,y0,c0,z0,y1,c1,z1,y2,c2,z2,y3,c3,z3,y4,c4,z4,y5,c5,z5,rfl,h0,h1,h2⟩:=h
 simp only[List.cons_append,List.nil_append,List.cons.injEq,Value.bool.injEq,Value.int.injEq,true_and,and_true] at e
 obtain⟨a0,a1,a2,a3,a4,a5,a6,a7,a8,a9,a10,a11,a12,a13,a14,a15,a16,a17,a18⟩:=e
 obtain rfl:=Sl.v_inj a0
 obtain rfl:=Sl.v_inj a2
 obtain rfl:=Sl.v_inj a3
 obtain rfl:=Sl.v_inj a5
 obtain rfl:=Sl.v_inj a6
 obtain rfl:=Sl.v_inj a8
 obtain rfl:=Sl.v_inj a9
 obtain rfl:=Sl.v_inj a11
 obtain rfl:=Sl.v_inj a12
 obtain rfl:=Sl.v_inj a14
 obtain rfl:=Sl.v_inj a15
 obtain rfl:=Sl.v_inj a17
 subst a1 a4 a7 a10 a13 a16 a18
 exact⟨DomV.mk (b:=fun k=>if k=0 then x else b k) ⟨_,_,_,_,_,_,_,_,_,_,_,_,_,_,_,_,_,_,rfl,hx,h1,h2⟩,DomV.mk (b:=fun k=>if k=1 then x else b k) ⟨_,_,_,_,_,_,_,_,_,_,_,_,_,_,_,_,_,_,rfl,h0,hx,h2⟩,DomV.mk (b:=fun k=>if k=2 then x else b k) ⟨_,_,_,_,_,_,_,_,_,_,_,_,_,_,_,_,_,_,rfl,h0,h1,hx⟩⟩
theorem RDomV.set0 {tu:TypeId} {W:PW} {s0 t0 s1 t1 s2 t2 s3 t3 s4 t4 s5 t5 u v u' v':Sl} {b0 b1 b2 b3 b4 b5 c c':Bool} {b:Nat→Iv} {n n':Int} {x:Iv}
  (h:RDomV tu W [.bool b0,s0.v,t0.v,.bool b1,s1.v,t1.v,.bool b2,s2.v,t2.v,.bool b3,s3.v,t3.v,.bool b4,s4.v,t4.v,.bool b5,s5.v,t5.v,.int .i64 n'] b n) (hx:RSpV tu W [.bool c,u.v,v.v,.bool c',u'.v,v'.v] x):
  RDomV tu W [.bool c,u.v,v.v,.bool c',u'.v,v'.v,.bool b2,s2.v,t2.v,.bool b3,s3.v,t3.v,.bool b4,s4.v,t4.v,.bool b5,s5.v,t5.v,.int .i64 n'] (fun k=>if k=0 then x else b k) n∧
  RDomV tu W [.bool b0,s0.v,t0.v,.bool b1,s1.v,t1.v,.bool c,u.v,v.v,.bool c',u'.v,v'.v,.bool b4,s4.v,t4.v,.bool b5,s5.v,t5.v,.int .i64 n'] (fun k=>if k=1 then x else b k) n∧
  RDomV tu W [.bool b0,s0.v,t0.v,.bool b1,s1.v,t1.v,.bool b2,s2.v,t2.v,.bool b3,s3.v,t3.v,.bool c,u.v,v.v,.bool c',u'.v,v'.v,.int .i64 n'] (fun k=>if k=2 then x else b k) n:=by
 obtain⟨_,e,y0,c0,z0,y1,c1,z1,y2,c2,z2,y3,c3,z3,y4,c4,z4,y5,c5,z5,rfl,h0,h1,h2⟩:=h
 simp only[List.cons_append,List.nil_append,List.cons.injEq,Value.bool.injEq,Value.int.injEq,true_and,and_true] at e
 obtain⟨a0,a1,a2,a3,a4,a5,a6,a7,a8,a9,a10,a11,a12,a13,a14,a15,a16,a17,a18⟩:=e
 obtain rfl:=Sl.v_inj a1
 obtain rfl:=Sl.v_inj a2
 obtain rfl:=Sl.v_inj a4
 obtain rfl:=Sl.v_inj a5
 obtain rfl:=Sl.v_inj a7
 obtain rfl:=Sl.v_inj a8
 obtain rfl:=Sl.v_inj a10
 obtain rfl:=Sl.v_inj a11
 obtain rfl:=Sl.v_inj a13
 obtain rfl:=Sl.v_inj a14
 obtain rfl:=Sl.v_inj a16
 obtain rfl:=Sl.v_inj a17
 subst a0 a3 a6 a9 a12 a15 a18
 exact⟨RDomV.mk (b:=fun k=>if k=0 then x else b k) ⟨_,_,_,_,_,_,_,_,_,_,_,_,_,_,_,_,_,_,rfl,hx,h1,h2⟩,RDomV.mk (b:=fun k=>if k=1 then x else b k) ⟨_,_,_,_,_,_,_,_,_,_,_,_,_,_,_,_,_,_,rfl,h0,hx,h2⟩,RDomV.mk (b:=fun k=>if k=2 then x else b k) ⟨_,_,_,_,_,_,_,_,_,_,_,_,_,_,_,_,_,_,rfl,h0,h1,hx⟩⟩
theorem DomV.zero {tu:TypeId} (W:PW) (n:Int):DomV tu W [.slice none 0 0,.bool false,.slice none 0 0,.slice none 0 0,.bool false,.slice none 0 0,.slice none 0 0,.bool false,.slice none 0 0,.slice none 0 0,.bool false,.slice none 0 0,.slice none 0 0,.bool false,.slice none 0 0,.slice none 0 0,.bool false,.slice none 0 0,.int .i64 n] (fun _=>(0,0)) n:=
 ⟨[.slice none 0 0,.bool false,.slice none 0 0,.slice none 0 0,.bool false,.slice none 0 0,.slice none 0 0,.bool false,.slice none 0 0,.slice none 0 0,.bool false,.slice none 0 0,.slice none 0 0,.bool false,.slice none 0 0,.slice none 0 0,.bool false,.slice none 0 0],rfl,⟨none,0,0⟩,false,⟨none,0,0⟩,⟨none,0,0⟩,false,⟨none,0,0⟩,⟨none,0,0⟩,false,⟨none,0,0⟩,⟨none,0,0⟩,false,⟨none,0,0⟩,⟨none,0,0⟩,false,⟨none,0,0⟩,⟨none,0,0⟩,false,⟨none,0,0⟩,rfl,SpV.zero W,SpV.zero W,SpV.zero W⟩
theorem RDomV.zero {tu:TypeId} (W:PW) (n:Int):RDomV tu W [.bool false,.slice none 0 0,.slice none 0 0,.bool false,.slice none 0 0,.slice none 0 0,.bool false,.slice none 0 0,.slice none 0 0,.bool false,.slice none 0 0,.slice none 0 0,.bool false,.slice none 0 0,.slice none 0 0,.bool false,.slice none 0 0,.slice none 0 0,.int .i64 n] (fun _=>(0,0)) n:=
 ⟨[.bool false,.slice none 0 0,.slice none 0 0,.bool false,.slice none 0 0,.slice none 0 0,.bool false,.slice none 0 0,.slice none 0 0,.bool false,.slice none 0 0,.slice none 0 0,.bool false,.slice none 0 0,.slice none 0 0,.bool false,.slice none 0 0,.slice none 0 0],rfl,false,⟨none,0,0⟩,⟨none,0,0⟩,false,⟨none,0,0⟩,⟨none,0,0⟩,false,⟨none,0,0⟩,⟨none,0,0⟩,false,⟨none,0,0⟩,⟨none,0,0⟩,false,⟨none,0,0⟩,⟨none,0,0⟩,false,⟨none,0,0⟩,⟨none,0,0⟩,rfl,RSpV.zero W,RSpV.zero W,RSpV.zero W⟩
end Go.SX

/- Three models in memory. -/
set_option linter.unusedVariables false
namespace Go.SX
def M3V (tu tt:TypeId) (W:PW) (l:List Value) (y:Nat→Mdl):Prop:=∃(p0 s0:Sl) (a0:Bool) (t0 u0:Sl) (b0:Bool) (w0:Sl) (p1 s1:Sl) (a1:Bool) (t1 u1:Sl) (b1:Bool) (w1:Sl) (p2 s2:Sl) (a2:Bool) (t2 u2:Sl) (b2:Bool) (w2:Sl),l = [p0.v,s0.v,.bool a0,t0.v,u0.v,.bool b0,w0.v,p1.v,s1.v,.bool a1,t1.v,u1.v,.bool b1,w1.v,p2.v,s2.v,.bool a2,t2.v,u2.v,.bool b2,w2.v]∧MdV tu tt W [p0.v,s0.v,.bool a0,t0.v,u0.v,.bool b0,w0.v] (y 0)∧MdV tu tt W [p1.v,s1.v,.bool a1,t1.v,u1.v,.bool b1,w1.v] (y 1)∧MdV tu tt W [p2.v,s2.v,.bool a2,t2.v,u2.v,.bool b2,w2.v] (y 2)
theorem M3V.ext {tu tt:TypeId} {W W':PW} {l:List Value} {y:Nat→Mdl} (h:M3V tu tt W l y) (hE:Ext W W'):M3V tu tt W' l y:=by
 obtain⟨p0,s0,a0,t0,u0,b0,w0,p1,s1,a1,t1,u1,b1,w1,p2,s2,a2,t2,u2,b2,w2,e,h0,h1,h2⟩:=h
 exact⟨p0,s0,a0,t0,u0,b0,w0,p1,s1,a1,t1,u1,b1,w1,p2,s2,a2,t2,u2,b2,w2,e,h0.ext hE,h1.ext hE,h2.ext hE⟩
theorem M3V.box {tu tt:TypeId} {W:PW} {l:List Value} {y:Nat→Mdl} (h:M3V tu tt W l y) {j:Nat} (hj:j<3): ∃(p0 s0:Sl) (a0:Bool) (t0 u0:Sl) (b0:Bool) (w0:Sl),BoxAt l (0+Int.toNat (j:Int)*7+0) [p0.v,s0.v,.bool a0,t0.v,u0.v,.bool b0,w0.v]∧MdV tu tt W [p0.v,s0.v,.bool a0,t0.v,u0.v,.bool b0,w0.v] (y j):=by
 obtain⟨p0,s0,a0,t0,u0,b0,w0,p1,s1,a1,t1,u1,b1,w1,p2,s2,a2,t2,u2,b2,w2,rfl,h0,h1,h2⟩:=h
 rcases(by omega:j=0∨j=1∨j=2) with rfl | rfl | rfl
 ·exact⟨_,_,_,_,_,_,_,⟨by simp,rfl⟩,h0⟩
 ·exact⟨_,_,_,_,_,_,_,⟨by simp,rfl⟩,h1⟩
 ·exact⟨_,_,_,_,_,_,_,⟨by simp,rfl⟩,h2⟩
end Go.SX
