import Derived.Test.YtkgeopnakkcdoaaGreatLib3
import Derived.Test.YtkgeopnakkcdoaaGreatSx1
import Derived.Test.YtkgeopnakkcdoaaGreatLib2
import Derived.JoinedCond
set_option linter.unusedVariables false
set_option linter.unusedSimpArgs false
namespace Go.SX
def Fd0 (w:Mon->Int) (n:Int) (p:List Tm):Int:=p.foldl (λ a t=>mx a (w t.1)) n
theorem Em4 (w:Mon->Int)(n:Int)(l:List Tm)(t:Tm):Fd0 w n (l ++ [t])=mx (Fd0 w n l) (w t.1):=by simp[Fd0]
theorem Hv3 {p:List Tm}{w:Mon->Int}{n:Int}:n<=Fd0 w n p/\∀t∈p,w t.1<=Fd0 w n p:=by
 induction p generalizing n with
 | nil=>exact⟨Int.le_refl _,by simp⟩
 | cons t r ih=>
  have:=ih (n:=mx n (w t.1));have e:Fd0 w n (t::r)=Fd0 w (mx n (w t.1)) r:=rfl;rw[e];have h1:n<=mx n (w t.1)/\w t.1<=mx n (w t.1):=by unfold mx;split<;>omega
  refine⟨by omega,λ u hu=>?_⟩;rcases List.mem_cons.1 hu with rfl | hu
  ·omega
  ·exact this.2 u hu
end Go.SX
namespace Go.SX
variable {a:ByteArray}{k m:Nat}{q:Rat}
theorem Bg1 {x:Nat}(h:Ad2 a=some x)(c:a.size<=m)(hm:10^m<=B^k):nl x<=k:=by
 obtain⟨h1,_⟩:=Bq9 h;exact Bc6 (Nat.lt_of_lt_of_le h1 (Nat.le_trans (Nat.pow_le_pow_right (by decide) c) hm))
theorem Cf0 {z:Int}(h:Ac3 a=some z)(d:a.size<=m)(hm:10^m<=B^k):nl z.natAbs<=k:=by
 unfold Ac3 at h;split at h
 ·split at h
  ·rename_i x f
   split at h
   ·cases h
   ·cases h;rw[Int.natAbs_neg,Int.natAbs_natCast];exact Bg1 f (by rw[ByteArray.size_extract];omega) hm
  ·cases h
 ·cases c:Ad2 a with
  | none=>rw[c] at h;cases h
  | some x=>
   rw[c] at h;cases h;exact Bg1 c d hm
theorem Du4 (h:Ab7 a=some q)(f:a.size<=m)(hm:10^m<=B^k)(hk:1<=k):Sz k q:=by
 unfold Ab7 at h;split at h
 ·cases c:Ac3 a with
  | none=>rw[c] at h;cases h
  | some z=>
   rw[c] at h;cases h;exact⟨by rw[Rat.num_intCast];exact Cf0 c f hm,by rw[Rat.den_intCast,Ax0];omega⟩
 ·split at h
  ·rename_i n d g o
   split at h
   ·cases h
   ·rename_i i _ u
    cases h;have r:d≠0:=by omega
    exact Sz.mk (Cf0 g (by rw[ByteArray.size_extract];omega) hm) (Bg1 o (by rw[ByteArray.size_extract];omega) hm) r
  ·cases h
theorem Ct3 (h:Ab7 a=some q)(c:a.size<=30):Sz 4 q:=Du4 h c (by decide) (by decide)
end Go.SX
namespace Go.SX
variable {T:List (List (Mon×ByteArray))}{W W':PW}{i:Int}{p:List Tm}{ps:List (List Tm)}{s:Sl}{tu:TypeId}{x:List Value}
def Jz1 (W:PW) (s:Sl) (T:List (List (Mon×ByteArray))):Prop:=∃c:List Sl,Bf9 W 1 s (c.map λ x=>[x.v])/\c.length=T.length/\∀i (h:i<c.length) (d:i<T.length),Af3 W c[i] T[i]
theorem Jz1.ext (h:Jz1 W s T)(c:Ext W W'):Jz1 W' s T:=let⟨d,h1,f,g⟩:=h;⟨d,h1.ext c,f,λ i a b=>(g i a b).ext c⟩
theorem Jz1.n (h:Jz1 W s T):s.n=T.length:=by
 obtain⟨c,⟨_,h1⟩,d,_⟩:=h;have:=h1.1;rw[List.length_map] at this;omega
theorem Jz1.inB (h:Jz1 W s T)(c:0<=i)(h1:i<(T.length:Int)):SX.inB s i:=by
 obtain⟨d,⟨_,g1⟩,g2,_⟩:=h;exact g1.inB c (by rw[List.length_map];omega)
theorem Jz1.at (h:Jz1 W s T){i:Nat}(hi:i<T.length): ∃x:Sl,Aa7 W s 1 i 0 [x.v]/\Af3 W x T[i]:=by
 obtain⟨c,⟨_,g1⟩,g2,g3⟩:=h;have d:i<c.length:=by omega
 exact⟨c[i],g1.part (x:=[c[i].v]) (by rw[List.getElem?_map,List.getElem?_eq_getElem d];rfl) 0 rfl,g3 i d hi⟩
def Gx4 (tu tt:TypeId) (W:PW) (x:List Value) (p:List Tm):Prop:=∃s:Sl,x = [s.v]/\Ab0 tu tt W s p
def Ke9 (tu tt:TypeId) (W:PW) (x:List Value) (p:List Tm):Prop:=∃s:Sl,x = [s.v]/\Ag1 tu tt W s p
theorem Gx4.ext {tt:TypeId}(h:Gx4 tu tt W x p)(c:Ext W W'):Gx4 tu tt W' x p:=let⟨s,e,h⟩:=h;⟨s,e,h.ext c⟩
theorem Ke9.ext {tt:TypeId}(h:Ke9 tu tt W x p)(c:Ext W W'):Ke9 tu tt W' x p:=let⟨s,e,h⟩:=h;⟨s,e,h.ext c⟩
def Gf4 (tu tt:TypeId) (W:PW) (s:Sl) (ps:List (List Tm)):Prop:=∃xs,Bf9 W 1 s xs/\An5 (Gx4 tu tt W) xs ps
def Jz0 (tu tt:TypeId) (W:PW) (s:Sl) (ps:List (List Tm)):Prop:=∃xs,Bf9 W 1 s xs/\An5 (Ke9 tu tt W) xs ps
theorem Gf4.ext {tt:TypeId}(h:Gf4 tu tt W s ps)(c:Ext W W'):Gf4 tu tt W' s ps:=let⟨xs,h1,d⟩:=h;⟨xs,h1.ext c,d.mono λ _ _ h=>h.ext c⟩
theorem Jz0.ext {tt:TypeId}(h:Jz0 tu tt W s ps)(c:Ext W W'):Jz0 tu tt W' s ps:=let⟨xs,h1,d⟩:=h;⟨xs,h1.ext c,d.mono λ _ _ h=>h.ext c⟩
theorem Gf4.n {tt:TypeId}(h:Gf4 tu tt W s ps):s.n=ps.length:=let⟨xs,⟨_,h1⟩,c⟩:=h;h1.1.trans c.len
theorem Jz0.n {tt:TypeId}(h:Jz0 tu tt W s ps):s.n=ps.length:=let⟨xs,⟨_,h1⟩,c⟩:=h;h1.1.trans c.len
theorem Gf4.inB {tt:TypeId}(h:Gf4 tu tt W s ps)(c:0<=i)(h1:i<(ps.length:Int)):SX.inB s i:=let⟨xs,⟨_,d⟩,f⟩:=h;d.inB c (by rw[f.len];exact h1)
theorem Jz0.inB {tt:TypeId}(h:Jz0 tu tt W s ps)(c:0<=i)(h1:i<(ps.length:Int)):SX.inB s i:=let⟨xs,⟨_,d⟩,f⟩:=h;d.inB c (by rw[f.len];exact h1)
theorem Gf4.at {tt:TypeId}(h:Gf4 tu tt W s ps){i:Nat}(hi:i<ps.length): ∃x:Sl,Aa7 W s 1 i 0 [x.v]/\Ab0 tu tt W x ps[i]:=by
 obtain⟨xs,⟨_,h1⟩,c⟩:=h;obtain⟨x,d,y,rfl,f⟩:=c.get (List.getElem?_eq_getElem hi);exact⟨y,h1.part d 0 rfl,f⟩
theorem Jz0.at {tt:TypeId}(h:Jz0 tu tt W s ps){i:Nat}(hi:i<ps.length): ∃x:Sl,Aa7 W s 1 i 0 [x.v]/\Ag1 tu tt W x ps[i]:=by
 obtain⟨xs,⟨_,h1⟩,c⟩:=h;obtain⟨x,d,y,rfl,f⟩:=c.get (List.getElem?_eq_getElem hi);exact⟨y,h1.part d 0 rfl,f⟩
theorem Gf4.nil {tt:TypeId}(W:PW):Gf4 tu tt W ⟨none,0,0⟩ []:=⟨[],⟨0,rfl,Nat.le_refl _,Nat.zero_le _,λ x h=>by simp at h,.inl rfl⟩,trivial⟩
end Go.SX
namespace Go.SX
def Mon.code (m:Mon):Nat:=(m.x*65536+m.y*256+m.z).toNat
theorem Mon.Gy9 {m:Mon}(h:m.ok):m.code<16777216:=by unfold Mon.code;unfold Mon.ok at h;omega
theorem Mon.Gw9 {a:Mon}{b:Mon}(c:a.ok)(d:b.ok)(h:a.code=b.code):a=b:=by
 unfold Mon.code at h;unfold Mon.ok at c d;exact Mon.Fp2 (by omega) (by omega) (by omega)
theorem Gj2: ∀{n:Nat} {l:List Nat} (_:l.Nodup) (_: ∀x∈l,x<n),l.length<=n
 | 0,l,_,h=>by
  cases l with
  | nil=>exact Nat.le_refl _
  | cons x r=>exact absurd (h x (by simp)) (Nat.not_lt_zero x)
 | n+1,l,c,h=>by
  have h1:=Gj2 (n:=n) (l:=l.filter λ x=>x != n) (c.sublist List.filter_sublist) λ x d=>by
   obtain⟨a,b⟩:=List.mem_filter.1 d;have:=h x a;simp at b;omega
  have f:l.length<=(l.filter λ x=>x != n).length+1:=by
   clear h1 h
   induction l with
   | nil=>simp
   | cons y r ih=>
    rw[List.nodup_cons] at c
    by_cases e:y=n
    ·subst e
     have:(r.filter λ x=>x != y)=r:=List.filter_eq_self.2 λ x d=>by
      have:x≠y:=λ e=>c.1 (e ▸ d)
      simpa using this
     simp[this]
    ·have:=ih c.2
     simp[e];omega
  omega
theorem Av6.len {p:List Tm}(h:Av6 p)(c:POk p):p.length<=16777216:=by
 have h1:(p.map λ t=>t.1.code).Nodup:=by
  have:p.Pairwise λ a b=>a.1.code≠b.1.code:=by
   refine List.Pairwise.imp_of_mem ?_ h.srt;intro a b d f g e;exact Mon.Eg6 g (Mon.Gw9 (c a d) (c b f) e)
  exact List.pairwise_map.2 this
 have:=Gj2 h1 λ x n=>by
  obtain⟨t,o,rfl⟩:=List.mem_map.1 n;exact Mon.Gy9 (c t o)
 simpa using this
end Go.SX
namespace Go.SX
variable {D E M N N' e k k':Nat}{a b q:Rat}
abbrev Iv:=Rat×Rat
variable {x y:Iv}
def Az9 (a b:Rat):Rat:=if b<a then b else a
def Au7 (a b:Rat):Rat:=if a<b then b else a
def Eb6 (q:Rat):Iv:=(q,q)
def Ag0 (a b:Rat):Iv:=(Az9 a b,Au7 a b)
def Bu9 (x y:Iv):Iv:=(Az9 x.1 y.1,Au7 x.2 y.2)
def Cb5 (x y:Iv):Iv:=(x.1+y.1,x.2+y.2)
def Ay9 (x y:Iv):Iv:=Bu9 (Ag0 (x.1*y.1) (x.2*y.2)) (Ag0 (x.1*y.2) (x.2*y.1))
def De8 (x:Iv) (r:Rat):Iv:=Ag0 (x.1*r) (x.2*r)
def Ai3 (x:Iv) (n:Nat):Iv:=if 0<n/\n%2=0/\x.1<=0/\0<=x.2 then(0,Au7 (x.1^n) (x.2^n)) else Ag0 (x.1^n) (x.2^n)
theorem Dj0 (a b:Rat):Az9 a b=a\/Az9 a b=b:=by unfold Az9;split<;>simp
theorem Dj7 (a b:Rat):Au7 a b=a\/Au7 a b=b:=by unfold Au7;split<;>simp
theorem Dh5 (a b:Rat):Az9 a b<=a/\Az9 a b<=b:=by unfold Az9;split<;>grind
theorem Cl6 (a b:Rat):a<=Au7 a b/\b<=Au7 a b:=by unfold Au7;split<;>grind
def Au6 (D N:Nat) (x:Iv):Prop:=Ak3 D N x.1/\Ak3 D N x.2
def BdI (k:Nat) (x:Iv):Prop:=∃D N,Au6 D N x/\D≠0/\nl D<=k/\nl N<=k
theorem Ak3.Az9 (h:Ak3 D N a)(k:Ak3 D N b):Ak3 D N (Az9 a b):=by rcases Dj0 a b with e | e<;>rw[e]<;>assumption
theorem Ak3.Au7 (h:Ak3 D N a)(k:Ak3 D N b):Ak3 D N (Au7 a b):=by rcases Dj7 a b with e | e<;>rw[e]<;>assumption
theorem Au6.mono (h:Au6 D N x)(c:N<=N'):Au6 D N' x:=⟨h.1.mono c,h.2.mono c⟩
theorem Au6.scale (h:Au6 D N x)(E:Nat):Au6 (D*E) (N*E) x:=⟨h.1.scale E,h.2.scale E⟩
theorem Au6.add (h:Au6 D N x)(k:Au6 D N' y):Au6 D (N+N') (Cb5 x y):=⟨h.1.add k.1,h.2.add k.2⟩
theorem Au6.Em8 (h:Ak3 D N a)(k:Ak3 D N b):Au6 D N (Ag0 a b):=⟨h.Az9 k,h.Au7 k⟩
theorem Au6.Fv1 (h:Au6 D N x)(k:Au6 D N y):Au6 D N (Bu9 x y):=⟨h.1.Az9 k.1,h.2.Au7 k.2⟩
theorem Au6.mul (h:Au6 D N x)(k:Au6 E M y):Au6 (D*E) (N*M) (Ay9 x y):=
 Au6.Fv1 (Au6.Em8 (h.1.mul k.1) (h.2.mul k.2)) (Au6.Em8 (h.1.mul k.2) (h.2.mul k.1))
theorem Sz.Fe7 (h:Sz k q)(n:Nat):Sz (k*n+1) (q^n):=by
 induction n with
 | zero=>rw[Rat.pow_zero];exact Sz.one (by omega)
 | succ n ih=>
  rw[Rat.pow_succ];exact(ih.mul h).mono (by rw[Nat.mul_add];omega)
theorem Ak3.pow (h:Ak3 D N q)(n:Nat):Ak3 (D^n) (N^n) (q^n):=by
 induction n with
 | zero=>rw[Rat.pow_zero];exact Ak3.int 1
 | succ n ih=>rw[Rat.pow_succ,Nat.pow_succ,Nat.pow_succ];exact ih.mul h
theorem Au6.pow (h:Au6 D N x)(n:Nat):Au6 (D^n) (N^n) (Ai3 x n):=by
 unfold Ai3;split
 ·exact⟨Ak3.zero,(h.1.pow n).Au7 (h.2.pow n)⟩
 ·exact Au6.Em8 (h.1.pow n) (h.2.pow n)
theorem Ch9 {x:Nat}(c:x≠0)(e:Nat):x^e≠0:=Nat.pos_iff_ne_zero.1 (Nat.pow_pos (Nat.pos_iff_ne_zero.2 c))
theorem Cf5 (a n:Nat):nl (a^n)<=nl a*n+1:=by
 induction n with
 | zero=>rw[Nat.pow_zero,Ax0];omega
 | succ n ih=>
  rw[Nat.pow_succ];have:=Ae5 (a^n) a;rw[Nat.mul_add,Nat.mul_one];omega
theorem BdI.mono (h:BdI k x)(hk:k<=k'):BdI k' x:=let⟨D,N,h1,c,d,f⟩:=h;⟨D,N,h1,c,Nat.le_trans d hk,Nat.le_trans f hk⟩
theorem BdI.sz (h:BdI k x):Sz k x.1/\Sz k x.2:=let⟨D,N,h1,c,d,f⟩:=h;⟨h1.1.sz c d f,h1.2.sz c d f⟩
theorem BdI.pt (h:Sz k q):BdI k (Eb6 q):=⟨q.den,q.num.natAbs,⟨Ak3.den q,Ak3.den q⟩,q.den_nz,h.2,h.1⟩
theorem BdI.zero (h:1<=k):BdI k (0,0):=BdI.pt (Sz.zero h)
theorem BdI.Co7 (h:Sz k x.1/\Sz k x.2):BdI (2*k+1) x:=by
 have c:=Ae5 x.1.den x.2.den;have d:=Ae5 x.1.num.natAbs x.2.den;have f:=Ae5 x.2.num.natAbs x.1.den;have g:=By9 (x.1.num.natAbs*x.2.den) (x.2.num.natAbs*x.1.den);have h1:=h.1.1;have n:=h.1.2;have o:=h.2.1;have r:=h.2.2;refine⟨x.1.den*x.2.den,x.1.num.natAbs*x.2.den+x.2.num.natAbs*x.1.den,⟨((Ak3.den x.1).scale x.2.den).mono (by omega),?_⟩,Nat.mul_ne_zero x.1.den_nz x.2.den_nz,by omega,by omega⟩;have:=(Ak3.den x.2).scale x.1.den;rw[Nat.mul_comm x.1.den];exact this.mono (by omega)
theorem BdI.mul (h:BdI k x)(c:BdI k' y):BdI (k+k') (Ay9 x y):=by
 obtain⟨D,N,h1,d,f,g⟩:=h;obtain⟨E,M,g1,g2,g3,g4⟩:=c;have n:=Ae5 D E;have o:=Ae5 N M;exact⟨D*E,N*M,h1.mul g1,Nat.mul_ne_zero d g2,by omega,by omega⟩
theorem BdI.add (h:BdI k x)(c:BdI k' y):BdI (k+k'+1) (Cb5 x y):=by
 obtain⟨D,N,h1,d,f,g⟩:=h;obtain⟨E,M,g1,g2,g3,g4⟩:=c;have n:=Ae5 D E;have o:=Ae5 N E;have r:=Ae5 M D;have u:=By9 (N*E) (M*D);have:=(h1.scale E).add (show Au6 (D*E) (M*D) y by rw[Nat.mul_comm D E];exact g1.scale D);exact⟨D*E,N*E+M*D,this,Nat.mul_ne_zero d g2,by omega,by omega⟩
theorem BdI.pow (h:BdI k x)(n:Nat):BdI (k*n+1) (Ai3 x n):=by
 obtain⟨D,N,h1,c,d,f⟩:=h;have g:=Cf5 D n;have o:=Cf5 N n;have r:=Nat.mul_le_mul_right n d;have u:=Nat.mul_le_mul_right n f;exact⟨D^n,N^n,h1.pow n,Ch9 c n,by omega,by omega⟩
def mex (m:Mon) (k:Nat):Nat:=if k=0 then m.x.toNat else if k=1 then m.y.toNat else m.z.toNat
def Ci9 (l:Nat->Iv) (t:Tm):Nat->Iv
 | 0=>Eb6 t.2
 | j+1=>if 0<mex t.1 j then Ay9 (Ci9 l t j) (Ai3 (l j) (mex t.1 j)) else Ci9 l t j
def Aq8 (l:Nat->Iv) (p:List Tm):Iv:=p.foldl (λ a t=>Cb5 a (Ci9 l t 3)) (0,0)
theorem Bt2 (l:Nat->Iv)(p:List Tm)(t:Tm):Aq8 l (p ++ [t])=Cb5 (Aq8 l p) (Ci9 l t 3):=by simp[Aq8]
theorem Ef7 {l:Nat->Iv}{t:Tm}{k m e:Nat}(c:Sz k t.2)(d: ∀i,BdI m (l i))(he: ∀i,mex t.1 i<=e): ∀j,BdI (k+j*(m*e+1)) (Ci9 l t j)
 | 0=>by rw[Nat.zero_mul,Nat.add_zero];exact BdI.pt c
 | j+1=>by
  have h1:=Ef7 c d he j;have f:=(d j).pow (mex t.1 j);have g:=Nat.mul_le_mul_left m (he j);rw[Ci9];split
  ·exact(h1.mul f).mono (by rw[Nat.add_mul,Nat.one_mul];omega)
  ·exact h1.mono (by rw[Nat.add_mul,Nat.one_mul];omega)
theorem Eh1 {n:Nat}(h:Au6 D N x)(f:n<=e):Au6 (D^e) ((N+D)^e) (Ai3 x n):=by
 have:=(h.pow n).scale (D^(e-n));rw[<-Nat.pow_add,show n+(e-n)=e by omega] at this;refine this.mono ?_;have h1:=Nat.pow_le_pow_left (show N<=N+D by omega) n;have c:=Nat.pow_le_pow_left (show D<=N+D by omega) (e-n);have d:=Nat.mul_le_mul h1 c
 rwa [<-Nat.pow_add,show n+(e-n)=e by omega] at d
theorem Au6.step {n:Nat}(h:Au6 D N x)(k:Au6 E M y)(c:n<=e):Au6 (D*E^e) (N*(M+E)^e) (if 0<n then Ay9 x (Ai3 y n) else x):=by
 split
 ·exact h.mul (Eh1 k c)
 ·exact(h.scale (E^e)).mono (Nat.mul_le_mul_left _ (Nat.pow_le_pow_left (by omega) e))
theorem Cv6 {l:Nat->Iv}{p:List Tm}{m:Nat}(B:Bd k p)(u: ∀i,BdI m (l i))(he: ∀t∈p,∀i,mex t.1 i<=e):BdI (k+3*((m+1)*e+1)) (Aq8 l p):=by
 obtain⟨D,N,h1,C,Q,R⟩:=B;obtain⟨c,g,a1,a2,a3,a4⟩:=u 0;obtain⟨d,h,b1,b2,F,G⟩:=u 1;obtain⟨f,o,c1,c2,c3,H⟩:=u 2;have key: ∀(p:List Tm) (N A:Nat) (a:Iv),Fit D N p->(∀t∈p,∀i,mex t.1 i<=e)->Au6 (D*c^e*d^e*f^e) A a->Au6 (D*c^e*d^e*f^e) (A+N*((g+c)^e*(h+d)^e*(o+f)^e)) (p.foldl (λ a t=>Cb5 a (Ci9 l t 3)) a):=by
  intro p
  induction p with
  | nil=>intro N A a _ _ v;exact v.mono (by omega)
  | cons t r ih=>
   intro N A a I hm v;obtain⟨n,J,g1,g2,g3⟩:=I;rw[List.foldl_cons];have K:Au6 (D*c^e*d^e*f^e) (n*(g+c)^e*(h+d)^e*(o+f)^e) (Ci9 l t 3):=by
    have hm:=hm t (by simp);exact(((show Au6 D n (Eb6 t.2) from⟨g2,g2⟩).step a1 (hm 0)).step b1 (hm 1)).step c1 (hm 2)
   refine(ih J _ _ g3 (λ x w=>hm x (by simp[w])) (v.add K)).mono ?_;have z:n*(g+c)^e*(h+d)^e*(o+f)^e=n*((g+c)^e*(h+d)^e*(o+f)^e):=by simp only[Nat.mul_assoc]
   rw[z,Nat.add_assoc,<-Nat.add_mul];exact Nat.add_le_add_left (Nat.mul_le_mul_right _ g1) _
 have L:=key p N 0 (0,0) h1 he ⟨Ak3.zero,Ak3.zero⟩;have q1: ∀{x y:Nat},nl x<=m->nl y<=m->nl (x^e)<=(m+1)*e+1/\nl ((y+x)^e)<=(m+1)*e+1:=fun {x y} w O=>by
  have z:=Cf5 x e;have S:=Cf5 (y+x) e;have P:=Cw6 O w;have U:=Nat.mul_le_mul_right e (show nl x<=m+1 by omega);have V:=Nat.mul_le_mul_right e P;omega
 have X:=q1 a3 a4;have Y:=q1 F G;have Z:=q1 c3 H;have v1:=Ae5 D (c^e);have v2:=Ae5 (D*c^e) (d^e);have v3:=Ae5 (D*c^e*d^e) (f^e);have w1:=Ae5 ((g+c)^e) ((h+d)^e);have w2:=Ae5 ((g+c)^e*(h+d)^e) ((o+f)^e);have w3:=Ae5 N ((g+c)^e*(h+d)^e*(o+f)^e);refine⟨_,_,L,Nat.mul_ne_zero (Nat.mul_ne_zero (Nat.mul_ne_zero C (Ch9 a2 e)) (Ch9 b2 e)) (Ch9 c2 e),by omega,?_⟩;rw[Nat.zero_add];omega
def Af9 : List Rat -> Iv
  | [] => (0, 0)
  | x::r => (r.foldl Az9 x, r.foldl Au7 x)
theorem Eq4 (x y:Iv):Af9 [x.1*y.1,x.1*y.2,x.2*y.1,x.2*y.2]=Ay9 x y:=by
 simp only[Af9,List.foldl_cons,List.foldl_nil,Ay9,Bu9,Ag0,Prod.mk.injEq];generalize x.1*y.1=a;generalize x.1*y.2=b;generalize x.2*y.1=c;generalize x.2*y.2=d;unfold Az9 Au7;constructor<;>grind
theorem Ez7 (x:Iv)(r:Rat):Ay9 x (Eb6 r)=De8 x r:=by
 simp only[Ay9,Bu9,Ag0,De8,Eb6,Prod.mk.injEq];unfold Az9 Au7;constructor<;>grind
theorem Ek6 (h:x.1<=x.2):Ay9 x (Eb6 1)=x:=by
 rw[Ez7,De8,Ag0,Rat.mul_one,Rat.mul_one];unfold Az9 Au7;rw[if_neg (Rat.not_lt.2 h)];split
 ·rfl
 ·exact Prod.ext rfl (by dsimp only;grind)
theorem Ew6 (x y:Iv):(Ay9 x y).1<=(Ay9 x y).2:=by
 have h1:=Dh5 (Az9 (x.1*y.1) (x.2*y.2)) (Az9 (x.1*y.2) (x.2*y.1));have c:=Cl6 (Au7 (x.1*y.1) (x.2*y.2)) (Au7 (x.1*y.2) (x.2*y.1));have d:=Dh5 (x.1*y.1) (x.2*y.2);have f:=Cl6 (x.1*y.1) (x.2*y.2);exact Rat.le_trans h1.1 (Rat.le_trans d.1 (Rat.le_trans f.1 c.1))
theorem Eq7 (l:Nat->Iv)(t:Tm): ∀j,(Ci9 l t j).1<=(Ci9 l t j).2
 | 0=>Rat.le_refl
 | j+1=>by
  rw[Ci9];split
  ·exact Ew6 _ _
  ·exact Eq7 l t j
theorem Dy8 (x:Iv):Ai3 x 0=Eb6 1:=by
 unfold Ai3 Ag0 Az9 Au7;rw[if_neg (λ h=>absurd h.1 (by omega)),Rat.pow_zero,Rat.pow_zero];rfl
theorem Ev5 (l:Nat->Iv)(t:Tm)(j:Nat):Ay9 (Ci9 l t j) (Ai3 (l j) (mex t.1 j))=Ci9 l t (j+1):=by
 rw[Ci9];split
 ·rfl
 ·rename_i h
  rw[show mex t.1 j=0 by omega,Dy8,Ek6 (Eq7 l t j)]
theorem Bl8 {n:Nat}(h:0<n):(0:Rat)^n=0:=by
 cases n with
 | zero=>omega
 | succ n=>rw[Rat.pow_succ,Rat.mul_zero]
theorem Fj3 (x:Rat):0<=x*x:=by
 rcases Rat.le_total (a:=0) (b:=x) with h | h
 ·exact Rat.mul_nonneg h h
 ·have:0<=(-x)*(-x):=Rat.mul_nonneg (by grind) (by grind)
  grind
theorem pow_even {n:Nat}(h:n%2=0)(x:Rat):0<=x^n:=by
 obtain⟨k,rfl⟩: ∃k,n=k+k:=⟨n/2,by omega⟩;have:x^(k+k)=x^k*x^k:=by
  clear h;generalize hm:k=m;have: ∀a b:Nat,x^(a+b)=x^a*x^b:=λ a b=>by
   induction b with
   | zero=>simp[Rat.mul_one]
   | succ b ih=>rw[<-Nat.add_assoc,Rat.pow_succ,Rat.pow_succ,ih,Rat.mul_assoc]
  exact this m m
 rw[this];exact Fj3 _
theorem Em7 {n:Nat}(o:x.1<=x.2):Af9 (if 0<n/\n%2=0/\x.1<0/\0<x.2 then[x.1^n,x.2^n,0] else[x.1^n,x.2^n])=Ai3 x n:=by
 unfold Ai3
 by_cases c:0<n/\n%2=0
 ·have r:=pow_even c.2 x.1
  have u:=pow_even c.2 x.2
  by_cases h:x.1<0/\0<x.2
  ·rw[if_pos ⟨c.1,c.2,h⟩,if_pos ⟨c.1,c.2,by grind,by grind⟩]
   simp only[Af9,List.foldl_cons,List.foldl_nil,Prod.mk.injEq];unfold Az9 Au7;constructor<;>grind
  ·rw[if_neg (λ d=>h d.2.2)]
   by_cases f:x.1<=0/\0<=x.2
   ·rw[if_pos ⟨c.1,c.2,f⟩]
    have g:=Bl8 c.1;have:x.1=0\/x.2=0:=by
     apply Decidable.byContradiction;intro v;exact h ⟨by grind,by grind⟩
    simp only[Af9,List.foldl_cons,List.foldl_nil,Prod.mk.injEq];rcases this with e | e<;>rw[e,g] at *<;>unfold Az9<;>constructor<;>grind
   ·rw[if_neg (λ d=>f d.2.2)]
    rfl
 ·rw[if_neg (λ h=>c ⟨h.1,h.2.1⟩),if_neg (λ h=>c ⟨h.1,h.2.1⟩)]
  rfl
end Go.SX
namespace Go.SX
variable {l p:List Tm}
theorem Fit.filter {D:Nat}{N:Nat}(h:Fit D N l)(f:Tm->Bool):Fit D N (l.filter f):=by
 induction l generalizing N with
 | nil=>exact h
 | cons t r ih=>
  obtain⟨n,k,h1,d,c⟩:=h;rw[List.filter_cons];split
  ·exact⟨n,k,h1,d,ih c⟩
  ·exact(ih c).mono (by omega)
theorem Bd.filter {k:Nat}(h:Bd k l)(f:Tm->Bool):Bd k (l.filter f):=let⟨D,N,h1,c,d,g⟩:=h;⟨D,N,h1.filter f,c,d,g⟩
theorem Av6.filter (h:Av6 p)(f:Tm->Bool):Av6 (p.filter f):=⟨h.srt.filter f,λ t c=>h.nz t (List.mem_filter.1 c).1⟩
theorem Ls2 {f:Tm->Bool}{j:Nat}(c:j<p.length):(p.take (j+1)).filter f=if f p[j]=true then(p.take j).filter f ++ [p[j]] else(p.take j).filter f:=by
 rw[List.take_succ_eq_append_getElem c,List.filter_append];split
 ·rename_i h;simp[h]
 ·rename_i h;simp[h]
abbrev Mdl:=List Tm×Iv
def Fc6 (b:Nat->Iv) (n:Int):Prop:=(b 0).1<=(b 0).2/\(b 1).1<=(b 1).2/\(b 2).1<=(b 2).2/\0<=n/\n<=8
instance (b:Nat->Iv) (n:Int):Decidable (Fc6 b n):=by unfold Fc6;infer_instance
def Mb5 (n:Int) (p:List Tm):List Tm:=p.filter λ t=>decide (t.1.deg<=n)
def Lr1 (n:Int) (p:List Tm):List Tm:=p.filter λ t=>decide (n<t.1.deg)
def Lx4 (b:Nat->Iv) (n:Int) (p:List Tm):Mdl:=(Mb5 n p,Aq8 b (Lr1 n p))
def Lp4:Mdl:=([],(0,0))
structure MdB (k r:Nat) (e:Int) (x:Mdl):Prop where
 bd:Bd k x.1
 rest:BdI r x.2
 Aq3:Av6 x.1
 ok: ∀t∈x.1,t.1.ok/\t.1.x<=e/\t.1.y<=e/\t.1.z<=e
theorem Mf6 {m:Mon}{e:Int}(h:m.ok/\m.x<=e/\m.y<=e/\m.z<=e)(i:Nat):mex m i<=e.toNat:=by
 unfold Mon.ok at h;unfold mex
 (repeat' split)<;>omega
end Go.SX
namespace Go
variable {a0 a1 a2 a3 a4 a5 x:Bool}
def Fc7 (P:Program) (f:FuncId) (fn:Func) (s:ChangeSpec) (c:OpenClaim):Bool:=c.wf (OpenSpec.ofChange s) && laidOutB P && mapsRowed P && fn.params.all (P.readableRec ·) && namedTie P c.named s.vars && (c.stops == []) && (P.stops == []) && (c.knobs == []) && (P.stopKnobs == [])
def Fd9 (P:Program) (f:FuncId) (fn:Func) (s:ChangeSpec) (c:OpenClaim):Bool:=(c.inPlace == P.inPlace f) && (c.unfollowed == P.unfollowed f) && (c.recurses == P.recurses f) && (c.named == P.varsNamed f)
def Fe1 (P:Program) (f:FuncId) (fn:Func) (s:ChangeSpec) (c:OpenClaim):Bool:=(c.maps == (fn.params.toList ++ s.plain.varTypes P).any (P.mapsRec ·)) && (c.ifaces == (fn.params.toList ++ s.plain.varTypes P).any (P.ifacesRec ·)) && (c.mapsOut == P.mapsAmong fn.resultTypes.toList) && (c.loops == (fn.params.toList ++ s.plain.varTypes P).any (P.loopsFrom ·)) && (c.wideKeys == (fn.params.toList ++ s.plain.varTypes P ++ fn.resultTypes.toList).any (P.wideKeysFrom ·)) && s.vars.all (P.varReadable ·)
def Fd2 (P:Program) (f:FuncId) (fn:Func) (s:ChangeSpec) (c:OpenClaim):Bool:=fn.resultTypes.all (λ t=>P.readableRec t && decide (t<P.types.size)) && (c.ifacesOut == fn.resultTypes.toList.any (P.ifacesRec ·)) && (c.loopsOut == fn.resultTypes.toList.any (P.loopsFrom ·)) && (c.plainKeys == P.plainKeys) && c.shortTexts.isNone && P.stopsHeard && P.mayEnter
def Fd4 (P:Program) (f:FuncId) (fn:Func) (s:ChangeSpec) (c:OpenClaim):Bool:=(c.lifted == P.liftsFinal) && (P.make == some c.make) && (c.kinds == (if c.domain.isEmpty then[] else fn.params.toList.map λ t=>match P.underlying t with | some (.int k)=>some k | _=>none)) && (c.pinned == c.pinnedBy) && (c.veiled == (fn.params.toList ++ s.plain.varTypes P ++ fn.resultTypes.toList).any (P.veiledRec ·)) && c.veiledFits P fn.params.toList (fn.params.toList ++ s.plain.varTypes P ++ fn.resultTypes.toList)
theorem re1 (h:x=true)(g:(a0 && a1 && a2 && a3)=true):(x && a0 && a1 && a2 && a3)=true:=by rw[h];exact g
theorem re2 (h:x=true)(g:(a0 && a1 && a2 && a3 && a4 && a5)=true):(x && a0 && a1 && a2 && a3 && a4 && a5)=true:=by rw[h];exact g
theorem re3 {c:Bool}(h:x=true)(g:(a0 && a1 && a2 && a3 && a4 && a5 && c)=true):(x && a0 && a1 && a2 && a3 && a4 && a5 && c)=true:=by rw[h];exact g
theorem re4 (h:x=true)(g:(a0 && a1 && a2 && a3 && a4 && a5)=true):(x && a0 && a1 && a2 && a3 && a4 && a5)=true:=by rw[h];exact g
theorem Eo7 {P:Program}{f:FuncId}{fn:Func}{s:ChangeSpec}{c:OpenClaim}(d:Fc7 P f fn s c=true)(h1:Fd9 P f fn s c=true)(g:Fe1 P f fn s c=true)(h:Fd2 P f fn s c=true)(n:Fd4 P f fn s c=true):joinedFacts P f fn s c=true:=re4 (re3 (re2 (re1 d h1) g) h) n
end Go
namespace Go.SX
variable {W W':PW}{a:Rat}{b:Nat->Iv}{b':Bool}{j:Nat}{l:List Value}{tu:TypeId}{x:Mdl}
theorem At6 {b:Rat}:Co4 a b<0↔a<b:=by
 unfold Co4;split
 ·simp[*]
 ·split<;>simp_all
theorem Al3 {b:Rat}:0<Co4 a b↔b<a:=by
 unfold Co4;split
 ·grind
 ·split
  ·rename_i h1 c
   subst c;grind
  ·rename_i h1 c
   constructor
   ·intro _
    exact Rat.not_le.1 λ h=>(Rat.le_iff_lt_or_eq.1 h).elim h1 c
   ·intro _;omega
theorem Dn3 {b:Rat}:Co4 a b<=0↔a<=b:=by rw[<-Int.not_lt,Al3,Rat.not_lt]
theorem El9 {b:Rat}:0<=Co4 a b↔b<=a:=by rw[<-Int.not_lt,At6,Rat.not_lt]
def SpV (tu:TypeId) (W:PW) (l:List Value) (x:Iv):Prop:=∃(s:Sl) (b:Bool) (t s':Sl) (b':Bool) (t':Sl),l = [s.v,.bool b,t.v,s'.v,.bool b',t'.v]/\Ab3 tu W s b t x.1/\Ab3 tu W s' b' t' x.2
def Ah6 (tu:TypeId) (W:PW) (l:List Value) (x:Iv):Prop:=∃(b:Bool) (s t:Sl) (b':Bool) (s' t':Sl),l = [.bool b,s.v,t.v,.bool b',s'.v,t'.v]/\Ab6 tu W b s t x.1/\Ab6 tu W b' s' t' x.2
theorem SpV.ext {x:Iv}(h:SpV tu W l x)(c:Ext W W'):SpV tu W' l x:=let⟨s,b,t,s',b',t',e,h1,d⟩:=h;⟨s,b,t,s',b',t',e,h1.ext c,d.ext c⟩
theorem Ah6.ext {x:Iv}(h:Ah6 tu W l x)(c:Ext W W'):Ah6 tu W' l x:=let⟨s,b,t,s',b',t',e,h1,d⟩:=h;⟨s,b,t,s',b',t',e,h1.ext c,d.ext c⟩
theorem SpV.mk {s t s' t':Sl}{b:Bool}{x:Iv}(h1:Ab3 tu W s b t x.1)(c:Ab3 tu W s' b' t' x.2):SpV tu W [s.v,.bool b,t.v,s'.v,.bool b',t'.v] x:=⟨s,b,t,s',b',t',rfl,h1,c⟩
theorem Ah6.mk {s t s' t':Sl}{b:Bool}{x:Iv}(h1:Ab6 tu W b s t x.1)(c:Ab6 tu W b' s' t' x.2):Ah6 tu W [.bool b,s.v,t.v,.bool b',s'.v,t'.v] x:=⟨b,s,t,b',s',t',rfl,h1,c⟩
theorem SpV.out {x:Iv}{K:Sl->Bool->Sl->Sl->Bool->Sl->Prop}(h:SpV tu W l x)(k: ∀s b t s' b' t',SpV tu W [s.v,.bool b,t.v,s'.v,.bool b',t'.v] x->K s b t s' b' t'):
  ∃(s:Sl) (b:Bool) (t s':Sl) (b':Bool) (t':Sl),Value.agg ⟨l⟩ = .agg ⟨[s.v,.bool b,t.v,s'.v,.bool b',t'.v]⟩/\K s b t s' b' t':=by
 obtain⟨s,b,t,s',b',t',rfl,h1,c⟩:=h;exact⟨s,b,t,s',b',t',rfl,k s b t s' b' t' (SpV.mk h1 c)⟩
theorem Ah6.out {x:Iv}{K:Bool->Sl->Sl->Bool->Sl->Sl->Prop}(h:Ah6 tu W l x)(k: ∀b s t b' s' t',Ah6 tu W [.bool b,s.v,t.v,.bool b',s'.v,t'.v] x->K b s t b' s' t'):
  ∃(b:Bool) (s t:Sl) (b':Bool) (s' t':Sl),Value.agg ⟨l⟩ = .agg ⟨[.bool b,s.v,t.v,.bool b',s'.v,t'.v]⟩/\K b s t b' s' t':=by
 obtain⟨b,s,t,b',s',t',rfl,h1,c⟩:=h;exact⟨b,s,t,b',s',t',rfl,k b s t b' s' t' (Ah6.mk h1 c)⟩
theorem SpV.zero (W:PW):SpV tu W [.slice none 0 0,.bool false,.slice none 0 0,.slice none 0 0,.bool false,.slice none 0 0] (0,0):=⟨⟨none,0,0⟩,false,⟨none,0,0⟩,⟨none,0,0⟩,false,⟨none,0,0⟩,rfl,Ar9 W,Ar9 W⟩
theorem Ah6.zero (W:PW):Ah6 tu W [.bool false,.slice none 0 0,.slice none 0 0,.bool false,.slice none 0 0,.slice none 0 0] (0,0):=⟨false,⟨none,0,0⟩,⟨none,0,0⟩,false,⟨none,0,0⟩,⟨none,0,0⟩,rfl,Db0 W,Db0 W⟩
theorem Sl.Ck0 {s t:Sl}(h:s.v=t.v):s=t:=by
 cases s;cases t;simp only[Sl.v,Value.slice.injEq] at h;obtain⟨rfl,rfl,rfl⟩:=h;rfl
variable {s s' t t':Sl}
theorem SpV.two {b:Bool}{x:Iv}(h:SpV tu W [s.v,.bool b,t.v,s'.v,.bool b',t'.v] x):Ab3 tu W s b t x.1/\Ab3 tu W s' b' t' x.2:=by
 obtain⟨_,_,_,_,_,_,e,c,d⟩:=h;simp only[List.cons.injEq,Value.bool.injEq,and_true] at e;obtain⟨f,g,n,o,r,u⟩:=e;rw[Sl.Ck0 f,g,Sl.Ck0 n,Sl.Ck0 o,r,Sl.Ck0 u];exact⟨c,d⟩
theorem Ah6.two {b:Bool}{x:Iv}(h:Ah6 tu W [.bool b,s.v,t.v,.bool b',s'.v,t'.v] x):Ab6 tu W b s t x.1/\Ab6 tu W b' s' t' x.2:=by
 obtain⟨_,_,_,_,_,_,e,c,d⟩:=h;simp only[List.cons.injEq,Value.bool.injEq,and_true] at e;obtain⟨f,g,n,o,r,u⟩:=e;rw[f,Sl.Ck0 g,Sl.Ck0 n,o,Sl.Ck0 r,Sl.Ck0 u];exact⟨c,d⟩
def IvS (k:Nat) (x:Iv):Prop:=Sz k x.1/\Sz k x.2
def DmV (tu:TypeId) (W:PW) (l:List Value) (b:Nat->Iv):Prop:=∃(s0:Sl) (b0:Bool) (t0 s1:Sl) (b1:Bool) (t1 s2:Sl) (b2:Bool) (t2 s3:Sl) (c:Bool) (t3 s4:Sl) (d:Bool) (t4 f:Sl) (g:Bool) (t5:Sl),
 l = [s0.v,.bool b0,t0.v,s1.v,.bool b1,t1.v,s2.v,.bool b2,t2.v,s3.v,.bool c,t3.v,s4.v,.bool d,t4.v,f.v,.bool g,t5.v]/\SpV tu W [s0.v,.bool b0,t0.v,s1.v,.bool b1,t1.v] (b 0)/\SpV tu W [s2.v,.bool b2,t2.v,s3.v,.bool c,t3.v] (b 1)/\SpV tu W [s4.v,.bool d,t4.v,f.v,.bool g,t5.v] (b 2)
def Cf1 (tu:TypeId) (W:PW) (l:List Value) (b:Nat->Iv):Prop:=∃(b0:Bool) (s0 t0:Sl) (b1:Bool) (s1 t1:Sl) (b2:Bool) (s2 t2:Sl) (c:Bool) (s3 t3:Sl) (d:Bool) (s4 t4:Sl) (f:Bool) (g t5:Sl),
 l = [.bool b0,s0.v,t0.v,.bool b1,s1.v,t1.v,.bool b2,s2.v,t2.v,.bool c,s3.v,t3.v,.bool d,s4.v,t4.v,.bool f,g.v,t5.v]/\Ah6 tu W [.bool b0,s0.v,t0.v,.bool b1,s1.v,t1.v] (b 0)/\Ah6 tu W [.bool b2,s2.v,t2.v,.bool c,s3.v,t3.v] (b 1)/\Ah6 tu W [.bool d,s4.v,t4.v,.bool f,g.v,t5.v] (b 2)
theorem DmV.ext (h:DmV tu W l b)(c:Ext W W'):DmV tu W' l b:=by
 obtain⟨s0,b0,t0,s1,b1,t1,s2,b2,t2,s3,d,t3,s4,f,t4,g,n,t5,e,h1,o,r⟩:=h;exact⟨s0,b0,t0,s1,b1,t1,s2,b2,t2,s3,d,t3,s4,f,t4,g,n,t5,e,h1.ext c,o.ext c,r.ext c⟩
theorem Cf1.ext (h:Cf1 tu W l b)(c:Ext W W'):Cf1 tu W' l b:=by
 obtain⟨s0,b0,t0,s1,b1,t1,s2,b2,t2,s3,d,t3,s4,f,t4,g,n,t5,e,h1,o,r⟩:=h;exact⟨s0,b0,t0,s1,b1,t1,s2,b2,t2,s3,d,t3,s4,f,t4,g,n,t5,e,h1.ext c,o.ext c,r.ext c⟩
theorem Cf1.at (h:Cf1 tu W l b)(f:j<3):Ah6 tu W (Cr8 l (j*6) 6) (b j):=by
 obtain⟨s0,b0,t0,s1,b1,t1,s2,b2,t2,s3,g,t3,s4,n,t4,o,r,t5,rfl,h1,c,d⟩:=h;rcases(by omega:j=0\/j=1\/j=2) with rfl | rfl | rfl
 ·exact h1
 ·exact c
 ·exact d
theorem DmV.box (h:DmV tu W l b)(n:j<3): ∃(s:Sl) (c:Bool) (t s':Sl) (d:Bool) (t':Sl),As9 l (0+Int.toNat (j:Int)*6+0) [s.v,.bool c,t.v,s'.v,.bool d,t'.v]/\SpV tu W [s.v,.bool c,t.v,s'.v,.bool d,t'.v] (b j):=by
 obtain⟨s0,b0,t0,s1,b1,t1,s2,b2,t2,s3,o,t3,s4,r,t4,u,v,t5,rfl,h1,f,g⟩:=h;rcases(by omega:j=0\/j=1\/j=2) with rfl | rfl | rfl
 ·exact⟨_,_,_,_,_,_,⟨by simp,rfl⟩,h1⟩
 ·exact⟨_,_,_,_,_,_,⟨by simp,rfl⟩,f⟩
 ·exact⟨_,_,_,_,_,_,⟨by simp,rfl⟩,g⟩
theorem Cf1.box (h:Cf1 tu W l b)(n:j<3): ∃(c:Bool) (s t:Sl) (d:Bool) (s' t':Sl),As9 l (0+Int.toNat (j:Int)*6+0) [.bool c,s.v,t.v,.bool d,s'.v,t'.v]/\Ah6 tu W [.bool c,s.v,t.v,.bool d,s'.v,t'.v] (b j):=by
 obtain⟨s0,b0,t0,s1,b1,t1,s2,b2,t2,s3,o,t3,s4,r,t4,u,v,t5,rfl,h1,f,g⟩:=h;rcases(by omega:j=0\/j=1\/j=2) with rfl | rfl | rfl
 ·exact⟨_,_,_,_,_,_,⟨by simp,rfl⟩,h1⟩
 ·exact⟨_,_,_,_,_,_,⟨by simp,rfl⟩,f⟩
 ·exact⟨_,_,_,_,_,_,⟨by simp,rfl⟩,g⟩
def MdV (tu tt:TypeId) (W:PW) (l:List Value) (x:Mdl):Prop:=∃(s:Sl) (c:List Value),l=s.v::c/\Ab0 tu tt W s x.1/\SpV tu W c x.2
theorem MdV.ext {tt:TypeId}(h:MdV tu tt W l x)(c:Ext W W'):MdV tu tt W' l x:=let⟨s,d,e,h1,f⟩:=h;⟨s,d,e,h1.ext c,f.ext c⟩
theorem MdV.mk {tt:TypeId}(h1:Ab0 tu tt W s x.1)(c:SpV tu W l x.2):MdV tu tt W (s.v::l) x:=⟨s,l,rfl,h1,c⟩
theorem MdV.zero {tt:TypeId}(W:PW):MdV tu tt W [.slice none 0 0,.slice none 0 0,.bool false,.slice none 0 0,.slice none 0 0,.bool false,.slice none 0 0] Lp4:=⟨⟨none,0,0⟩,_,rfl,Ab0.nil W,SpV.zero W⟩
theorem MdV.out {K:Sl->Sl->Bool->Sl->Sl->Bool->Sl->Bool->Prop}{tt:TypeId}{B:Bool}(h:MdV tu tt W l x)(k: ∀p s b t s' b' t',MdV tu tt W [p.v,s.v,.bool b,t.v,s'.v,.bool b',t'.v] x->Ab0 tu tt W p x.1->SpV tu W [s.v,.bool b,t.v,s'.v,.bool b',t'.v] x.2->K p s b t s' b' t' B):
  ∃(p:Sl) (s:Sl) (b:Bool) (t s':Sl) (b':Bool) (t':Sl) (c:Bool),Value.tuple ⟨[.agg ⟨l⟩,.bool B]⟩ = .tuple ⟨[.agg ⟨[p.v,s.v,.bool b,t.v,s'.v,.bool b',t'.v]⟩,.bool c]⟩/\K p s b t s' b' t' c:=by
 obtain⟨p,g,rfl,h1,s,b,t,s',b',t',rfl,d,f⟩:=h;exact⟨p,s,b,t,s',b',t',B,rfl,k p s b t s' b' t' (MdV.mk h1 (SpV.mk d f)) h1 (SpV.mk d f)⟩
theorem MdV.Mf4 {tt:TypeId}{K:Sl->Sl->Bool->Sl->Sl->Bool->Sl->Prop}(h:MdV tu tt W l x)(k: ∀p s b t s' b' t',MdV tu tt W [p.v,s.v,.bool b,t.v,s'.v,.bool b',t'.v] x->Ab0 tu tt W p x.1->SpV tu W [s.v,.bool b,t.v,s'.v,.bool b',t'.v] x.2->K p s b t s' b' t'):
  ∃(p:Sl) (s:Sl) (b:Bool) (t s':Sl) (b':Bool) (t':Sl),Value.agg ⟨l⟩ = .agg ⟨[p.v,s.v,.bool b,t.v,s'.v,.bool b',t'.v]⟩/\K p s b t s' b' t':=by
 obtain⟨p,f,rfl,h1,s,b,t,s',b',t',rfl,c,d⟩:=h;exact⟨p,s,b,t,s',b',t',rfl,k p s b t s' b' t' (MdV.mk h1 (SpV.mk c d)) h1 (SpV.mk c d)⟩
def Lm6 (tu:TypeId) (W:PW) (l:List Value) (b:Nat->Iv) (n:Int):Prop:=∃c,l=c ++ [.int .i64 n]/\DmV tu W c b
theorem Lm6.mk {n:Int}(h:DmV tu W l b):Lm6 tu W (l ++ [.int .i64 n]) b n:=⟨l,rfl,h⟩
theorem Lm6.ext {n:Int}(h:Lm6 tu W l b n)(c:Ext W W'):Lm6 tu W' l b n:=let⟨d,e,h⟩:=h;⟨d,e,h.ext c⟩
def Ll6 (tu tt:TypeId) (W:PW) (l:List Value) (x:Mdl):Prop:=∃(s:Sl) (c:List Value),l=s.v::c/\Ag1 tu tt W s x.1/\Ah6 tu W c x.2
theorem Ll6.ext {tt:TypeId}(h:Ll6 tu tt W l x)(c:Ext W W'):Ll6 tu tt W' l x:=let⟨s,d,e,h1,f⟩:=h;⟨s,d,e,h1.ext c,f.ext c⟩
theorem Ll6.mk {tt:TypeId}(h1:Ag1 tu tt W s x.1)(c:Ah6 tu W l x.2):Ll6 tu tt W (s.v::l) x:=⟨s,l,rfl,h1,c⟩
theorem Ll6.zero {tt:TypeId}(W:PW):Ll6 tu tt W [.slice none 0 0,.bool false,.slice none 0 0,.slice none 0 0,.bool false,.slice none 0 0,.slice none 0 0] Lp4:=⟨⟨none,0,0⟩,_,rfl,Ag1.nil W,Ah6.zero W⟩
theorem Ll6.out {tt:TypeId}{B:Bool}{K:Sl->Bool->Sl->Sl->Bool->Sl->Sl->Bool->Prop}(h:Ll6 tu tt W l x)(k: ∀p b s t b' s' t',Ll6 tu tt W [p.v,.bool b,s.v,t.v,.bool b',s'.v,t'.v] x->Ag1 tu tt W p x.1->Ah6 tu W [.bool b,s.v,t.v,.bool b',s'.v,t'.v] x.2->K p b s t b' s' t' B):
  ∃(p:Sl) (b:Bool) (s t:Sl) (b':Bool) (s' t':Sl) (c:Bool),Value.tuple ⟨[.agg ⟨l⟩,.bool B]⟩ = .tuple ⟨[.agg ⟨[p.v,.bool b,s.v,t.v,.bool b',s'.v,t'.v]⟩,.bool c]⟩/\K p b s t b' s' t' c:=by
 obtain⟨p,g,rfl,h1,b,s,t,b',s',t',rfl,d,f⟩:=h;exact⟨p,b,s,t,b',s',t',B,rfl,k p b s t b' s' t' (Ll6.mk h1 (Ah6.mk d f)) h1 (Ah6.mk d f)⟩
theorem Ll6.Mf4 {tt:TypeId}{K:Sl->Bool->Sl->Sl->Bool->Sl->Sl->Prop}(h:Ll6 tu tt W l x)(k: ∀p b s t b' s' t',Ll6 tu tt W [p.v,.bool b,s.v,t.v,.bool b',s'.v,t'.v] x->Ag1 tu tt W p x.1->Ah6 tu W [.bool b,s.v,t.v,.bool b',s'.v,t'.v] x.2->K p b s t b' s' t'):
  ∃(p:Sl) (b:Bool) (s t:Sl) (b':Bool) (s' t':Sl),Value.agg ⟨l⟩ = .agg ⟨[p.v,.bool b,s.v,t.v,.bool b',s'.v,t'.v]⟩/\K p b s t b' s' t':=by
 obtain⟨p,f,rfl,h1,b,s,t,b',s',t',rfl,c,d⟩:=h;exact⟨p,b,s,t,b',s',t',rfl,k p b s t b' s' t' (Ll6.mk h1 (Ah6.mk c d)) h1 (Ah6.mk c d)⟩
def Ll5 (tu:TypeId) (W:PW) (l:List Value) (b:Nat->Iv) (n:Int):Prop:=∃c,l=c ++ [.int .i64 n]/\Cf1 tu W c b
theorem Ll5.mk {n:Int}(h:Cf1 tu W l b):Ll5 tu W (l ++ [.int .i64 n]) b n:=⟨l,rfl,h⟩
theorem Ll5.ext {n:Int}(h:Ll5 tu W l b n)(c:Ext W W'):Ll5 tu W' l b n:=let⟨d,e,h⟩:=h;⟨d,e,h.ext c⟩
theorem DmV.take (h:DmV tu W l b)(r:j<3): ∃(s:Sl) (c:Bool) (t s':Sl) (g:Bool) (t':Sl),List.take 6 (List.drop (Int.toNat (j:Int)*6) l) = [s.v,.bool c,t.v,s'.v,.bool g,t'.v]/\Ab3 tu W s c t (b j).1/\Ab3 tu W s' g t' (b j).2:=by
 obtain⟨s0,b0,t0,s1,b1,t1,s2,b2,t2,s3,u,t3,s4,v,t4,w,z,t5,rfl,h1,n,o⟩:=h;rcases(by omega:j=0\/j=1\/j=2) with rfl | rfl | rfl
 ·obtain⟨_,_,_,_,_,_,e,d,f⟩:=h1
  exact⟨_,_,_,_,_,_,e,d,f⟩
 ·obtain⟨_,_,_,_,_,_,e,d,f⟩:=n
  exact⟨_,_,_,_,_,_,e,d,f⟩
 ·obtain⟨_,_,_,_,_,_,e,d,f⟩:=o
  exact⟨_,_,_,_,_,_,e,d,f⟩
theorem Cf1.ends {m:List Value}(h:Cf1 tu W l b)(n:j<3): ∃(c:Bool) (s t:Sl) (d:Bool) (s' t':Sl),As9 (l ++ m) (0+Int.toNat (j:Int)*6+0) [.bool c,s.v,t.v]/\As9 (l ++ m) (0+Int.toNat (j:Int)*6+3) [.bool d,s'.v,t'.v]/\Ab6 tu W c s t (b j).1/\Ab6 tu W d s' t' (b j).2:=by
 obtain⟨s0,b0,t0,s1,b1,t1,s2,b2,t2,s3,o,t3,s4,r,t4,u,v,t5,rfl,h1,f,g⟩:=h;rcases(by omega:j=0\/j=1\/j=2) with rfl | rfl | rfl
 ·exact⟨_,_,_,_,_,_,⟨by simp,rfl⟩,⟨by simp,rfl⟩,h1.two⟩
 ·exact⟨_,_,_,_,_,_,⟨by simp,rfl⟩,⟨by simp,rfl⟩,f.two⟩
 ·exact⟨_,_,_,_,_,_,⟨by simp,rfl⟩,⟨by simp,rfl⟩,g.two⟩
theorem Lm6.zero (W:PW)(n:Int):Lm6 tu W [.slice none 0 0,.bool false,.slice none 0 0,.slice none 0 0,.bool false,.slice none 0 0,.slice none 0 0,.bool false,.slice none 0 0,.slice none 0 0,.bool false,.slice none 0 0,.slice none 0 0,.bool false,.slice none 0 0,.slice none 0 0,.bool false,.slice none 0 0,.int .i64 n] (λ _=>(0,0)) n:=
 ⟨[.slice none 0 0,.bool false,.slice none 0 0,.slice none 0 0,.bool false,.slice none 0 0,.slice none 0 0,.bool false,.slice none 0 0,.slice none 0 0,.bool false,.slice none 0 0,.slice none 0 0,.bool false,.slice none 0 0,.slice none 0 0,.bool false,.slice none 0 0],rfl,⟨none,0,0⟩,false,⟨none,0,0⟩,⟨none,0,0⟩,false,⟨none,0,0⟩,⟨none,0,0⟩,false,⟨none,0,0⟩,⟨none,0,0⟩,false,⟨none,0,0⟩,⟨none,0,0⟩,false,⟨none,0,0⟩,⟨none,0,0⟩,false,⟨none,0,0⟩,rfl,SpV.zero W,SpV.zero W,SpV.zero W⟩
theorem Ll5.zero (W:PW)(n:Int):Ll5 tu W [.bool false,.slice none 0 0,.slice none 0 0,.bool false,.slice none 0 0,.slice none 0 0,.bool false,.slice none 0 0,.slice none 0 0,.bool false,.slice none 0 0,.slice none 0 0,.bool false,.slice none 0 0,.slice none 0 0,.bool false,.slice none 0 0,.slice none 0 0,.int .i64 n] (λ _=>(0,0)) n:=
 ⟨[.bool false,.slice none 0 0,.slice none 0 0,.bool false,.slice none 0 0,.slice none 0 0,.bool false,.slice none 0 0,.slice none 0 0,.bool false,.slice none 0 0,.slice none 0 0,.bool false,.slice none 0 0,.slice none 0 0,.bool false,.slice none 0 0,.slice none 0 0],rfl,false,⟨none,0,0⟩,⟨none,0,0⟩,false,⟨none,0,0⟩,⟨none,0,0⟩,false,⟨none,0,0⟩,⟨none,0,0⟩,false,⟨none,0,0⟩,⟨none,0,0⟩,false,⟨none,0,0⟩,⟨none,0,0⟩,false,⟨none,0,0⟩,⟨none,0,0⟩,rfl,Ah6.zero W,Ah6.zero W,Ah6.zero W⟩
end Go.SX
namespace Go.SX
variable {W W':PW}{j:Nat}{l:List Value}{tu:TypeId}{y:Nat->Mdl}
def M3V (tu tt:TypeId) (W:PW) (l:List Value) (y:Nat->Mdl):Prop:=∃(c s0:Sl) (a0:Bool) (t0 d:Sl) (b0:Bool) (f:Sl) (g s1:Sl) (a1:Bool) (t1 h:Sl) (b1:Bool) (n:Sl) (o s2:Sl) (a2:Bool) (t2 r:Sl) (b2:Bool) (u:Sl),l = [c.v,s0.v,.bool a0,t0.v,d.v,.bool b0,f.v,g.v,s1.v,.bool a1,t1.v,h.v,.bool b1,n.v,o.v,s2.v,.bool a2,t2.v,r.v,.bool b2,u.v]/\MdV tu tt W [c.v,s0.v,.bool a0,t0.v,d.v,.bool b0,f.v] (y 0)/\MdV tu tt W [g.v,s1.v,.bool a1,t1.v,h.v,.bool b1,n.v] (y 1)/\MdV tu tt W [o.v,s2.v,.bool a2,t2.v,r.v,.bool b2,u.v] (y 2)
theorem M3V.ext {tt:TypeId}(h:M3V tu tt W l y)(c:Ext W W'):M3V tu tt W' l y:=by
 obtain⟨d,s0,a0,t0,f,b0,g,n,s1,a1,t1,o,b1,r,u,s2,a2,t2,v,b2,w,e,z,h1,A⟩:=h;exact⟨d,s0,a0,t0,f,b0,g,n,s1,a1,t1,o,b1,r,u,s2,a2,t2,v,b2,w,e,z.ext c,h1.ext c,A.ext c⟩
theorem M3V.box {tt:TypeId}(h:M3V tu tt W l y)(o:j<3): ∃(c s0:Sl) (a0:Bool) (t0 d:Sl) (b0:Bool) (f:Sl),As9 l (0+Int.toNat (j:Int)*7+0) [c.v,s0.v,.bool a0,t0.v,d.v,.bool b0,f.v]/\MdV tu tt W [c.v,s0.v,.bool a0,t0.v,d.v,.bool b0,f.v] (y j):=by
 obtain⟨c,s0,a0,t0,d,b0,f,r,s1,a1,t1,u,b1,v,w,s2,a2,t2,z,b2,A,rfl,g,h1,n⟩:=h;rcases(by omega:j=0\/j=1\/j=2) with rfl | rfl | rfl
 ·exact⟨_,_,_,_,_,_,_,⟨by simp,rfl⟩,g⟩
 ·exact⟨_,_,_,_,_,_,_,⟨by simp,rfl⟩,h1⟩
 ·exact⟨_,_,_,_,_,_,_,⟨by simp,rfl⟩,n⟩
def Me8 (tu tt:TypeId) (W:PW) (l:List Value) (y:Nat->Mdl):Prop:=∃(c:Sl) (a0:Bool) (s0 t0:Sl) (b0:Bool) (d f:Sl) (g:Sl) (a1:Bool) (s1 t1:Sl) (b1:Bool) (h n:Sl) (o:Sl) (a2:Bool) (s2 t2:Sl) (b2:Bool) (r u:Sl),l = [c.v,.bool a0,s0.v,t0.v,.bool b0,d.v,f.v,g.v,.bool a1,s1.v,t1.v,.bool b1,h.v,n.v,o.v,.bool a2,s2.v,t2.v,.bool b2,r.v,u.v]/\Ll6 tu tt W [c.v,.bool a0,s0.v,t0.v,.bool b0,d.v,f.v] (y 0)/\Ll6 tu tt W [g.v,.bool a1,s1.v,t1.v,.bool b1,h.v,n.v] (y 1)/\Ll6 tu tt W [o.v,.bool a2,s2.v,t2.v,.bool b2,r.v,u.v] (y 2)
theorem Me8.ext {tt:TypeId}(h:Me8 tu tt W l y)(c:Ext W W'):Me8 tu tt W' l y:=by
 obtain⟨d,a0,s0,t0,b0,f,g,n,a1,s1,t1,b1,o,r,u,a2,s2,t2,b2,v,w,e,z,h1,A⟩:=h;exact⟨d,a0,s0,t0,b0,f,g,n,a1,s1,t1,b1,o,r,u,a2,s2,t2,b2,v,w,e,z.ext c,h1.ext c,A.ext c⟩
theorem Me8.box {tt:TypeId}(h:Me8 tu tt W l y)(o:j<3): ∃(c:Sl) (a0:Bool) (s0 t0:Sl) (b0:Bool) (d f:Sl),As9 l (0+Int.toNat (j:Int)*7+0) [c.v,.bool a0,s0.v,t0.v,.bool b0,d.v,f.v]/\Ll6 tu tt W [c.v,.bool a0,s0.v,t0.v,.bool b0,d.v,f.v] (y j):=by
 obtain⟨c,a0,s0,t0,b0,d,f,r,a1,s1,t1,b1,u,v,w,a2,s2,t2,b2,z,A,rfl,g,h1,n⟩:=h;rcases(by omega:j=0\/j=1\/j=2) with rfl | rfl | rfl
 ·exact⟨_,_,_,_,_,_,_,⟨by simp,rfl⟩,g⟩
 ·exact⟨_,_,_,_,_,_,_,⟨by simp,rfl⟩,h1⟩
 ·exact⟨_,_,_,_,_,_,_,⟨by simp,rfl⟩,n⟩
end Go.SX
