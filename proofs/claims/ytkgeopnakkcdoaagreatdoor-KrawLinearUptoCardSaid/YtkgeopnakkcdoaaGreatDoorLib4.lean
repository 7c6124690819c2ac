import Derived.Test.YtkgeopnakkcdoaaGreatDoorLib2
import Derived.Test.YtkgeopnakkcdoaaGreatDoorLib3
import Derived.Test.YtkgeopnakkcdoaaGreatDoorSx1
import Derived.Test.YtkgeopnakkcdoaaGreatDoorLib1
import Derived.JoinedCond
set_option linter.unusedVariables false
set_option linter.unusedSimpArgs false
namespace Go.SX
end Go.SX
namespace Go.SX
def lin (G:Mon->Rat):List Tm->Rat
 | []=>0
 | t::r=>t.2*G t.1+lin G r
theorem Gl3 (G:Mon->Rat)(a b:List Tm):lin G (a ++ b)=lin G a+lin G b:=by
 induction a with
 | nil=>simp[lin,Rat.zero_add]
 | cons t r ih=>simp only[List.cons_append,lin,ih,Rat.add_assoc]
theorem Gw4 (G:Mon->Rat)(p:List Tm)(t:Tm):lin G (Bg6 p t)=lin G p+t.2*G t.1:=by
 induction p with
 | nil=>
  unfold Bg6;split
  ·rename_i h
   simp only[lin,h];grind
  ·simp only[lin]
   grind
 | cons e r ih=>
  unfold Bg6;split
  ·simp only[lin,ih]
   grind
  ·split
   ·rename_i h1 c
    split
    ·rename_i d
     simp only[lin,c];grind
    ·simp only[lin,c]
     grind
   ·split
    ·rename_i d
     simp only[lin,d];grind
    ·simp only[lin]
     grind
theorem Gu3 (G:Mon->Rat)(l p:List Tm):lin G (l.foldl Bg6 p)=lin G p+lin G l:=by
 induction l generalizing p with
 | nil=>simp[lin,Rat.add_zero]
 | cons t r ih=>rw[List.foldl_cons,ih,Gw4,lin,Rat.add_assoc]
theorem Gi6 (G:Mon->Rat)(l:List Tm):lin G (Ag2 l)=lin G l:=by
 rw[Ag2,Gu3];simp[lin,Rat.zero_add]
end Go.SX
namespace Go.SX
variable {p:List Tm}
def Fd0 (w:Mon->Int) (n:Int) (p:List Tm):Int:=p.foldl (λ a t=>mx a (w t.1)) n
theorem Em4 (w:Mon->Int)(n:Int)(l:List Tm)(t:Tm):Fd0 w n (l ++ [t])=mx (Fd0 w n l) (w t.1):=by simp[Fd0]
theorem Hx0 {e:Int}{w:Mon->Int}{n:Int}(c:n<=e)(h: ∀t∈p,w t.1<=e):Fd0 w n p<=e:=by
 induction p generalizing n with
 | nil=>exact c
 | cons t r ih=>
  refine ih (n:=mx n (w t.1)) ?_ λ u hu=>h u (by simp[hu]);have:=h t (by simp);unfold mx;split<;>omega
theorem Hv3 {w:Mon->Int}{n:Int}:n<=Fd0 w n p/\∀t∈p,w t.1<=Fd0 w n p:=by
 induction p generalizing n with
 | nil=>exact⟨Int.le_refl _,by simp⟩
 | cons t r ih=>
  have:=ih (n:=mx n (w t.1));have e:Fd0 w n (t::r)=Fd0 w (mx n (w t.1)) r:=rfl;rw[e];have h1:n<=mx n (w t.1)/\w t.1<=mx n (w t.1):=by unfold mx;split<;>omega
  refine⟨by omega,λ u hu=>?_⟩;rcases List.mem_cons.1 hu with rfl | hu
  ·omega
  ·exact this.2 u hu
end Go.SX
namespace Go.SX
variable {a:ByteArray}{k m:Nat}{q:Rat}
theorem Bg1 {x:Nat}(h:Ad2 a=some x)(c:a.size<=m)(hm:10^m<=B^k):nl x<=k:=by
 obtain⟨h1,_⟩:=Bq9 h;exact Bc6 (Nat.lt_of_lt_of_le h1 (Nat.le_trans (Nat.pow_le_pow_right (by decide) c) hm))
theorem Cf0 {z:Int}(h:Ac3 a=some z)(d:a.size<=m)(hm:10^m<=B^k):nl z.natAbs<=k:=by
 unfold Ac3 at h;split at h
 ·split at h
  ·rename_i x f
   split at h
   ·cases h
   ·cases h;rw[Int.natAbs_neg,Int.natAbs_natCast];exact Bg1 f (by rw[ByteArray.size_extract];omega) hm
  ·cases h
 ·cases c:Ad2 a with
  | none=>rw[c] at h;cases h
  | some x=>
   rw[c] at h;cases h;exact Bg1 c d hm
theorem Du4 (h:Ab7 a=some q)(f:a.size<=m)(hm:10^m<=B^k)(hk:1<=k):Sz k q:=by
 unfold Ab7 at h;split at h
 ·cases c:Ac3 a with
  | none=>rw[c] at h;cases h
  | some z=>
   rw[c] at h;cases h;exact⟨by rw[Rat.num_intCast];exact Cf0 c f hm,by rw[Rat.den_intCast,Ax0];omega⟩
 ·split at h
  ·rename_i n d g j
   split at h
   ·cases h
   ·rename_i i _ o
    cases h;have l:d≠0:=by omega
    exact Sz.mk (Cf0 g (by rw[ByteArray.size_extract];omega) hm) (Bg1 j (by rw[ByteArray.size_extract];omega) hm) l
  ·cases h
theorem Ct3 (h:Ab7 a=some q)(c:a.size<=30):Sz 4 q:=Du4 h c (by decide) (by decide)
end Go.SX
namespace Go.SX
variable {W W':PW}{ps:List (List Tm)}{s:Sl}{tu:TypeId}
def Gx4 (tu tt:TypeId) (W:PW) (x:List Value) (p:List Tm):Prop:=∃s:Sl,x = [s.v]/\Ab0 tu tt W s p
theorem Gx4.ext {x:List Value}{p:List Tm}{tt:TypeId}(h:Gx4 tu tt W x p)(c:Ext W W'):Gx4 tu tt W' x p:=let⟨s,e,h⟩:=h;⟨s,e,h.ext c⟩
def Gf4 (tu tt:TypeId) (W:PW) (s:Sl) (ps:List (List Tm)):Prop:=∃xs,Bf9 W 1 s xs/\An5 (Gx4 tu tt W) xs ps
theorem Gf4.ext {tt:TypeId}(h:Gf4 tu tt W s ps)(c:Ext W W'):Gf4 tu tt W' s ps:=let⟨xs,h1,d⟩:=h;⟨xs,h1.ext c,d.mono λ _ _ h=>h.ext c⟩
theorem Gf4.n {tt:TypeId}(h:Gf4 tu tt W s ps):s.n=ps.length:=let⟨xs,⟨_,h1⟩,c⟩:=h;h1.1.trans c.len
theorem Gf4.inB {i:Int}{tt:TypeId}(h:Gf4 tu tt W s ps)(c:0<=i)(h1:i<(ps.length:Int)):SX.inB s i:=let⟨xs,⟨_,d⟩,f⟩:=h;d.inB c (by rw[f.len];exact h1)
theorem Gf4.at {tt:TypeId}(h:Gf4 tu tt W s ps){i:Nat}(hi:i<ps.length): ∃x:Sl,Aa7 W s 1 i 0 [x.v]/\Ab0 tu tt W x ps[i]:=by
 obtain⟨xs,⟨_,h1⟩,c⟩:=h;obtain⟨x,d,y,rfl,f⟩:=c.get (List.getElem?_eq_getElem hi);exact⟨y,h1.part d 0 rfl,f⟩
end Go.SX
namespace Go.SX
end Go.SX
namespace Go.SX
theorem Mw5 (f g:Nat->Rat)(n:Nat):Mu5 (λ j=>f j+g j) n=Mu5 f n+Mu5 g n:=by
 induction n with
 | zero=>simp[Mu5,Rat.add_zero]
 | succ n ih=>simp only[Mu5,ih];grind
theorem Mu8 (c:Rat)(f:Nat->Rat)(n:Nat):Mu5 (λ j=>c*f j) n=c*Mu5 f n:=by
 induction n with
 | zero=>simp[Mu5,Rat.mul_zero]
 | succ n ih=>simp only[Mu5,ih];grind
theorem Na3 (n:Nat):Mu5 (λ _=>0) n=0:=Mv7 λ _ _=>rfl
theorem Nc2 (f:Nat->Nat->Rat)(n m:Nat):Mu5 (λ i=>Mu5 (f i) m) n=Mu5 (λ j=>Mu5 (λ i=>f i j) n) m:=by
 induction n with
 | zero=>simp only[Mu5];rw[Na3]
 | succ n ih=>simp only[Mu5,ih];rw[Mw5]
end Go.SX
namespace Go.SX
variable {D E M N N' e k k':Nat}{a b q:Rat}
abbrev Iv:=Rat×Rat
variable {x y:Iv}
def Az9 (a b:Rat):Rat:=if b<a then b else a
def Au7 (a b:Rat):Rat:=if a<b then b else a
def Eb6 (q:Rat):Iv:=(q,q)
def Ag0 (a b:Rat):Iv:=(Az9 a b,Au7 a b)
def Bu9 (x y:Iv):Iv:=(Az9 x.1 y.1,Au7 x.2 y.2)
def Cb5 (x y:Iv):Iv:=(x.1+y.1,x.2+y.2)
def Ay9 (x y:Iv):Iv:=Bu9 (Ag0 (x.1*y.1) (x.2*y.2)) (Ag0 (x.1*y.2) (x.2*y.1))
def De8 (x:Iv) (r:Rat):Iv:=Ag0 (x.1*r) (x.2*r)
def Ai3 (x:Iv) (n:Nat):Iv:=if 0<n/\n%2=0/\x.1<=0/\0<=x.2 then(0,Au7 (x.1^n) (x.2^n)) else Ag0 (x.1^n) (x.2^n)
theorem Dj0 (a b:Rat):Az9 a b=a\/Az9 a b=b:=by unfold Az9;split<;>simp
theorem Dj7 (a b:Rat):Au7 a b=a\/Au7 a b=b:=by unfold Au7;split<;>simp
theorem Dh5 (a b:Rat):Az9 a b<=a/\Az9 a b<=b:=by unfold Az9;split<;>grind
theorem Cl6 (a b:Rat):a<=Au7 a b/\b<=Au7 a b:=by unfold Au7;split<;>grind
def Au6 (D N:Nat) (x:Iv):Prop:=Ak3 D N x.1/\Ak3 D N x.2
def BdI (k:Nat) (x:Iv):Prop:=∃D N,Au6 D N x/\D≠0/\nl D<=k/\nl N<=k
theorem Ak3.Az9 (h:Ak3 D N a)(k:Ak3 D N b):Ak3 D N (Az9 a b):=by rcases Dj0 a b with e | e<;>rw[e]<;>assumption
theorem Ak3.Au7 (h:Ak3 D N a)(k:Ak3 D N b):Ak3 D N (Au7 a b):=by rcases Dj7 a b with e | e<;>rw[e]<;>assumption
theorem Au6.mono (h:Au6 D N x)(c:N<=N'):Au6 D N' x:=⟨h.1.mono c,h.2.mono c⟩
theorem Au6.scale (h:Au6 D N x)(E:Nat):Au6 (D*E) (N*E) x:=⟨h.1.scale E,h.2.scale E⟩
theorem Au6.add (h:Au6 D N x)(k:Au6 D N' y):Au6 D (N+N') (Cb5 x y):=⟨h.1.add k.1,h.2.add k.2⟩
theorem Au6.Em8 (h:Ak3 D N a)(k:Ak3 D N b):Au6 D N (Ag0 a b):=⟨h.Az9 k,h.Au7 k⟩
theorem Au6.Fv1 (h:Au6 D N x)(k:Au6 D N y):Au6 D N (Bu9 x y):=⟨h.1.Az9 k.1,h.2.Au7 k.2⟩
theorem Au6.mul (h:Au6 D N x)(k:Au6 E M y):Au6 (D*E) (N*M) (Ay9 x y):=
 Au6.Fv1 (Au6.Em8 (h.1.mul k.1) (h.2.mul k.2)) (Au6.Em8 (h.1.mul k.2) (h.2.mul k.1))
theorem Sz.Fe7 (h:Sz k q)(n:Nat):Sz (k*n+1) (q^n):=by
 induction n with
 | zero=>rw[Rat.pow_zero];exact Sz.one (by omega)
 | succ n ih=>
  rw[Rat.pow_succ];exact(ih.mul h).mono (by rw[Nat.mul_add];omega)
theorem Ak3.pow (h:Ak3 D N q)(n:Nat):Ak3 (D^n) (N^n) (q^n):=by
 induction n with
 | zero=>rw[Rat.pow_zero];exact Ak3.int 1
 | succ n ih=>rw[Rat.pow_succ,Nat.pow_succ,Nat.pow_succ];exact ih.mul h
theorem Au6.pow (h:Au6 D N x)(n:Nat):Au6 (D^n) (N^n) (Ai3 x n):=by
 unfold Ai3;split
 ·exact⟨Ak3.zero,(h.1.pow n).Au7 (h.2.pow n)⟩
 ·exact Au6.Em8 (h.1.pow n) (h.2.pow n)
theorem Ch9 {x:Nat}(c:x≠0)(e:Nat):x^e≠0:=Nat.pos_iff_ne_zero.1 (Nat.pow_pos (Nat.pos_iff_ne_zero.2 c))
theorem Cf5 (a n:Nat):nl (a^n)<=nl a*n+1:=by
 induction n with
 | zero=>rw[Nat.pow_zero,Ax0];omega
 | succ n ih=>
  rw[Nat.pow_succ];have:=Ae5 (a^n) a;rw[Nat.mul_add,Nat.mul_one];omega
theorem BdI.mono (h:BdI k x)(hk:k<=k'):BdI k' x:=let⟨D,N,h1,c,d,f⟩:=h;⟨D,N,h1,c,Nat.le_trans d hk,Nat.le_trans f hk⟩
theorem BdI.sz (h:BdI k x):Sz k x.1/\Sz k x.2:=let⟨D,N,h1,c,d,f⟩:=h;⟨h1.1.sz c d f,h1.2.sz c d f⟩
theorem BdI.pt (h:Sz k q):BdI k (Eb6 q):=⟨q.den,q.num.natAbs,⟨Ak3.den q,Ak3.den q⟩,q.den_nz,h.2,h.1⟩
theorem BdI.zero (h:1<=k):BdI k (0,0):=BdI.pt (Sz.zero h)
theorem BdI.Co7 (h:Sz k x.1/\Sz k x.2):BdI (2*k+1) x:=by
 have c:=Ae5 x.1.den x.2.den;have d:=Ae5 x.1.num.natAbs x.2.den;have f:=Ae5 x.2.num.natAbs x.1.den;have g:=By9 (x.1.num.natAbs*x.2.den) (x.2.num.natAbs*x.1.den);have h1:=h.1.1;have i:=h.1.2;have j:=h.2.1;have l:=h.2.2;refine⟨x.1.den*x.2.den,x.1.num.natAbs*x.2.den+x.2.num.natAbs*x.1.den,⟨((Ak3.den x.1).scale x.2.den).mono (by omega),?_⟩,Nat.mul_ne_zero x.1.den_nz x.2.den_nz,by omega,by omega⟩;have:=(Ak3.den x.2).scale x.1.den;rw[Nat.mul_comm x.1.den];exact this.mono (by omega)
theorem BdI.mul (h:BdI k x)(c:BdI k' y):BdI (k+k') (Ay9 x y):=by
 obtain⟨D,N,h1,d,f,g⟩:=h;obtain⟨E,M,g1,g2,g3,g4⟩:=c;have i:=Ae5 D E;have j:=Ae5 N M;exact⟨D*E,N*M,h1.mul g1,Nat.mul_ne_zero d g2,by omega,by omega⟩
theorem BdI.pow (h:BdI k x)(n:Nat):BdI (k*n+1) (Ai3 x n):=by
 obtain⟨D,N,h1,c,d,f⟩:=h;have g:=Cf5 D n;have i:=Cf5 N n;have j:=Nat.mul_le_mul_right n d;have l:=Nat.mul_le_mul_right n f;exact⟨D^n,N^n,h1.pow n,Ch9 c n,by omega,by omega⟩
def mex (m:Mon) (k:Nat):Nat:=if k=0 then m.x.toNat else if k=1 then m.y.toNat else m.z.toNat
def Ci9 (l:Nat->Iv) (t:Tm):Nat->Iv
 | 0=>Eb6 t.2
 | j+1=>if 0<mex t.1 j then Ay9 (Ci9 l t j) (Ai3 (l j) (mex t.1 j)) else Ci9 l t j
def Aq8 (l:Nat->Iv) (p:List Tm):Iv:=p.foldl (λ a t=>Cb5 a (Ci9 l t 3)) (0,0)
theorem Bt2 (l:Nat->Iv)(p:List Tm)(t:Tm):Aq8 l (p ++ [t])=Cb5 (Aq8 l p) (Ci9 l t 3):=by simp[Aq8]
theorem Ef7 {l:Nat->Iv}{t:Tm}{k m e:Nat}(c:Sz k t.2)(d: ∀i,BdI m (l i))(he: ∀i,mex t.1 i<=e): ∀j,BdI (k+j*(m*e+1)) (Ci9 l t j)
 | 0=>by rw[Nat.zero_mul,Nat.add_zero];exact BdI.pt c
 | j+1=>by
  have h1:=Ef7 c d he j;have f:=(d j).pow (mex t.1 j);have g:=Nat.mul_le_mul_left m (he j);rw[Ci9];split
  ·exact(h1.mul f).mono (by rw[Nat.add_mul,Nat.one_mul];omega)
  ·exact h1.mono (by rw[Nat.add_mul,Nat.one_mul];omega)
theorem Eh1 {n:Nat}(h:Au6 D N x)(f:n<=e):Au6 (D^e) ((N+D)^e) (Ai3 x n):=by
 have:=(h.pow n).scale (D^(e-n));rw[<-Nat.pow_add,show n+(e-n)=e by omega] at this;refine this.mono ?_;have h1:=Nat.pow_le_pow_left (show N<=N+D by omega) n;have c:=Nat.pow_le_pow_left (show D<=N+D by omega) (e-n);have d:=Nat.mul_le_mul h1 c
 rwa [<-Nat.pow_add,show n+(e-n)=e by omega] at d
theorem Au6.step {n:Nat}(h:Au6 D N x)(k:Au6 E M y)(c:n<=e):Au6 (D*E^e) (N*(M+E)^e) (if 0<n then Ay9 x (Ai3 y n) else x):=by
 split
 ·exact h.mul (Eh1 k c)
 ·exact(h.scale (E^e)).mono (Nat.mul_le_mul_left _ (Nat.pow_le_pow_left (by omega) e))
theorem Cv6 {l:Nat->Iv}{p:List Tm}{m:Nat}(z:Bd k p)(o: ∀i,BdI m (l i))(he: ∀t∈p,∀i,mex t.1 i<=e):BdI (k+3*((m+1)*e+1)) (Aq8 l p):=by
 obtain⟨D,N,h1,B,Q,R⟩:=z;obtain⟨c,g,a1,a2,a3,a4⟩:=o 0;obtain⟨d,h,b1,b2,C,F⟩:=o 1;obtain⟨f,j,c1,c2,G,H⟩:=o 2;have key: ∀(p:List Tm) (N A:Nat) (a:Iv),Fit D N p->(∀t∈p,∀i,mex t.1 i<=e)->Au6 (D*c^e*d^e*f^e) A a->Au6 (D*c^e*d^e*f^e) (A+N*((g+c)^e*(h+d)^e*(j+f)^e)) (p.foldl (λ a t=>Cb5 a (Ci9 l t 3)) a):=by
  intro p
  induction p with
  | nil=>intro N A a _ _ u;exact u.mono (by omega)
  | cons t r ih=>
   intro N A a I hm u;obtain⟨n,J,g1,g2,g3⟩:=I;rw[List.foldl_cons];have K:Au6 (D*c^e*d^e*f^e) (n*(g+c)^e*(h+d)^e*(j+f)^e) (Ci9 l t 3):=by
    have hm:=hm t (by simp);exact(((show Au6 D n (Eb6 t.2) from⟨g2,g2⟩).step a1 (hm 0)).step b1 (hm 1)).step c1 (hm 2)
   refine(ih J _ _ g3 (λ x v=>hm x (by simp[v])) (u.add K)).mono ?_;have w:n*(g+c)^e*(h+d)^e*(j+f)^e=n*((g+c)^e*(h+d)^e*(j+f)^e):=by simp only[Nat.mul_assoc]
   rw[w,Nat.add_assoc,<-Nat.add_mul];exact Nat.add_le_add_left (Nat.mul_le_mul_right _ g1) _
 have L:=key p N 0 (0,0) h1 he ⟨Ak3.zero,Ak3.zero⟩;have q1: ∀{x y:Nat},nl x<=m->nl y<=m->nl (x^e)<=(m+1)*e+1/\nl ((y+x)^e)<=(m+1)*e+1:=fun {x y} v O=>by
  have w:=Cf5 x e;have S:=Cf5 (y+x) e;have P:=Cw6 O v;have T:=Nat.mul_le_mul_right e (show nl x<=m+1 by omega);have U:=Nat.mul_le_mul_right e P;omega
 have V:=q1 a3 a4;have X:=q1 C F;have Y:=q1 G H;have v1:=Ae5 D (c^e);have v2:=Ae5 (D*c^e) (d^e);have v3:=Ae5 (D*c^e*d^e) (f^e);have Z:=Ae5 ((g+c)^e) ((h+d)^e);have w2:=Ae5 ((g+c)^e*(h+d)^e) ((j+f)^e);have w3:=Ae5 N ((g+c)^e*(h+d)^e*(j+f)^e);refine⟨_,_,L,Nat.mul_ne_zero (Nat.mul_ne_zero (Nat.mul_ne_zero B (Ch9 a2 e)) (Ch9 b2 e)) (Ch9 c2 e),by omega,?_⟩;rw[Nat.zero_add];omega
theorem Ez7 (x:Iv)(r:Rat):Ay9 x (Eb6 r)=De8 x r:=by
 simp only[Ay9,Bu9,Ag0,De8,Eb6,Prod.mk.injEq];unfold Az9 Au7;constructor<;>grind
theorem Ew6 (x y:Iv):(Ay9 x y).1<=(Ay9 x y).2:=by
 have h1:=Dh5 (Az9 (x.1*y.1) (x.2*y.2)) (Az9 (x.1*y.2) (x.2*y.1));have c:=Cl6 (Au7 (x.1*y.1) (x.2*y.2)) (Au7 (x.1*y.2) (x.2*y.1));have d:=Dh5 (x.1*y.1) (x.2*y.2);have f:=Cl6 (x.1*y.1) (x.2*y.2);exact Rat.le_trans h1.1 (Rat.le_trans d.1 (Rat.le_trans f.1 c.1))
theorem Eq7 (l:Nat->Iv)(t:Tm): ∀j,(Ci9 l t j).1<=(Ci9 l t j).2
 | 0=>Rat.le_refl
 | j+1=>by
  rw[Ci9];split
  ·exact Ew6 _ _
  ·exact Eq7 l t j
theorem Dy8 (x:Iv):Ai3 x 0=Eb6 1:=by
 unfold Ai3 Ag0 Az9 Au7;rw[if_neg (λ h=>absurd h.1 (by omega)),Rat.pow_zero,Rat.pow_zero];rfl
theorem Bl8 {n:Nat}(h:0<n):(0:Rat)^n=0:=by
 cases n with
 | zero=>omega
 | succ n=>rw[Rat.pow_succ,Rat.mul_zero]
end Go.SX
namespace Go.SX
def Fc6 (b:Nat->Iv) (n:Int):Prop:=(b 0).1<=(b 0).2/\(b 1).1<=(b 1).2/\(b 2).1<=(b 2).2/\0<=n/\n<=8
instance (b:Nat->Iv) (n:Int):Decidable (Fc6 b n):=by unfold Fc6;infer_instance
end Go.SX
namespace Go.SX
theorem Gs4 (G:Mon->Rat)(r:Rat): ∀p:List Tm,lin G (p.map λ t=>(t.1,t.2*r))=r*lin G p
 | []=>by simp[lin,Rat.mul_zero]
 | t::p=>by
  rw[List.map_cons,lin,Gs4 G r p,lin];grind
end Go.SX
namespace Go
variable {a0 a1 a2 a3 a4 a5 x:Bool}
def Fc7 (P:Program) (f:FuncId) (fn:Func) (s:ChangeSpec) (c:OpenClaim):Bool:=c.wf (OpenSpec.ofChange s) && laidOutB P && mapsRowed P && fn.params.all (P.readableRec ·) && namedTie P c.named s.vars && (c.stops == []) && (P.stops == []) && (c.knobs == []) && (P.stopKnobs == [])
def Fd9 (P:Program) (f:FuncId) (fn:Func) (s:ChangeSpec) (c:OpenClaim):Bool:=(c.inPlace == P.inPlace f) && (c.unfollowed == P.unfollowed f) && (c.recurses == P.recurses f) && (c.named == P.varsNamed f)
def Fe1 (P:Program) (f:FuncId) (fn:Func) (s:ChangeSpec) (c:OpenClaim):Bool:=(c.maps == (fn.params.toList ++ s.plain.varTypes P).any (P.mapsRec ·)) && (c.ifaces == (fn.params.toList ++ s.plain.varTypes P).any (P.ifacesRec ·)) && (c.mapsOut == P.mapsAmong fn.resultTypes.toList) && (c.loops == (fn.params.toList ++ s.plain.varTypes P).any (P.loopsFrom ·)) && (c.wideKeys == (fn.params.toList ++ s.plain.varTypes P ++ fn.resultTypes.toList).any (P.wideKeysFrom ·)) && s.vars.all (P.varReadable ·)
def Fd2 (P:Program) (f:FuncId) (fn:Func) (s:ChangeSpec) (c:OpenClaim):Bool:=fn.resultTypes.all (λ t=>P.readableRec t && decide (t<P.types.size)) && (c.ifacesOut == fn.resultTypes.toList.any (P.ifacesRec ·)) && (c.loopsOut == fn.resultTypes.toList.any (P.loopsFrom ·)) && (c.plainKeys == P.plainKeys) && c.shortTexts.isNone && P.stopsHeard && P.mayEnter
def Fd4 (P:Program) (f:FuncId) (fn:Func) (s:ChangeSpec) (c:OpenClaim):Bool:=(c.lifted == P.liftsFinal) && (P.make == some c.make) && (c.kinds == (if c.domain.isEmpty then[] else fn.params.toList.map λ t=>match P.underlying t with | some (.int k)=>some k | _=>none)) && (c.pinned == c.pinnedBy) && (c.veiled == (fn.params.toList ++ s.plain.varTypes P ++ fn.resultTypes.toList).any (P.veiledRec ·)) && c.veiledFits P fn.params.toList (fn.params.toList ++ s.plain.varTypes P ++ fn.resultTypes.toList)
theorem re1 (h:x=true)(g:(a0 && a1 && a2 && a3)=true):(x && a0 && a1 && a2 && a3)=true:=by rw[h];exact g
theorem re2 (h:x=true)(g:(a0 && a1 && a2 && a3 && a4 && a5)=true):(x && a0 && a1 && a2 && a3 && a4 && a5)=true:=by rw[h];exact g
theorem re3 {c:Bool}(h:x=true)(g:(a0 && a1 && a2 && a3 && a4 && a5 && c)=true):(x && a0 && a1 && a2 && a3 && a4 && a5 && c)=true:=by rw[h];exact g
theorem re4 (h:x=true)(g:(a0 && a1 && a2 && a3 && a4 && a5)=true):(x && a0 && a1 && a2 && a3 && a4 && a5)=true:=by rw[h];exact g
theorem Eo7 {P:Program}{f:FuncId}{fn:Func}{s:ChangeSpec}{c:OpenClaim}(d:Fc7 P f fn s c=true)(h1:Fd9 P f fn s c=true)(g:Fe1 P f fn s c=true)(h:Fd2 P f fn s c=true)(i:Fd4 P f fn s c=true):joinedFacts P f fn s c=true:=re4 (re3 (re2 (re1 d h1) g) h) i
end Go
