/- Coefficients where a variable is moved, and in the basis of Bernstein: plain law, and how great they are. -/
import Derived.Test.YtokefihiadbkbaaGreatDoorLib5
set_option linter.unusedVariables false
set_option linter.unusedSimpArgs false
namespace Go.SX
def ch:Nat→Nat→Nat
 | _,0=>1
 | 0,_+1=>0
 | n+1,k+1=>ch n k+ch n (k+1)
theorem If2: ∀n,ch n 0=1
 | 0=>rfl
 | _+1=>rfl
theorem Ir8: ∀n k,n<k→ch n k=0
 | 0,0,h=>absurd h (Nat.lt_irrefl _)
 | 0,k+1,_=>rfl
 | n+1,0,h=>absurd h (Nat.not_lt_zero _)
 | n+1,k+1,h=>by rw[ch,Ir8 n k (by omega),Ir8 n (k+1) (by omega)]
theorem Ip7: ∀n k,ch n (k+1)*(k+1)=ch n k*(n-k)
 | 0,k=>by
  rw[Nat.zero_sub,Nat.mul_zero,ch,Nat.zero_mul]
 | n+1,0=>by
  show(ch n 0+ch n 1)*1=ch (n+1) 0*(n+1)
  rw[If2,If2]
  have:ch n 1*1=ch n 0*n:=Ip7 n 0
  rw[If2] at this
  omega
 | n+1,k+1=>by
  have h1:=Ip7 n (k+1)
  have h2:=Ip7 n k
  rw[ch,ch,Nat.add_mul,h1]
  by_cases hk:k+1≤n
  ·have e1:n+1-(k+1)=n-k:=by omega
   have e2:n-k=(n-(k+1))+1:=by omega
   rw[e1,Nat.add_mul,←h2,←Nat.mul_add,←Nat.mul_add]
   congr 1
   omega
  ·rw[Ir8 n (k+1) (by omega),Nat.zero_mul,Nat.zero_mul,show n+1-(k+1)=0 by omega,Nat.mul_zero]
theorem Jb3: ∀n k,ch n k≤2^n
 | n,0=>by rw[If2];exact Nat.one_le_two_pow
 | 0,_+1=>Nat.zero_le _
 | n+1,k+1=>by
  have h1:=Jb3 n k
  have h2:=Jb3 n (k+1)
  rw[ch,Nat.pow_succ]
  omega
theorem Iq6 {n:Nat} (h:n≤16) (k:Nat):ch n k≤65536:=Nat.le_trans (Jb3 n k) (Nat.pow_le_pow_right (by decide) h)
theorem Jc6 (n k:Nat):ch n k*(n-k)/(k+1)=ch n (k+1):=by rw[←Ip7];exact Nat.mul_div_cancel _ (Nat.succ_pos k)
theorem Jn2: ∀n k,k≤n→0<ch n k
 | n,0,_=>by rw[If2];exact Nat.one_pos
 | 0,k+1,h=>absurd h (Nat.not_succ_le_zero _)
 | n+1,k+1,h=>by have:=Jn2 n k (by omega);rw[ch];omega
def hor (lo:Rat) (g:Nat→Rat):Nat→Nat→Rat
 | 0,_=>0
 | r+1,j=>g j+lo*hor lo g r (j+1)
def mv (lo:Rat) (n:Nat) (f:Nat→Rat):Nat→Nat→Rat
 | 0,i=>f i
 | k+1,i=>if i<k then mv lo n f k i else hor lo (mv lo n f k) (n-i) i
def mvS (lo:Rat) (n:Nat) (f:Nat→Rat) (k e i:Nat):Rat:=if e≤i then hor lo (mv lo n f k) (n-i) i else mv lo n f k i
theorem Iy5 {lo:Rat} {n:Nat} {f:Nat→Rat} {k i:Nat} (hi:i<n):mvS lo n f k (n-1) i=mv lo n f k i:=by
 unfold mvS
 by_cases e:n-1≤i
 ·rw[if_pos e,show n-i=1 by omega,hor,hor,Rat.mul_zero,Rat.add_zero]
 ·rw[if_neg e]
theorem Ix9 {lo:Rat} {n:Nat} {f:Nat→Rat} {k z:Nat} (hz:z+1<n):mvS lo n f k z=Ij6 (mvS lo n f k (z+1)) z (mvS lo n f k (z+1) z+lo*mvS lo n f k (z+1) (z+1)):=by
 funext i
 unfold Ij6
 by_cases e:i=z
 ·subst e
  rw[if_pos rfl]
  unfold mvS
  rw[if_pos (Nat.le_refl _),if_neg (by omega),if_pos (Nat.le_refl _),show n-i=(n-(i+1))+1 by omega,hor]
 ·rw[if_neg e]
  unfold mvS
  by_cases e2:z+1≤i
  ·rw[if_pos e2,if_pos (by omega)]
  ·rw[if_neg e2,if_neg (by omega)]
theorem Iw8 {lo:Rat} {n:Nat} {f:Nat→Rat} {k:Nat} :mvS lo n f k k=mv lo n f (k+1):=by
 funext i
 unfold mvS
 rw[mv]
 by_cases e:k≤i
 ·rw[if_pos e,if_neg (by omega)]
 ·rw[if_neg e,if_pos (by omega)]
theorem Iq4 {D N E M n:Nat} {lo:Rat} {g:Nat→Rat} (hg:Id9 n D N g) (hl:Ak3 E M lo): ∀r j,j+r≤n→Ak3 (D*E^r) (N*(E+M)^r) (hor lo g r j)
 | 0,j,_=>Ak3.zero
 | r+1,j,h=>by
  have h1:=(hg j (by omega)).scale (E^(r+1))
  have h2:=hl.mul (Iq4 hg hl r (j+1) (by omega))
  rw[show E*(D*E^r)=D*E^(r+1) by rw[Nat.pow_succ];grind] at h2
  refine(h1.add h2).mono ?_
  have e1:E^r≤(E+M)^r:=Nat.pow_le_pow_left (Nat.le_add_right _ _) r
  have e2:N*E^(r+1)≤N*((E+M)^r*E):=by rw[Nat.pow_succ];exact Nat.mul_le_mul_left _ (Nat.mul_le_mul_right _ e1)
  have e3:N*(E+M)^(r+1)=N*((E+M)^r*E)+M*(N*(E+M)^r):=by rw[Nat.pow_succ];grind
  omega
theorem Ak3.up {D N E M r n:Nat} {q:Rat} (h:Ak3 (D*E^r) (N*(E+M)^r) q) (hr:r≤n):Ak3 (D*E^n) (N*(E+M)^n) q:=by
 have h1:=h.scale (E^(n-r))
 rw[Nat.mul_assoc,←Nat.pow_add,show r+(n-r)=n by omega] at h1
 refine h1.mono ?_
 rw[Nat.mul_assoc]
 refine Nat.mul_le_mul_left _ ?_
 have e1:E^(n-r)≤(E+M)^(n-r):=Nat.pow_le_pow_left (Nat.le_add_right _ _) _
 have e2:(E+M)^r*(E+M)^(n-r)=(E+M)^n:=by rw[←Nat.pow_add];congr 1;omega
 rw[←e2]
 exact Nat.mul_le_mul_left _ e1
theorem Iv8 {D N E M n:Nat} {lo:Rat} {f:Nat→Rat} (hf:Id9 n D N f) (hl:Ak3 E M lo): ∀k,Id9 n (D*(E^n)^k) (N*((E+M)^n)^k) (mv lo n f k)
 | 0=>by rw[Nat.pow_zero,Nat.pow_zero,Nat.mul_one,Nat.mul_one];exact hf
 | k+1=>fun i hi=>by
  have h:=Iv8 hf hl k
  rw[Nat.pow_succ,Nat.pow_succ,←Nat.mul_assoc,←Nat.mul_assoc,mv]
  split
  ·exact Ak3.up (r:=0) (by rw[Nat.pow_zero,Nat.pow_zero,Nat.mul_one,Nat.mul_one];exact h i hi) (Nat.zero_le _)
  ·exact Ak3.up (Iq4 h hl (n-i) i (by omega)) (by omega)
theorem Jb1 {D N E M n k e:Nat} {lo:Rat} {f:Nat→Rat} (hf:Id9 n D N f) (hl:Ak3 E M lo):Id9 n (D*(E^n)^(k+1)) (N*((E+M)^n)^(k+1)) (mvS lo n f k e):=fun i hi=>by
 have h:=Iv8 hf hl k
 rw[Nat.pow_succ,Nat.pow_succ,←Nat.mul_assoc,←Nat.mul_assoc]
 unfold mvS
 split
 ·exact Ak3.up (Iq4 h hl (n-i) i (by omega)) (by omega)
 ·exact Ak3.up (r:=0) (by rw[Nat.pow_zero,Nat.pow_zero,Nat.mul_one,Nat.mul_one];exact h i hi) (Nat.zero_le _)
theorem Ie6 {E n k l:Nat} (hE:nl E≤l) (hn:n≤17) (hk:k≤17):nl ((E^n)^k)≤(l*17+1)*17+1:=by
 have h1:=Cf5 E n
 have h2:=Cf5 (E^n) k
 have h3:nl E*n≤l*17:=Nat.mul_le_mul hE hn
 have h4:nl (E^n)*k≤(l*17+1)*17:=Nat.mul_le_mul (by omega) hk
 omega
def Jb7 (lo w:Rat) (n:Nat) (f:Nat→Rat) (i:Nat):Rat:=mv lo n f n i*w^i
def Ix4 (w:Rat) (g:Nat→Rat) (p i:Nat):Rat:=if i<p then g i*w^i else g i
theorem Iv4 (w:Rat) (g:Nat→Rat):Ix4 w g 0=g:=by funext i;unfold Ix4;rw[if_neg (Nat.not_lt_zero _)]
theorem Ix0 (w:Rat) (g:Nat→Rat) (p:Nat):Ix4 w g (p+1)=Ij6 (Ix4 w g p) p (Ix4 w g p p*w^p):=by
 funext i
 unfold Ij6 Ix4
 by_cases e:i=p
 ·subst e;rw[if_pos (by omega),if_pos rfl,if_neg (by omega)]
 ·rw[if_neg e]
  by_cases e2:i<p
  ·rw[if_pos e2,if_pos (by omega)]
  ·rw[if_neg e2,if_neg (by omega)]
theorem Jb6 {E M n:Nat} {w:Rat} (hw:Ak3 E M w) {D N i:Nat} {q:Rat} (hq:Ak3 D N q) (hi:i≤n):Ak3 (D*E^n) (N*(E+M)^n) (q*w^i):=by
 refine Ak3.up (r:=i) ((hq.mul (hw.pow i)).mono ?_) hi
 exact Nat.mul_le_mul_left _ (Nat.pow_le_pow_left (Nat.le_add_left _ _) i)
def chK:Nat:=12252240
theorem Ja2: ∀d,d<17→∀i,i<17→i≤d→ch d i∣chK:=by decide +kernel
theorem Iw5 {D N c:Nat} {q:Rat} (h:Ak3 D N q) (hc:c∣chK):Ak3 (D*chK) (N*chK) (q/(c:Rat)):=by
 obtain⟨m,hm⟩:=hc
 obtain⟨z,h1,h2⟩:=h
 have hc0:c≠0:=fun e=>by rw[e,Nat.zero_mul] at hm;exact absurd hm (by decide)
 have hcq:(c:Rat)≠0:=fun e=>hc0 (by exact_mod_cast e)
 refine⟨z*m,?_,?_⟩
 ·rw[hm]
  push_cast
  rw[←h1]
  grind
 ·rw[Int.natAbs_mul]
  refine Nat.mul_le_mul h2 ?_
  rw[hm]
  exact Nat.le_mul_of_pos_left _ (Nat.pos_iff_ne_zero.2 hc0)
def dvS (d:Nat) (g:Nat→Rat) (p i:Nat):Rat:=if i<p then g i/(ch d i:Rat) else g i
theorem Iz1 (d:Nat) (g:Nat→Rat):dvS d g 0=g:=by funext i;unfold dvS;rw[if_neg (Nat.not_lt_zero _)]
theorem Iy8 (d:Nat) (g:Nat→Rat) (p:Nat):dvS d g (p+1)=Ij6 (dvS d g p) p (dvS d g p p/(ch d p:Rat)):=by
 funext i
 unfold Ij6 dvS
 by_cases e:i=p
 ·subst e;rw[if_pos (by omega),if_pos rfl,if_neg (by omega)]
 ·rw[if_neg e]
  by_cases e2:i<p
  ·rw[if_pos e2,if_pos (by omega)]
  ·rw[if_neg e2,if_neg (by omega)]
def Iv7 (g:Nat→Rat) (k:Nat):Nat→Rat
 | 0=>0
 | j+1=>Iv7 g k j+(ch k j:Rat)*g j
def smS (g:Nat→Rat) (e i:Nat):Rat:=if e≤i then Iv7 g i (i+1) else g i
theorem Iz5 (g:Nat→Rat) (k:Nat):smS g k=Ij6 (smS g (k+1)) k (Iv7 g k (k+1)):=by
 funext i
 unfold Ij6 smS
 by_cases e:i=k
 ·subst e;rw[if_pos (Nat.le_refl _),if_pos rfl]
 ·rw[if_neg e]
  by_cases e2:k+1≤i
  ·rw[if_pos e2,if_pos (by omega)]
  ·rw[if_neg e2,if_neg (by omega)]
def Jd3 (n:Nat) (f:Nat→Rat) (i:Nat):Rat:=Iv7 (fun j=>f j/(ch (n-1) j:Rat)) i (i+1)
theorem Ii0 {D N n k:Nat} {g:Nat→Rat} (h:Id9 n D N g) (hk:k≤16): ∀m,m≤n→Ak3 D (N*65536*m) (Iv7 g k m)
 | 0,_=>Ak3.zero
 | m+1,hm=>by
  have h1:=(Ak3.int ((ch k m:Nat):Int)).mul (h m (by omega))
  rw[Nat.one_mul] at h1
  refine((Ii0 h hk m (by omega)).add (h1.mono (N':=N*65536) ?_)).mono (by rw[Nat.mul_add,Nat.mul_one];exact Nat.le_refl _)
  rw[Nat.mul_comm]
  exact Nat.mul_le_mul_left _ (by simpa using Iq6 hk m)
theorem Ih1 {g h:Nat→Rat} {n k:Nat} (e: ∀i,i<n→g i=h i): ∀m,m≤n→Iv7 g k m=Iv7 h k m
 | 0,_=>rfl
 | m+1,hm=>by rw[Iv7,Iv7,Ih1 e m (by omega),e m (by omega)]
end Go.SX
/- Neighbours brought together: the sum in the basis of Bernstein. Moved by Horner's rule: binomials. -/
namespace Go.SX
def Ik1 (u:Rat) (f:Nat→Rat) (r i:Nat):Nat→Rat
 | 0=>0
 | m+1=>Ik1 u f r i m+(ch r m:Rat)*u^m*(1-u)^(r-m)*f (i+m)
def ws (lo:Rat) (f:Nat→Rat) (k i:Nat):Nat→Rat
 | 0=>0
 | m+1=>ws lo f k i m+(ch (m+k) k:Rat)*lo^m*f (i+m)
theorem Jj1: ∀k,ch k k=1
 | 0=>rfl
 | k+1=>by show ch k k+ch k (k+1)=1;rw[Jj1 k,Ir8 k (k+1) (by omega)]
theorem Jl7 (lo:Rat) (f:Nat→Rat) (i:Nat): ∀m,ws lo f 0 i (m+1)=f i+lo*ws lo f 0 (i+1) m
 | 0=>by
  show 0+(ch (0+0) 0:Rat)*lo^0*f (i+0)=f i+lo*0
  rw[If2,Rat.pow_zero,Nat.add_zero]
  grind
 | m+1=>by
  have e1:ws lo f 0 i (m+1+1)=ws lo f 0 i (m+1)+(ch (m+1+0) 0:Rat)*lo^(m+1)*f (i+(m+1)):=rfl
  have e2:ws lo f 0 (i+1) (m+1)=ws lo f 0 (i+1) m+(ch (m+0) 0:Rat)*lo^m*f (i+1+m):=rfl
  rw[e1,e2,Jl7 lo f i m,If2,If2,Rat.pow_succ,show i+1+m=i+(m+1) by omega]
  grind
theorem Jl5 (lo:Rat) (f:Nat→Rat) (k i:Nat): ∀m,ws lo f (k+1) i (m+1)=ws lo f k i (m+1)+lo*ws lo f (k+1) (i+1) m
 | 0=>by
  show 0+(ch (0+(k+1)) (k+1):Rat)*lo^0*f (i+0)=(0+(ch (0+k) k:Rat)*lo^0*f (i+0))+lo*0
  rw[Nat.zero_add,Nat.zero_add,Jj1,Jj1]
  grind
 | m+1=>by
  have e1:ws lo f (k+1) i (m+1+1)=ws lo f (k+1) i (m+1)+(ch (m+1+(k+1)) (k+1):Rat)*lo^(m+1)*f (i+(m+1)):=rfl
  have e2:ws lo f k i (m+1+1)=ws lo f k i (m+1)+(ch (m+1+k) k:Rat)*lo^(m+1)*f (i+(m+1)):=rfl
  have e3:ws lo f (k+1) (i+1) (m+1)=ws lo f (k+1) (i+1) m+(ch (m+(k+1)) (k+1):Rat)*lo^m*f (i+1+m):=rfl
  rw[e1,e2,e3,Jl5 lo f k i m,show m+1+(k+1)=(m+1+k)+1 by omega,show ch ((m+1+k)+1) (k+1)=ch (m+1+k) k+ch (m+1+k) (k+1) from rfl,show m+(k+1)=m+1+k by omega,Rat.pow_succ,show i+1+m=i+(m+1) by omega]
  push_cast
  grind
theorem Jk1 {lo:Rat} {f:Nat→Rat} : ∀r i,hor lo f r i=ws lo f 0 i r
 | 0,i=>rfl
 | r+1,i=>by rw[hor,Jk1 r (i+1),Jl7]
theorem Jn4 {lo:Rat} {f g:Nat→Rat} {k n:Nat} : ∀r i,r+i=n→(∀j,i≤j→j<n→g j=ws lo f k j (n-j))→hor lo g r i=ws lo f (k+1) i r
 | 0,i,_,_=>rfl
 | r+1,i,h,hg=>by rw[hor,Jn4 r (i+1) (by omega) fun j h1 h2=>hg j (by omega) h2,Jl5,hg i (Nat.le_refl _) (by omega),show n-i=r+1 by omega]
theorem Jq4 {lo:Rat} {n:Nat} {f:Nat→Rat} : ∀k i,k≤i→i<n→mv lo n f (k+1) i=ws lo f k i (n-i)
 | 0,i,_,hi=>by rw[mv,if_neg (Nat.not_lt_zero _)];exact Jk1 _ _
 | k+1,i,hk,hi=>by
  rw[mv,if_neg (by omega)]
  exact Jn4 (n:=n) (n-i) i (by omega) fun j h1 h2=>Jq4 k j (by omega) h2
theorem Jk9 {lo:Rat} {n:Nat} {f:Nat→Rat} {i:Nat} : ∀d,mv lo n f (i+1+d) i=mv lo n f (i+1) i
 | 0=>rfl
 | d+1=>by
  rw[←Jk9 d]
  show mv lo n f ((i+1+d)+1) i=_
  rw[mv,if_pos (by omega)]
theorem Ji1 {lo:Rat} {n:Nat} {f:Nat→Rat} {i:Nat} (hi:i<n):mv lo n f n i=ws lo f i i (n-i):=by
 rw[←Jq4 i i (Nat.le_refl _) hi,←Jk9 (n-(i+1)),show i+1+(n-(i+1))=n by omega]
end Go.SX
/- The coefficients of a power in the basis of Bernstein, by means of elementary symmetric sums: plain law. -/
namespace Go.SX
def el:List Rat→Nat→Rat
 | [],0=>1
 | [],_+1=>0
 | _ :: _,0=>1
 | x :: l,m+1=>el l (m+1)+x*el l m
theorem Ji3: ∀l:List Rat,el l 0=1
 | []=>rfl
 | _ :: _=>rfl
theorem Jg5 (x:Rat) (l:List Rat) (m:Nat):el (x :: l) (m+1)=el l (m+1)+x*el l m:=rfl
theorem Jp5 (x y:Rat) (l:List Rat): ∀m,el (x :: y :: l) m=el (y :: x :: l) m
 | 0=>rfl
 | 1=>by simp only[Jg5,Ji3];grind
 | m+2=>by simp only[Jg5];grind
theorem Ji2 (x:Rat) (l:List Rat): ∀(a:List Rat) (m:Nat),el (a ++ x :: l) m=el (x :: (a ++ l)) m
 | [],_=>rfl
 | y :: a,0=>rfl
 | y :: a,m+1=>by
  rw[List.cons_append,List.cons_append,Jg5,Ji2 x l a,Ji2 x l a,Jp5]
  rfl
def lst (lo hi c:Rat) (p q r:Nat):List Rat:=List.replicate p lo ++ (List.replicate q hi ++ List.replicate r c)
theorem Jn8 (lo hi c:Rat) (p q r:Nat):lst lo hi c (p+1) q r=lo :: lst lo hi c p q r:=rfl
theorem Jo1 (lo hi c:Rat) (p q r m:Nat):el (lst lo hi c p (q+1) r) m=el (hi :: lst lo hi c p q r) m:=by
 unfold lst
 rw[List.replicate_succ,List.cons_append,Ji2]
theorem Jj9 (x:Rat): ∀d m,el (List.replicate d x) m=(ch d m:Rat)*x^m
 | d,0=>by rw[Ji3,If2,Rat.pow_zero];grind
 | 0,m+1=>by rw[Ir8 0 (m+1) (by omega)];show(0:Rat)=_;grind
 | d+1,m+1=>by
  rw[List.replicate_succ,Jg5,Jj9 x d (m+1),Jj9 x d m,show ch (d+1) (m+1)=ch d m+ch d (m+1) from rfl,Rat.pow_succ]
  push_cast
  grind
def uv (m j:Nat):Rat:=if j=m then 1 else 0
theorem Jq5 {lo:Rat} {m k i:Nat} : ∀n,ws lo (uv m) k i n=if i≤m∧m<i+n then(ch (m-i+k) k:Rat)*lo^(m-i) else 0
 | 0=>by rw[if_neg (by omega)];rfl
 | n+1=>by
  rw[ws,Jq5 n]
  unfold uv
  by_cases h:i+n=m
  ·subst h
   rw[if_neg (by omega),if_pos rfl,if_pos (by omega),show i+n-i=n by omega]
   grind
  ·rw[if_neg h]
   by_cases h2:i≤m∧m<i+n
   ·rw[if_pos h2,if_pos (by omega)];grind
   ·rw[if_neg h2,if_neg (by omega)];grind
theorem Jo6 {lo w:Rat} {n m j:Nat} (hm:m<n) (hj:j<n):Jb7 lo w n (uv m) j=if j≤m then(ch m j:Rat)*lo^(m-j)*w^j else 0:=by
 unfold Jb7
 rw[Ji1 hj,Jq5]
 by_cases h:j≤m
 ·rw[if_pos (by omega),if_pos h,show m-j+j=m by omega]
 ·rw[if_neg (by omega),if_neg h];grind
theorem Jh3 (g:Nat→Rat) (k:Nat): ∀n,Iv7 g (k+1) (n+1)=Iv7 g k (n+1)+Iv7 (fun j=>g (j+1)) k n
 | 0=>by
  show 0+(ch (k+1) 0:Rat)*g 0=(0+(ch k 0:Rat)*g 0)+0
  rw[If2,If2]
  grind
 | n+1=>by
  rw[Iv7,Jh3 g k n]
  show _=(Iv7 g k (n+1)+(ch k (n+1):Rat)*g (n+1))+(Iv7 (fun j=>g (j+1)) k n+(ch k n:Rat)*g (n+1))
  rw[show ch (k+1) (n+1)=ch k n+ch k (n+1) from rfl]
  push_cast
  grind
theorem Jm6 (g:Nat→Rat) (k:Nat):Iv7 g k (k+2)=Iv7 g k (k+1):=by
 show Iv7 g k (k+1)+(ch k (k+1):Rat)*g (k+1)=_
 rw[Ir8 k (k+1) (by omega)]
 grind
theorem Jg7 (g:Nat→Rat) (c:Rat) (k:Nat): ∀n,Iv7 (fun j=>c*g j) k n=c*Iv7 g k n
 | 0=>by show(0:Rat)=c*0;grind
 | n+1=>by rw[Iv7,Iv7,Jg7 g c k n];grind
def hB (lo w:Rat) (d m j:Nat):Rat:=if j≤m then w^j*((ch (d-j) (m-j):Rat)*lo^(m-j)) else 0
theorem Jl0 (lo w:Rat) (d k:Nat): ∀n,Iv7 (hB lo w d 0) k (n+1)=1
 | 0=>by
  show 0+(ch k 0:Rat)*hB lo w d 0 0=1
  unfold hB
  rw[if_pos (Nat.le_refl _),Nat.sub_self,If2,If2,Rat.pow_zero,Rat.pow_zero]
  grind
 | n+1=>by
  rw[Iv7,Jl0 lo w d k n]
  unfold hB
  rw[if_neg (by omega)]
  grind
theorem Jo7 (lo w:Rat) (d m j:Nat):hB lo w (d+1) (m+1) (j+1)=w*hB lo w d m j:=by
 unfold hB
 by_cases h:j≤m
 ·rw[if_pos h,if_pos (by omega),show d+1-(j+1)=d-j by omega,show m+1-(j+1)=m-j by omega,Rat.pow_succ]
  grind
 ·rw[if_neg h,if_neg (by omega)]
  grind
theorem Ji9 (lo w:Rat): ∀k d m,k≤d→el (lst lo (lo+w) 0 (d-k) k 0) m=Iv7 (hB lo w d m) k (k+1)
 | 0,d,m,_=>by
  show el (List.replicate d lo ++ []) m=0+(ch 0 0:Rat)*hB lo w d m 0
  rw[List.append_nil,Jj9]
  unfold hB
  rw[if_pos (Nat.zero_le _),Nat.sub_zero,Nat.sub_zero,If2,Rat.pow_zero]
  grind
 | k+1,d,0,h=>by rw[Ji3,Jl0]
 | k+1,d,m+1,h=>by
  obtain⟨d',rfl⟩: ∃d',d=d'+1:=⟨d-1,by omega⟩
  have h1:=Ji9 lo w k (d'+1) (m+1) (by omega)
  have h2:=Ji9 lo w k d' m (by omega)
  rw[show d'+1-k=(d'-k)+1 by omega,Jn8,Jg5] at h1
  rw[show d'+1-(k+1)=d'-k by omega,Jo1,Jg5,Jh3,Jm6,←h1]
  have e:(fun j=>hB lo w (d'+1) (m+1) (j+1))=fun j=>w*hB lo w d' m j:=funext fun j=>Jo7 lo w d' m j
  rw[e,Jg7,←h2]
  grind
theorem Jl8 (n k:Nat):ch (n+1) (k+1)*(k+1)=(n+1)*ch n k:=by
 have h:=Ip7 n k
 rw[show ch (n+1) (k+1)=ch n k+ch n (k+1) from rfl,Nat.add_mul,h,←Nat.mul_add]
 by_cases hk:k≤n
 ·rw[show k+1+(n-k)=n+1 by omega,Nat.mul_comm]
 ·rw[Ir8 n k (by omega),Nat.zero_mul,Nat.mul_zero]
theorem Jn9 (d m:Nat) (hm:m≤d): ∀j,j≤m→ch d m*ch m j=ch d j*ch (d-j) (m-j)
 | 0,_=>by rw[If2,If2,Nat.sub_zero,Nat.sub_zero,Nat.mul_one,Nat.one_mul]
 | j+1,h=>by
  have ih:=Jn9 d m hm j (by omega)
  have h1:=Ip7 m j
  have h2:=Ip7 d j
  obtain⟨a,ha⟩: ∃a,d-j=a+1:=⟨d-j-1,by omega⟩
  obtain⟨b,hb⟩: ∃b,m-j=b+1:=⟨m-j-1,by omega⟩
  have h3:=Jl8 a b
  rw[ha] at ih h2
  rw[hb] at ih h1
  rw[show d-(j+1)=a by omega,show m-(j+1)=b by omega]
  refine Nat.eq_of_mul_eq_mul_right (Nat.succ_pos j) ?_
  calc ch d m*ch m (j+1)*(j+1)=ch d m*(ch m (j+1)*(j+1)):=Nat.mul_assoc _ _ _
   _=ch d m*ch m j*(b+1):=by rw[h1,Nat.mul_assoc]
   _=ch d j*(ch (a+1) (b+1)*(b+1)):=by rw[ih,Nat.mul_assoc]
   _=ch d j*(a+1)*ch a b:=by rw[h3,Nat.mul_assoc]
   _=ch d (j+1)*(j+1)*ch a b:=by rw[h2]
   _=ch d (j+1)*ch a b*(j+1):=by rw[Nat.mul_assoc,Nat.mul_comm (j+1),Nat.mul_assoc]
def gB (lo hi:Rat) (d m k:Nat):Rat:=el (lst lo hi 0 (d-k) k 0) m/(ch d m:Rat)
theorem Jl9 {d m:Nat} (h:m≤d):(ch d m:Rat)≠0:=fun e=>by
 have:ch d m=0:=by exact_mod_cast e
 have:=Jn2 d m h
 omega
theorem Jo5 {lo w:Rat} {d m k:Nat} (hm:m≤d) (hk:k≤d):Jd3 (d+1) (Jb7 lo w (d+1) (uv m)) k=gB lo (lo+w) d m k:=by
 unfold Jd3 gB
 rw[Ji9 lo w k d m hk]
 have e: ∀j,j<d+1→Jb7 lo w (d+1) (uv m) j/(ch (d+1-1) j:Rat)=(1/(ch d m:Rat))*hB lo w d m j:=fun j hj=>by
  rw[Jo6 (by omega) hj,Nat.add_sub_cancel]
  unfold hB
  by_cases h:j≤m
  ·rw[if_pos h,if_pos h]
   have h1:=Jl9 hm
   have h2:=Jl9 (d:=d) (m:=j) (by omega)
   have h3:=congrArg (fun x:Nat=>(x:Rat)) (Jn9 d m hm j h)
   simp only[Rat.natCast_mul] at h3
   grind
  ·rw[if_neg h,if_neg h];grind
 rw[Ih1 (n:=d+1) e (k+1) (by omega),Jg7]
 grind
end Go.SX
/- Lines written from their ends: plain law. -/
namespace Go.SX
end Go.SX
