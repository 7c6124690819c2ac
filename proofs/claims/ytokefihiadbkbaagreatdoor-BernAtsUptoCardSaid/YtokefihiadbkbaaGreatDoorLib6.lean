/- Coefficients where a variable is moved, and in the basis of Bernstein: plain law, and how great they are. -/
import Derived.Test.YtokefihiadbkbaaGreatDoorLib5
set_option linter.unusedVariables false
set_option linter.unusedSimpArgs false
namespace Go.SX
def ch:Nat→Nat→Nat
 | _,0=>1
 | 0,_+1=>0
 | n+1,k+1=>ch n k+ch n (k+1)
theorem If2: ∀n,ch n 0=1
 | 0=>rfl
 | _+1=>rfl
theorem Ir8: ∀n k,n<k→ch n k=0
 | 0,0,h=>absurd h (Nat.lt_irrefl _)
 | 0,k+1,_=>rfl
 | n+1,0,h=>absurd h (Nat.not_lt_zero _)
 | n+1,k+1,h=>by rw[ch,Ir8 n k (by omega),Ir8 n (k+1) (by omega)]
theorem Ip7: ∀n k,ch n (k+1)*(k+1)=ch n k*(n-k)
 | 0,k=>by
  rw[Nat.zero_sub,Nat.mul_zero,ch,Nat.zero_mul]
 | n+1,0=>by
  show(ch n 0+ch n 1)*1=ch (n+1) 0*(n+1)
  rw[If2,If2]
  have:ch n 1*1=ch n 0*n:=Ip7 n 0
  rw[If2] at this
  omega
 | n+1,k+1=>by
  have h1:=Ip7 n (k+1)
  have h2:=Ip7 n k
  rw[ch,ch,Nat.add_mul,h1]
  by_cases hk:k+1≤n
  ·have e1:n+1-(k+1)=n-k:=by omega
   have e2:n-k=(n-(k+1))+1:=by omega
   rw[e1,Nat.add_mul,←h2,←Nat.mul_add,←Nat.mul_add]
   congr 1
   omega
  ·rw[Ir8 n (k+1) (by omega),Nat.zero_mul,Nat.zero_mul,show n+1-(k+1)=0 by omega,Nat.mul_zero]
theorem Jb3: ∀n k,ch n k≤2^n
 | n,0=>by rw[If2];exact Nat.one_le_two_pow
 | 0,_+1=>Nat.zero_le _
 | n+1,k+1=>by
  have h1:=Jb3 n k
  have h2:=Jb3 n (k+1)
  rw[ch,Nat.pow_succ]
  omega
theorem Iq6 {n:Nat} (h:n≤16) (k:Nat):ch n k≤65536:=Nat.le_trans (Jb3 n k) (Nat.pow_le_pow_right (by decide) h)
theorem Jc6 (n k:Nat):ch n k*(n-k)/(k+1)=ch n (k+1):=by rw[←Ip7];exact Nat.mul_div_cancel _ (Nat.succ_pos k)
def hor (lo:Rat) (g:Nat→Rat):Nat→Nat→Rat
 | 0,_=>0
 | r+1,j=>g j+lo*hor lo g r (j+1)
def mv (lo:Rat) (n:Nat) (f:Nat→Rat):Nat→Nat→Rat
 | 0,i=>f i
 | k+1,i=>if i<k then mv lo n f k i else hor lo (mv lo n f k) (n-i) i
def mvS (lo:Rat) (n:Nat) (f:Nat→Rat) (k e i:Nat):Rat:=if e≤i then hor lo (mv lo n f k) (n-i) i else mv lo n f k i
theorem Iy5 {lo:Rat} {n:Nat} {f:Nat→Rat} {k i:Nat} (hi:i<n):mvS lo n f k (n-1) i=mv lo n f k i:=by
 unfold mvS
 by_cases e:n-1≤i
 ·rw[if_pos e,show n-i=1 by omega,hor,hor,Rat.mul_zero,Rat.add_zero]
 ·rw[if_neg e]
theorem Ix9 {lo:Rat} {n:Nat} {f:Nat→Rat} {k z:Nat} (hz:z+1<n):mvS lo n f k z=Ij6 (mvS lo n f k (z+1)) z (mvS lo n f k (z+1) z+lo*mvS lo n f k (z+1) (z+1)):=by
 funext i
 unfold Ij6
 by_cases e:i=z
 ·subst e
  rw[if_pos rfl]
  unfold mvS
  rw[if_pos (Nat.le_refl _),if_neg (by omega),if_pos (Nat.le_refl _),show n-i=(n-(i+1))+1 by omega,hor]
 ·rw[if_neg e]
  unfold mvS
  by_cases e2:z+1≤i
  ·rw[if_pos e2,if_pos (by omega)]
  ·rw[if_neg e2,if_neg (by omega)]
theorem Iw8 {lo:Rat} {n:Nat} {f:Nat→Rat} {k:Nat} :mvS lo n f k k=mv lo n f (k+1):=by
 funext i
 unfold mvS
 rw[mv]
 by_cases e:k≤i
 ·rw[if_pos e,if_neg (by omega)]
 ·rw[if_neg e,if_pos (by omega)]
theorem Iq4 {D N E M n:Nat} {lo:Rat} {g:Nat→Rat} (hg:Id9 n D N g) (hl:Ak3 E M lo): ∀r j,j+r≤n→Ak3 (D*E^r) (N*(E+M)^r) (hor lo g r j)
 | 0,j,_=>Ak3.zero
 | r+1,j,h=>by
  have h1:=(hg j (by omega)).scale (E^(r+1))
  have h2:=hl.mul (Iq4 hg hl r (j+1) (by omega))
  rw[show E*(D*E^r)=D*E^(r+1) by rw[Nat.pow_succ];grind] at h2
  refine(h1.add h2).mono ?_
  have e1:E^r≤(E+M)^r:=Nat.pow_le_pow_left (Nat.le_add_right _ _) r
  have e2:N*E^(r+1)≤N*((E+M)^r*E):=by rw[Nat.pow_succ];exact Nat.mul_le_mul_left _ (Nat.mul_le_mul_right _ e1)
  have e3:N*(E+M)^(r+1)=N*((E+M)^r*E)+M*(N*(E+M)^r):=by rw[Nat.pow_succ];grind
  omega
theorem Ak3.up {D N E M r n:Nat} {q:Rat} (h:Ak3 (D*E^r) (N*(E+M)^r) q) (hr:r≤n):Ak3 (D*E^n) (N*(E+M)^n) q:=by
 have h1:=h.scale (E^(n-r))
 rw[Nat.mul_assoc,←Nat.pow_add,show r+(n-r)=n by omega] at h1
 refine h1.mono ?_
 rw[Nat.mul_assoc]
 refine Nat.mul_le_mul_left _ ?_
 have e1:E^(n-r)≤(E+M)^(n-r):=Nat.pow_le_pow_left (Nat.le_add_right _ _) _
 have e2:(E+M)^r*(E+M)^(n-r)=(E+M)^n:=by rw[←Nat.pow_add];congr 1;omega
 rw[←e2]
 exact Nat.mul_le_mul_left _ e1
theorem Iv8 {D N E M n:Nat} {lo:Rat} {f:Nat→Rat} (hf:Id9 n D N f) (hl:Ak3 E M lo): ∀k,Id9 n (D*(E^n)^k) (N*((E+M)^n)^k) (mv lo n f k)
 | 0=>by rw[Nat.pow_zero,Nat.pow_zero,Nat.mul_one,Nat.mul_one];exact hf
 | k+1=>fun i hi=>by
  have h:=Iv8 hf hl k
  rw[Nat.pow_succ,Nat.pow_succ,←Nat.mul_assoc,←Nat.mul_assoc,mv]
  split
  ·exact Ak3.up (r:=0) (by rw[Nat.pow_zero,Nat.pow_zero,Nat.mul_one,Nat.mul_one];exact h i hi) (Nat.zero_le _)
  ·exact Ak3.up (Iq4 h hl (n-i) i (by omega)) (by omega)
theorem Jb1 {D N E M n k e:Nat} {lo:Rat} {f:Nat→Rat} (hf:Id9 n D N f) (hl:Ak3 E M lo):Id9 n (D*(E^n)^(k+1)) (N*((E+M)^n)^(k+1)) (mvS lo n f k e):=fun i hi=>by
 have h:=Iv8 hf hl k
 rw[Nat.pow_succ,Nat.pow_succ,←Nat.mul_assoc,←Nat.mul_assoc]
 unfold mvS
 split
 ·exact Ak3.up (Iq4 h hl (n-i) i (by omega)) (by omega)
 ·exact Ak3.up (r:=0) (by rw[Nat.pow_zero,Nat.pow_zero,Nat.mul_one,Nat.mul_one];exact h i hi) (Nat.zero_le _)
theorem Ie6 {E n k l:Nat} (hE:nl E≤l) (hn:n≤17) (hk:k≤17):nl ((E^n)^k)≤(l*17+1)*17+1:=by
 have h1:=Cf5 E n
 have h2:=Cf5 (E^n) k
 have h3:nl E*n≤l*17:=Nat.mul_le_mul hE hn
 have h4:nl (E^n)*k≤(l*17+1)*17:=Nat.mul_le_mul (by omega) hk
 omega
def Jb7 (lo w:Rat) (n:Nat) (f:Nat→Rat) (i:Nat):Rat:=mv lo n f n i*w^i
def Ix4 (w:Rat) (g:Nat→Rat) (p i:Nat):Rat:=if i<p then g i*w^i else g i
theorem Iv4 (w:Rat) (g:Nat→Rat):Ix4 w g 0=g:=by funext i;unfold Ix4;rw[if_neg (Nat.not_lt_zero _)]
theorem Ix0 (w:Rat) (g:Nat→Rat) (p:Nat):Ix4 w g (p+1)=Ij6 (Ix4 w g p) p (Ix4 w g p p*w^p):=by
 funext i
 unfold Ij6 Ix4
 by_cases e:i=p
 ·subst e;rw[if_pos (by omega),if_pos rfl,if_neg (by omega)]
 ·rw[if_neg e]
  by_cases e2:i<p
  ·rw[if_pos e2,if_pos (by omega)]
  ·rw[if_neg e2,if_neg (by omega)]
theorem Jb6 {E M n:Nat} {w:Rat} (hw:Ak3 E M w) {D N i:Nat} {q:Rat} (hq:Ak3 D N q) (hi:i≤n):Ak3 (D*E^n) (N*(E+M)^n) (q*w^i):=by
 refine Ak3.up (r:=i) ((hq.mul (hw.pow i)).mono ?_) hi
 exact Nat.mul_le_mul_left _ (Nat.pow_le_pow_left (Nat.le_add_left _ _) i)
def chK:Nat:=12252240
theorem Ja2: ∀d,d<17→∀i,i<17→i≤d→ch d i∣chK:=by decide +kernel
theorem Iw5 {D N c:Nat} {q:Rat} (h:Ak3 D N q) (hc:c∣chK):Ak3 (D*chK) (N*chK) (q/(c:Rat)):=by
 obtain⟨m,hm⟩:=hc
 obtain⟨z,h1,h2⟩:=h
 have hc0:c≠0:=fun e=>by rw[e,Nat.zero_mul] at hm;exact absurd hm (by decide)
 have hcq:(c:Rat)≠0:=fun e=>hc0 (by exact_mod_cast e)
 refine⟨z*m,?_,?_⟩
 ·rw[hm]
  push_cast
  rw[←h1]
  grind
 ·rw[Int.natAbs_mul]
  refine Nat.mul_le_mul h2 ?_
  rw[hm]
  exact Nat.le_mul_of_pos_left _ (Nat.pos_iff_ne_zero.2 hc0)
def dvS (d:Nat) (g:Nat→Rat) (p i:Nat):Rat:=if i<p then g i/(ch d i:Rat) else g i
theorem Iz1 (d:Nat) (g:Nat→Rat):dvS d g 0=g:=by funext i;unfold dvS;rw[if_neg (Nat.not_lt_zero _)]
theorem Iy8 (d:Nat) (g:Nat→Rat) (p:Nat):dvS d g (p+1)=Ij6 (dvS d g p) p (dvS d g p p/(ch d p:Rat)):=by
 funext i
 unfold Ij6 dvS
 by_cases e:i=p
 ·subst e;rw[if_pos (by omega),if_pos rfl,if_neg (by omega)]
 ·rw[if_neg e]
  by_cases e2:i<p
  ·rw[if_pos e2,if_pos (by omega)]
  ·rw[if_neg e2,if_neg (by omega)]
def Iv7 (g:Nat→Rat) (k:Nat):Nat→Rat
 | 0=>0
 | j+1=>Iv7 g k j+(ch k j:Rat)*g j
def smS (g:Nat→Rat) (e i:Nat):Rat:=if e≤i then Iv7 g i (i+1) else g i
theorem Iz5 (g:Nat→Rat) (k:Nat):smS g k=Ij6 (smS g (k+1)) k (Iv7 g k (k+1)):=by
 funext i
 unfold Ij6 smS
 by_cases e:i=k
 ·subst e;rw[if_pos (Nat.le_refl _),if_pos rfl]
 ·rw[if_neg e]
  by_cases e2:k+1≤i
  ·rw[if_pos e2,if_pos (by omega)]
  ·rw[if_neg e2,if_neg (by omega)]
def Jd3 (n:Nat) (f:Nat→Rat) (i:Nat):Rat:=Iv7 (fun j=>f j/(ch (n-1) j:Rat)) i (i+1)
theorem Ii0 {D N n k:Nat} {g:Nat→Rat} (h:Id9 n D N g) (hk:k≤16): ∀m,m≤n→Ak3 D (N*65536*m) (Iv7 g k m)
 | 0,_=>Ak3.zero
 | m+1,hm=>by
  have h1:=(Ak3.int ((ch k m:Nat):Int)).mul (h m (by omega))
  rw[Nat.one_mul] at h1
  refine((Ii0 h hk m (by omega)).add (h1.mono (N':=N*65536) ?_)).mono (by rw[Nat.mul_add,Nat.mul_one];exact Nat.le_refl _)
  rw[Nat.mul_comm]
  exact Nat.mul_le_mul_left _ (by simpa using Iq6 hk m)
theorem Ih1 {g h:Nat→Rat} {n k:Nat} (e: ∀i,i<n→g i=h i): ∀m,m≤n→Iv7 g k m=Iv7 h k m
 | 0,_=>rfl
 | m+1,hm=>by rw[Iv7,Iv7,Ih1 e m (by omega),e m (by omega)]
end Go.SX
/- Neighbours brought together: the sum in the basis of Bernstein. Moved by Horner's rule: binomials. -/
namespace Go.SX
def Ik1 (u:Rat) (f:Nat→Rat) (r i:Nat):Nat→Rat
 | 0=>0
 | m+1=>Ik1 u f r i m+(ch r m:Rat)*u^m*(1-u)^(r-m)*f (i+m)
theorem Io4 {u:Rat} {f:Nat→Rat} {r i:Nat} : ∀m,m≤r→Ik1 u f (r+1) i (m+1)=(1-u)*Ik1 u f r i (m+1)+u*Ik1 u f r (i+1) m
 | 0,h=>by
  simp only[Ik1,If2,Nat.sub_zero,Nat.add_zero]
  rw[Rat.pow_succ (1-u) r]
  grind
 | m+1,h=>by
  rw[Ik1,Io4 m (by omega)]
  have e1:Ik1 u f r i (m+1+1)=Ik1 u f r i (m+1)+(ch r (m+1):Rat)*u^(m+1)*(1-u)^(r-(m+1))*f (i+(m+1)):=rfl
  have e2:Ik1 u f r (i+1) (m+1)=Ik1 u f r (i+1) m+(ch r m:Rat)*u^m*(1-u)^(r-m)*f (i+1+m):=rfl
  rw[e1,e2,show r+1-(m+1)=r-m by omega,show i+1+m=i+(m+1) by omega,show(1-u)^(r-m)=(1-u)^(r-(m+1))*(1-u) by rw[←Rat.pow_succ];congr 1;omega,show ch (r+1) (m+1)=ch r m+ch r (m+1) from rfl]
  rw[Rat.pow_succ u m]
  push_cast
  generalize Ik1 u f r i (m+1)=A
  generalize Ik1 u f r (i+1) m=B
  generalize (1-u)^(r-(m+1))=V
  generalize u^m=U
  generalize f (i+(m+1))=X
  grind
theorem Iv3 (u:Rat) (f:Nat→Rat): ∀r i,dc u f r i=Ik1 u f r i (r+1)
 | 0,i=>by
  show f i=0+(ch 0 0:Rat)*u^0*(1-u)^0*f (i+0)
  rw[If2,Rat.pow_zero,Rat.pow_zero,Nat.add_zero]
  grind
 | r+1,i=>by
  rw[dc,Iv3 u f r i,Iv3 u f r (i+1)]
  have e0:Ik1 u f (r+1) i (r+1+1)=Ik1 u f (r+1) i (r+1)+(ch (r+1) (r+1):Rat)*u^(r+1)*(1-u)^(r+1-(r+1))*f (i+(r+1)):=rfl
  have e1:Ik1 u f r (i+1) (r+1)=Ik1 u f r (i+1) r+(ch r r:Rat)*u^r*(1-u)^(r-r)*f (i+1+r):=rfl
  rw[e0,Io4 r (Nat.le_refl _),e1,show ch (r+1) (r+1)=ch r r+ch r (r+1) from rfl,Ir8 r (r+1) (by omega),Nat.sub_self,Nat.sub_self,Rat.pow_succ u r,Rat.pow_zero,show i+1+r=i+(r+1) by omega,Nat.add_zero]
  unfold btw
  generalize Ik1 u f r i (r+1)=A
  generalize Ik1 u f r (i+1) r=B
  generalize u^r=U
  generalize f (i+(r+1))=X
  grind
def ws (lo:Rat) (f:Nat→Rat) (k i:Nat):Nat→Rat
 | 0=>0
 | m+1=>ws lo f k i m+(ch (m+k) k:Rat)*lo^m*f (i+m)
end Go.SX
/- Lines written from their ends: plain law. -/
namespace Go.SX
def Ig3 (st n:Nat) (T:(Nat→Rat)→Nat→Rat) (F:Nat→Rat) (t m k:Nat):Rat:=if Ie3 st n k=t∧n≤k/st%n+m then Id6 st n T F k else Id7 st n T F t k
theorem Iq0 {st n:Nat} (hs:0<st) (hn:0<n) (T:(Nat→Rat)→Nat→Rat) (F:Nat→Rat) (t:Nat):Ig3 st n T F t 0=Id7 st n T F t:=by
 funext k
 unfold Ig3
 have:=(Id8 (k:=k) hs hn).2.2.2
 rw[if_neg (by omega)]
theorem It1 {st n t:Nat} {T:(Nat→Rat)→Nat→Rat} {F:Nat→Rat} :Ig3 st n T F t n=Id7 st n T F (t+1):=by
 funext k
 unfold Ig3 Id7
 by_cases e:Ie3 st n k=t
 ·rw[if_pos ⟨e,by omega⟩,if_pos (by omega)]
 ·rw[if_neg (fun h=>e h.1)]
  by_cases e2:Ie3 st n k<t
  ·rw[if_pos e2,if_pos (by omega)]
  ·rw[if_neg e2,if_neg (by omega)]
theorem Ir2 {st n R t m:Nat} {T:(Nat→Rat)→Nat→Rat} {F:Nat→Rat} (hs:0<st) (hn:0<n) (ht:t<st*n*R) (h0:t/st%n=0) (hm:m<n):Ig3 st n T F t (m+1)=fun k=>if k=t+(n-1-m)*st then T (fun j=>F (t+j*st)) (n-1-m) else Ig3 st n T F t m k:=by
 obtain⟨_,h2,h3⟩:=Ig2 hs hn ht h0 (show n-1-m<n by omega)
 funext k
 by_cases e:k=t+(n-1-m)*st
 ·subst e
  rw[if_pos rfl]
  unfold Ig3 Id6
  rw[h3,h2,if_pos ⟨rfl,by omega⟩]
 ·rw[if_neg e]
  unfold Ig3
  by_cases e1:Ie3 st n k=t∧n≤k/st%n+m
  ·rw[if_pos e1,if_pos ⟨e1.1,by omega⟩]
  ·rw[if_neg e1,if_neg]
   rintro⟨e2,e3⟩
   refine e ?_
   have h4:=(Id8 (k:=k) hs hn).2.2.1
   have:k/st%n=n-1-m:=by
    refine Classical.byContradiction fun hne=>e1 ⟨e2,by omega⟩
   rw[e2,this] at h4
   exact h4
end Go.SX
