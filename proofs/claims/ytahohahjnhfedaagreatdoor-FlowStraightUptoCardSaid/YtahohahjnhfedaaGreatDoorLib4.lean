/- The greatest weight of a polynomial's monomials: of sums and of products. -/
import Derived.Test.YtahohahjnhfedaaGreatDoorLib3
import Derived.Test.YtahohahjnhfedaaGreatDoorSx1
import Derived.Test.YtahohahjnhfedaaGreatDoorLib2
import Derived.JoinedCond
set_option linter.unusedVariables false
set_option linter.unusedSimpArgs false
namespace Go.SX
def Fd0 (w:Mon→Int) (n:Int) (p:List Tm):Int:=p.foldl (fun a t=>mx a (w t.1)) n
theorem Em4 (w:Mon→Int) (n:Int) (l:List Tm) (t:Tm):Fd0 w n (l ++ [t])=mx (Fd0 w n l) (w t.1):=by simp[Fd0]
theorem Hx0 {w:Mon→Int} {n e:Int} {p:List Tm} (hn:n≤e) (h: ∀t∈p,w t.1≤e):Fd0 w n p≤e:=by
 induction p generalizing n with
 | nil=>exact hn
 | cons t r ih=>
  refine ih (n:=mx n (w t.1)) ?_ fun u hu=>h u (by simp[hu])
  have:=h t (by simp)
  unfold mx
  split<;>omega
theorem Hv3 {w:Mon→Int} {n:Int} {p:List Tm} :n≤Fd0 w n p∧∀t∈p,w t.1≤Fd0 w n p:=by
 induction p generalizing n with
 | nil=>exact⟨Int.le_refl _,by simp⟩
 | cons t r ih=>
  have:=ih (n:=mx n (w t.1))
  have e:Fd0 w n (t :: r)=Fd0 w (mx n (w t.1)) r:=rfl
  rw[e]
  have h1:n≤mx n (w t.1)∧w t.1≤mx n (w t.1):=by unfold mx;split<;>omega
  refine⟨by omega,fun u hu=>?_⟩
  rcases List.mem_cons.1 hu with rfl | hu
  ·omega
  ·exact this.2 u hu
end Go.SX
/- How great the numbers of short texts are. -/
namespace Go.SX
theorem Bg1 {a:ByteArray} {x m k:Nat} (h:Ad2 a=some x) (hs:a.size≤m) (hm:10^m≤B^k):nl x≤k:=by
 obtain⟨h1,_⟩:=Bq9 h
 exact Bc6 (Nat.lt_of_lt_of_le h1 (Nat.le_trans (Nat.pow_le_pow_right (by decide) hs) hm))
theorem Cf0 {a:ByteArray} {z:Int} {m k:Nat} (h:Ac3 a=some z) (hs:a.size≤m) (hm:10^m≤B^k):nl z.natAbs≤k:=by
 unfold Ac3 at h
 split at h
 ·split at h
  ·rename_i x hx
   split at h
   ·cases h
   ·cases h;rw[Int.natAbs_neg,Int.natAbs_natCast];exact Bg1 hx (by rw[ByteArray.size_extract];omega) hm
  ·cases h
 ·cases hp:Ad2 a with
  | none=>rw[hp] at h;cases h
  | some x=>
   rw[hp] at h
   cases h
   exact Bg1 hp hs hm
theorem Du4 {a:ByteArray} {q:Rat} {m k:Nat} (h:Ab7 a=some q) (hs:a.size≤m) (hm:10^m≤B^k) (hk:1≤k):Sz k q:=by
 unfold Ab7 at h
 split at h
 ·cases hp:Ac3 a with
  | none=>rw[hp] at h;cases h
  | some z=>
   rw[hp] at h
   cases h
   exact⟨by rw[Rat.num_intCast];exact Cf0 hp hs hm,by rw[Rat.den_intCast,Ax0];omega⟩
 ·split at h
  ·rename_i n d hn hd
   split at h
   ·cases h
   ·rename_i i _ hc
    cases h
    have hd0:d≠0:=by omega
    exact Sz.mk (Cf0 hn (by rw[ByteArray.size_extract];omega) hm) (Bg1 hd (by rw[ByteArray.size_extract];omega) hm) hd0
  ·cases h
theorem Ct3 {a:ByteArray} {q:Rat} (h:Ab7 a=some q) (hs:a.size≤30):Sz 4 q:=Du4 h hs (by decide) (by decide)
end Go.SX
/- Rows of polynomials. -/
namespace Go.SX
def Gx4 (tu tt:TypeId) (W:PW) (x:List Value) (p:List Tm):Prop:=∃s:Sl,x = [s.v]∧Ab0 tu tt W s p
theorem Gx4.ext {tu tt:TypeId} {W W':PW} {x:List Value} {p:List Tm} (h:Gx4 tu tt W x p) (hE:Ext W W'):Gx4 tu tt W' x p:=let⟨s,e,h⟩:=h;⟨s,e,h.ext hE⟩
def Gf4 (tu tt:TypeId) (W:PW) (s:Sl) (ps:List (List Tm)):Prop:=∃xs,Bf9 W 1 s xs∧An5 (Gx4 tu tt W) xs ps
theorem Gf4.ext {tu tt:TypeId} {W W':PW} {s:Sl} {ps:List (List Tm)} (h:Gf4 tu tt W s ps) (hE:Ext W W'):Gf4 tu tt W' s ps:=let⟨xs,h1,h2⟩:=h;⟨xs,h1.ext hE,h2.mono fun _ _ h=>h.ext hE⟩
theorem Gf4.n {tu tt:TypeId} {W:PW} {s:Sl} {ps:List (List Tm)} (h:Gf4 tu tt W s ps):s.n=ps.length:=let⟨xs,⟨_,h1⟩,h2⟩:=h;h1.1.trans h2.len
theorem Gf4.inB {tu tt:TypeId} {W:PW} {s:Sl} {ps:List (List Tm)} (h:Gf4 tu tt W s ps) {i:Int} (h0:0≤i) (h1:i<(ps.length:Int)):SX.inB s i:=let⟨xs,⟨_,h2⟩,h3⟩:=h;h2.inB h0 (by rw[h3.len];exact h1)
theorem Gf4.at {tu tt:TypeId} {W:PW} {s:Sl} {ps:List (List Tm)} (h:Gf4 tu tt W s ps) {i:Nat} (hi:i<ps.length): ∃x:Sl,Aa7 W s 1 i 0 [x.v]∧Ab0 tu tt W x ps[i]:=by
 obtain⟨xs,⟨_,h1⟩,h2⟩:=h
 obtain⟨x,hx,y,rfl,hp⟩:=h2.get (List.getElem?_eq_getElem hi)
 exact⟨y,h1.part hx 0 rfl,hp⟩
theorem Gf4.nil {tu tt:TypeId} (W:PW):Gf4 tu tt W ⟨none,0,0⟩ []:=⟨[],⟨0,rfl,Nat.le_refl _,Nat.zero_le _,fun x h=>by simp at h,.inl rfl⟩,trivial⟩
end Go.SX
/- A polynomial in normal form has no more terms than there are monomials. -/
namespace Go.SX
def Mon.code (m:Mon):Nat:=(m.x*65536+m.y*256+m.z).toNat
theorem Mon.Gy9 {m:Mon} (h:m.ok):m.code<16777216:=by unfold Mon.code;unfold Mon.ok at h;omega
theorem Mon.Gw9 {a b:Mon} (ha:a.ok) (hb:b.ok) (h:a.code=b.code):a=b:=by
 unfold Mon.code at h
 unfold Mon.ok at ha hb
 exact Mon.Fp2 (by omega) (by omega) (by omega)
theorem Gj2: ∀{n:Nat} {l:List Nat} (_:l.Nodup) (_: ∀x∈l,x<n),l.length≤n
 | 0,l,_,h=>by
  cases l with
  | nil=>exact Nat.le_refl _
  | cons x r=>exact absurd (h x (by simp)) (Nat.not_lt_zero x)
 | n+1,l,hn,h=>by
  have h1:=Gj2 (n:=n) (l:=l.filter fun x=>x != n) (hn.sublist List.filter_sublist) fun x hx=>by
   obtain⟨a,b⟩:=List.mem_filter.1 hx
   have:=h x a
   simp at b
   omega
  have h2:l.length≤(l.filter fun x=>x != n).length+1:=by
   clear h1 h
   induction l with
   | nil=>simp
   | cons y r ih=>
    rw[List.nodup_cons] at hn
    by_cases e:y=n
    ·subst e
     have:(r.filter fun x=>x != y)=r:=List.filter_eq_self.2 fun x hx=>by
      have:x≠y:=fun e=>hn.1 (e ▸ hx)
      simpa using this
     simp[this]
    ·have:=ih hn.2
     simp[e]
     omega
  omega
theorem Av6.len {p:List Tm} (h:Av6 p) (ho:POk p):p.length≤16777216:=by
 have h1:(p.map fun t=>t.1.code).Nodup:=by
  have:p.Pairwise fun a b=>a.1.code≠b.1.code:=by
   refine List.Pairwise.imp_of_mem ?_ h.srt
   intro a b ha hb hlt e
   exact Mon.Eg6 hlt (Mon.Gw9 (ho a ha) (ho b hb) e)
  exact List.pairwise_map.2 this
 have:=Gj2 h1 fun x hx=>by
  obtain⟨t,ht,rfl⟩:=List.mem_map.1 hx
  exact Mon.Gy9 (ho t ht)
 simpa using this
end Go.SX
/- Intervals of rational numbers, and what a polynomial's terms come to on them: laws. -/
namespace Go.SX
abbrev Iv:=Rat×Rat
def Az9 (a b:Rat):Rat:=if b<a then b else a
def Au7 (a b:Rat):Rat:=if a<b then b else a
def Eb6 (q:Rat):Iv:=(q,q)
def Ag0 (a b:Rat):Iv:=(Az9 a b,Au7 a b)
def Bu9 (x y:Iv):Iv:=(Az9 x.1 y.1,Au7 x.2 y.2)
def Cb5 (x y:Iv):Iv:=(x.1+y.1,x.2+y.2)
def Ay9 (x y:Iv):Iv:=Bu9 (Ag0 (x.1*y.1) (x.2*y.2)) (Ag0 (x.1*y.2) (x.2*y.1))
def De8 (x:Iv) (r:Rat):Iv:=Ag0 (x.1*r) (x.2*r)
def Ai3 (x:Iv) (n:Nat):Iv:=if 0<n∧n%2=0∧x.1≤0∧0≤x.2 then(0,Au7 (x.1^n) (x.2^n)) else Ag0 (x.1^n) (x.2^n)
theorem Dj0 (a b:Rat):Az9 a b=a∨Az9 a b=b:=by unfold Az9;split<;>simp
theorem Dj7 (a b:Rat):Au7 a b=a∨Au7 a b=b:=by unfold Au7;split<;>simp
theorem Dh5 (a b:Rat):Az9 a b≤a∧Az9 a b≤b:=by unfold Az9;split<;>grind
theorem Cl6 (a b:Rat):a≤Au7 a b∧b≤Au7 a b:=by unfold Au7;split<;>grind
def Au6 (D N:Nat) (x:Iv):Prop:=Ak3 D N x.1∧Ak3 D N x.2
def BdI (k:Nat) (x:Iv):Prop:=∃D N,Au6 D N x∧D≠0∧nl D≤k∧nl N≤k
theorem Ak3.Az9 {D N:Nat} {a b:Rat} (h:Ak3 D N a) (k:Ak3 D N b):Ak3 D N (Az9 a b):=by rcases Dj0 a b with e | e<;>rw[e]<;>assumption
theorem Ak3.Au7 {D N:Nat} {a b:Rat} (h:Ak3 D N a) (k:Ak3 D N b):Ak3 D N (Au7 a b):=by rcases Dj7 a b with e | e<;>rw[e]<;>assumption
theorem Au6.mono {D N N':Nat} {x:Iv} (h:Au6 D N x) (hn:N≤N'):Au6 D N' x:=⟨h.1.mono hn,h.2.mono hn⟩
theorem Au6.scale {D N:Nat} {x:Iv} (h:Au6 D N x) (E:Nat):Au6 (D*E) (N*E) x:=⟨h.1.scale E,h.2.scale E⟩
theorem Au6.add {D N N':Nat} {x y:Iv} (h:Au6 D N x) (k:Au6 D N' y):Au6 D (N+N') (Cb5 x y):=⟨h.1.add k.1,h.2.add k.2⟩
theorem Au6.Em8 {D N:Nat} {a b:Rat} (h:Ak3 D N a) (k:Ak3 D N b):Au6 D N (Ag0 a b):=⟨h.Az9 k,h.Au7 k⟩
theorem Au6.Fv1 {D N:Nat} {x y:Iv} (h:Au6 D N x) (k:Au6 D N y):Au6 D N (Bu9 x y):=⟨h.1.Az9 k.1,h.2.Au7 k.2⟩
theorem Au6.mul {D E N M:Nat} {x y:Iv} (h:Au6 D N x) (k:Au6 E M y):Au6 (D*E) (N*M) (Ay9 x y):=
 Au6.Fv1 (Au6.Em8 (h.1.mul k.1) (h.2.mul k.2)) (Au6.Em8 (h.1.mul k.2) (h.2.mul k.1))
theorem Sz.Fe7 {k:Nat} {q:Rat} (h:Sz k q) (n:Nat):Sz (k*n+1) (q^n):=by
 induction n with
 | zero=>rw[Rat.pow_zero];exact Sz.one (by omega)
 | succ n ih=>
  rw[Rat.pow_succ]
  exact(ih.mul h).mono (by rw[Nat.mul_add];omega)
theorem Ak3.pow {D N:Nat} {q:Rat} (h:Ak3 D N q) (n:Nat):Ak3 (D^n) (N^n) (q^n):=by
 induction n with
 | zero=>rw[Rat.pow_zero];exact Ak3.int 1
 | succ n ih=>rw[Rat.pow_succ,Nat.pow_succ,Nat.pow_succ];exact ih.mul h
theorem Au6.pow {D N:Nat} {x:Iv} (h:Au6 D N x) (n:Nat):Au6 (D^n) (N^n) (Ai3 x n):=by
 unfold Ai3
 split
 ·exact⟨Ak3.zero,(h.1.pow n).Au7 (h.2.pow n)⟩
 ·exact Au6.Em8 (h.1.pow n) (h.2.pow n)
theorem Ch9 {x:Nat} (hx:x≠0) (e:Nat):x^e≠0:=Nat.pos_iff_ne_zero.1 (Nat.pow_pos (Nat.pos_iff_ne_zero.2 hx))
theorem Cf5 (a n:Nat):nl (a^n)≤nl a*n+1:=by
 induction n with
 | zero=>rw[Nat.pow_zero,Ax0];omega
 | succ n ih=>
  rw[Nat.pow_succ]
  have:=Ae5 (a^n) a
  rw[Nat.mul_add,Nat.mul_one]
  omega
theorem BdI.mono {k k':Nat} {x:Iv} (h:BdI k x) (hk:k≤k'):BdI k' x:=let⟨D,N,h1,h2,h3,h4⟩:=h;⟨D,N,h1,h2,Nat.le_trans h3 hk,Nat.le_trans h4 hk⟩
theorem BdI.sz {k:Nat} {x:Iv} (h:BdI k x):Sz k x.1∧Sz k x.2:=let⟨D,N,h1,h2,h3,h4⟩:=h;⟨h1.1.sz h2 h3 h4,h1.2.sz h2 h3 h4⟩
theorem BdI.pt {k:Nat} {q:Rat} (h:Sz k q):BdI k (Eb6 q):=⟨q.den,q.num.natAbs,⟨Ak3.den q,Ak3.den q⟩,q.den_nz,h.2,h.1⟩
theorem BdI.zero {k:Nat} (h:1≤k):BdI k (0,0):=BdI.pt (Sz.zero h)
theorem BdI.Co7 {k:Nat} {x:Iv} (h:Sz k x.1∧Sz k x.2):BdI (2*k+1) x:=by
 have e1:=Ae5 x.1.den x.2.den
 have e2:=Ae5 x.1.num.natAbs x.2.den
 have e3:=Ae5 x.2.num.natAbs x.1.den
 have e4:=By9 (x.1.num.natAbs*x.2.den) (x.2.num.natAbs*x.1.den)
 have h1:=h.1.1
 have h2:=h.1.2
 have h3:=h.2.1
 have h4:=h.2.2
 refine⟨x.1.den*x.2.den,x.1.num.natAbs*x.2.den+x.2.num.natAbs*x.1.den,⟨((Ak3.den x.1).scale x.2.den).mono (by omega),?_⟩,Nat.mul_ne_zero x.1.den_nz x.2.den_nz,by omega,by omega⟩
 have:=(Ak3.den x.2).scale x.1.den
 rw[Nat.mul_comm x.1.den]
 exact this.mono (by omega)
theorem BdI.mul {k k':Nat} {x y:Iv} (h:BdI k x) (h':BdI k' y):BdI (k+k') (Ay9 x y):=by
 obtain⟨D,N,h1,h2,h3,h4⟩:=h
 obtain⟨E,M,g1,g2,g3,g4⟩:=h'
 have e1:=Ae5 D E
 have e2:=Ae5 N M
 exact⟨D*E,N*M,h1.mul g1,Nat.mul_ne_zero h2 g2,by omega,by omega⟩
theorem BdI.add {k k':Nat} {x y:Iv} (h:BdI k x) (h':BdI k' y):BdI (k+k'+1) (Cb5 x y):=by
 obtain⟨D,N,h1,h2,h3,h4⟩:=h
 obtain⟨E,M,g1,g2,g3,g4⟩:=h'
 have e1:=Ae5 D E
 have e2:=Ae5 N E
 have e3:=Ae5 M D
 have e4:=By9 (N*E) (M*D)
 have:=(h1.scale E).add (show Au6 (D*E) (M*D) y by rw[Nat.mul_comm D E];exact g1.scale D)
 exact⟨D*E,N*E+M*D,this,Nat.mul_ne_zero h2 g2,by omega,by omega⟩
theorem BdI.pow {k:Nat} {x:Iv} (h:BdI k x) (n:Nat):BdI (k*n+1) (Ai3 x n):=by
 obtain⟨D,N,h1,h2,h3,h4⟩:=h
 have e1:=Cf5 D n
 have e2:=Cf5 N n
 have e3:=Nat.mul_le_mul_right n h3
 have e4:=Nat.mul_le_mul_right n h4
 exact⟨D^n,N^n,h1.pow n,Ch9 h2 n,by omega,by omega⟩
theorem BdI.scale {k l:Nat} {x:Iv} {r:Rat} (h:BdI k x) (hr:Sz l r):BdI (k+l) (De8 x r):=by
 obtain⟨D,N,h1,h2,h3,h4⟩:=h
 have e1:=Ae5 D r.den
 have e2:=Ae5 N r.num.natAbs
 have r1:=hr.1
 have r2:=hr.2
 exact⟨D*r.den,N*r.num.natAbs,Au6.Em8 (h1.1.mul (Ak3.den r)) (h1.2.mul (Ak3.den r)),Nat.mul_ne_zero h2 r.den_nz,by omega,by omega⟩
def mex (m:Mon) (k:Nat):Nat:=if k=0 then m.x.toNat else if k=1 then m.y.toNat else m.z.toNat
def Ci9 (l:Nat→Iv) (t:Tm):Nat→Iv
 | 0=>Eb6 t.2
 | j+1=>if 0<mex t.1 j then Ay9 (Ci9 l t j) (Ai3 (l j) (mex t.1 j)) else Ci9 l t j
def Aq8 (l:Nat→Iv) (p:List Tm):Iv:=p.foldl (fun a t=>Cb5 a (Ci9 l t 3)) (0,0)
theorem Bt2 (l:Nat→Iv) (p:List Tm) (t:Tm):Aq8 l (p ++ [t])=Cb5 (Aq8 l p) (Ci9 l t 3):=by simp[Aq8]
theorem Ef7 {l:Nat→Iv} {t:Tm} {k m e:Nat} (ht:Sz k t.2) (hl: ∀i,BdI m (l i)) (he: ∀i,mex t.1 i≤e): ∀j,BdI (k+j*(m*e+1)) (Ci9 l t j)
 | 0=>by rw[Nat.zero_mul,Nat.add_zero];exact BdI.pt ht
 | j+1=>by
  have h1:=Ef7 ht hl he j
  have h2:=(hl j).pow (mex t.1 j)
  have h3:=Nat.mul_le_mul_left m (he j)
  rw[Ci9]
  split
  ·exact(h1.mul h2).mono (by rw[Nat.add_mul,Nat.one_mul];omega)
  ·exact h1.mono (by rw[Nat.add_mul,Nat.one_mul];omega)
theorem Eh1 {D N e n:Nat} {x:Iv} (h:Au6 D N x) (hn:n≤e):Au6 (D^e) ((N+D)^e) (Ai3 x n):=by
 have:=(h.pow n).scale (D^(e-n))
 rw[←Nat.pow_add,show n+(e-n)=e by omega] at this
 refine this.mono ?_
 have h1:=Nat.pow_le_pow_left (show N≤N+D by omega) n
 have h2:=Nat.pow_le_pow_left (show D≤N+D by omega) (e-n)
 have h3:=Nat.mul_le_mul h1 h2
 rwa [←Nat.pow_add,show n+(e-n)=e by omega] at h3
theorem Au6.step {D N E M e n:Nat} {x y:Iv} (h:Au6 D N x) (k:Au6 E M y) (hn:n≤e):Au6 (D*E^e) (N*(M+E)^e) (if 0<n then Ay9 x (Ai3 y n) else x):=by
 split
 ·exact h.mul (Eh1 k hn)
 ·exact(h.scale (E^e)).mono (Nat.mul_le_mul_left _ (Nat.pow_le_pow_left (by omega) e))
theorem Cv6 {l:Nat→Iv} {p:List Tm} {k m e:Nat} (hp:Bd k p) (hl: ∀i,BdI m (l i)) (he: ∀t∈p,∀i,mex t.1 i≤e):BdI (k+3*((m+1)*e+1)) (Aq8 l p):=by
 obtain⟨D,N,h1,h2,h3,h4⟩:=hp
 obtain⟨D0,N0,a1,a2,a3,a4⟩:=hl 0
 obtain⟨D1,N1,b1,b2,b3,b4⟩:=hl 1
 obtain⟨D2,N2,c1,c2,c3,c4⟩:=hl 2
 have key: ∀(p:List Tm) (N A:Nat) (a:Iv),Fit D N p→(∀t∈p,∀i,mex t.1 i≤e)→Au6 (D*D0^e*D1^e*D2^e) A a→Au6 (D*D0^e*D1^e*D2^e) (A+N*((N0+D0)^e*(N1+D1)^e*(N2+D2)^e)) (p.foldl (fun a t=>Cb5 a (Ci9 l t 3)) a):=by
  intro p
  induction p with
  | nil=>intro N A a _ _ ha;exact ha.mono (by omega)
  | cons t r ih=>
   intro N A a hf hm ha
   obtain⟨n,n',g1,g2,g3⟩:=hf
   rw[List.foldl_cons]
   have ht:Au6 (D*D0^e*D1^e*D2^e) (n*(N0+D0)^e*(N1+D1)^e*(N2+D2)^e) (Ci9 l t 3):=by
    have hm:=hm t (by simp)
    exact(((show Au6 D n (Eb6 t.2) from⟨g2,g2⟩).step a1 (hm 0)).step b1 (hm 1)).step c1 (hm 2)
   refine(ih n' _ _ g3 (fun x hx=>hm x (by simp[hx])) (ha.add ht)).mono ?_
   have e1:n*(N0+D0)^e*(N1+D1)^e*(N2+D2)^e=n*((N0+D0)^e*(N1+D1)^e*(N2+D2)^e):=by simp only[Nat.mul_assoc]
   rw[e1,Nat.add_assoc,←Nat.add_mul]
   exact Nat.add_le_add_left (Nat.mul_le_mul_right _ g1) _
 have hres:=key p N 0 (0,0) h1 he ⟨Ak3.zero,Ak3.zero⟩
 have q1: ∀{x y:Nat},nl x≤m→nl y≤m→nl (x^e)≤(m+1)*e+1∧nl ((y+x)^e)≤(m+1)*e+1:=fun {x y} hx hy=>by
  have e1:=Cf5 x e
  have e2:=Cf5 (y+x) e
  have e3:=Cw6 hy hx
  have e4:=Nat.mul_le_mul_right e (show nl x≤m+1 by omega)
  have e5:=Nat.mul_le_mul_right e e3
  omega
 have u0:=q1 a3 a4
 have u1:=q1 b3 b4
 have u2:=q1 c3 c4
 have v1:=Ae5 D (D0^e)
 have v2:=Ae5 (D*D0^e) (D1^e)
 have v3:=Ae5 (D*D0^e*D1^e) (D2^e)
 have w1:=Ae5 ((N0+D0)^e) ((N1+D1)^e)
 have w2:=Ae5 ((N0+D0)^e*(N1+D1)^e) ((N2+D2)^e)
 have w3:=Ae5 N ((N0+D0)^e*(N1+D1)^e*(N2+D2)^e)
 refine⟨_,_,hres,Nat.mul_ne_zero (Nat.mul_ne_zero (Nat.mul_ne_zero h2 (Ch9 a2 e)) (Ch9 b2 e)) (Ch9 c2 e),by omega,?_⟩
 rw[Nat.zero_add]
 omega
theorem Bl8 {n:Nat} (h:0<n):(0:Rat)^n=0:=by
 cases n with
 | zero=>omega
 | succ n=>rw[Rat.pow_succ,Rat.mul_zero]
end Go.SX
/- Models: a polynomial and a rest; how great their numbers are: laws. -/
namespace Go.SX
def Fc6 (b:Nat→Iv) (n:Int):Prop:=(b 0).1≤(b 0).2∧(b 1).1≤(b 1).2∧(b 2).1≤(b 2).2∧0≤n∧n≤8
instance (b:Nat→Iv) (n:Int):Decidable (Fc6 b n):=by unfold Fc6;infer_instance
end Go.SX
/- The closed facts that a row asks, in parts: a great program's are asked one part after the other. -/
namespace Go
def Fc7 (P:Program) (f:FuncId) (fn:Func) (s:ChangeSpec) (c:OpenClaim):Bool:=c.wf (OpenSpec.ofChange s) && laidOutB P && mapsRowed P && fn.params.all (P.readableRec ·) && namedTie P c.named s.vars && (c.stops == []) && (P.stops == []) && (c.knobs == []) && (P.stopKnobs == [])
def Fd9 (P:Program) (f:FuncId) (fn:Func) (s:ChangeSpec) (c:OpenClaim):Bool:=(c.inPlace == P.inPlace f) && (c.unfollowed == P.unfollowed f) && (c.recurses == P.recurses f) && (c.named == P.varsNamed f)
def Fe1 (P:Program) (f:FuncId) (fn:Func) (s:ChangeSpec) (c:OpenClaim):Bool:=(c.maps == (fn.params.toList ++ s.plain.varTypes P).any (P.mapsRec ·)) && (c.ifaces == (fn.params.toList ++ s.plain.varTypes P).any (P.ifacesRec ·)) && (c.mapsOut == P.mapsAmong fn.resultTypes.toList) && (c.loops == (fn.params.toList ++ s.plain.varTypes P).any (P.loopsFrom ·)) && (c.wideKeys == (fn.params.toList ++ s.plain.varTypes P ++ fn.resultTypes.toList).any (P.wideKeysFrom ·)) && s.vars.all (P.varReadable ·)
def Fd2 (P:Program) (f:FuncId) (fn:Func) (s:ChangeSpec) (c:OpenClaim):Bool:=fn.resultTypes.all (fun t=>P.readableRec t && decide (t<P.types.size)) && (c.ifacesOut == fn.resultTypes.toList.any (P.ifacesRec ·)) && (c.loopsOut == fn.resultTypes.toList.any (P.loopsFrom ·)) && (c.plainKeys == P.plainKeys) && c.shortTexts.isNone && P.stopsHeard && P.mayEnter
def Fd4 (P:Program) (f:FuncId) (fn:Func) (s:ChangeSpec) (c:OpenClaim):Bool:=(c.lifted == P.liftsFinal) && (P.make == some c.make) && (c.kinds == (if c.domain.isEmpty then[] else fn.params.toList.map fun t=>match P.underlying t with | some (.int k)=>some k | _=>none)) && (c.pinned == c.pinnedBy) && (c.veiled == (fn.params.toList ++ s.plain.varTypes P ++ fn.resultTypes.toList).any (P.veiledRec ·)) && c.veiledFits P fn.params.toList (fn.params.toList ++ s.plain.varTypes P ++ fn.resultTypes.toList)
theorem re1 {x a0 a1 a2 a3:Bool} (h:x=true) (g:(a0 && a1 && a2 && a3)=true):(x && a0 && a1 && a2 && a3)=true:=by rw[h];exact g
theorem re2 {x a0 a1 a2 a3 a4 a5:Bool} (h:x=true) (g:(a0 && a1 && a2 && a3 && a4 && a5)=true):(x && a0 && a1 && a2 && a3 && a4 && a5)=true:=by rw[h];exact g
theorem re3 {x a0 a1 a2 a3 a4 a5 a6:Bool} (h:x=true) (g:(a0 && a1 && a2 && a3 && a4 && a5 && a6)=true):(x && a0 && a1 && a2 && a3 && a4 && a5 && a6)=true:=by rw[h];exact g
theorem re4 {x a0 a1 a2 a3 a4 a5:Bool} (h:x=true) (g:(a0 && a1 && a2 && a3 && a4 && a5)=true):(x && a0 && a1 && a2 && a3 && a4 && a5)=true:=by rw[h];exact g
theorem Eo7 {P:Program} {f:FuncId} {fn:Func} {s:ChangeSpec} {c:OpenClaim} (h0:Fc7 P f fn s c=true) (h1:Fd9 P f fn s c=true) (h2:Fe1 P f fn s c=true) (h3:Fd2 P f fn s c=true) (h4:Fd4 P f fn s c=true):joinedFacts P f fn s c=true:=re4 (re3 (re2 (re1 h0 h1) h2) h3) h4
end Go
/- Intervals, domains, models in memory. -/
namespace Go.SX
theorem At6 {a b:Rat} :Co4 a b<0↔a<b:=by
 unfold Co4
 split
 ·simp[*]
 ·split<;>simp_all
theorem Al3 {a b:Rat} :0<Co4 a b↔b<a:=by
 unfold Co4
 split
 ·grind
 ·split
  ·rename_i h1 h2
   subst h2
   grind
  ·rename_i h1 h2
   constructor
   ·intro _
    exact Rat.not_le.1 fun h=>(Rat.le_iff_lt_or_eq.1 h).elim h1 h2
   ·intro _;omega
theorem Dn3 {a b:Rat} :Co4 a b≤0↔a≤b:=by rw[←Int.not_lt,Al3,Rat.not_lt]
theorem El9 {a b:Rat} :0≤Co4 a b↔b≤a:=by rw[←Int.not_lt,At6,Rat.not_lt]
def SpV (tu:TypeId) (W:PW) (l:List Value) (x:Iv):Prop:=∃(s:Sl) (b:Bool) (t s':Sl) (b':Bool) (t':Sl),l = [s.v,.bool b,t.v,s'.v,.bool b',t'.v]∧Ab3 tu W s b t x.1∧Ab3 tu W s' b' t' x.2
def Ah6 (tu:TypeId) (W:PW) (l:List Value) (x:Iv):Prop:=∃(b:Bool) (s t:Sl) (b':Bool) (s' t':Sl),l = [.bool b,s.v,t.v,.bool b',s'.v,t'.v]∧Ab6 tu W b s t x.1∧Ab6 tu W b' s' t' x.2
theorem SpV.ext {tu:TypeId} {W W':PW} {l:List Value} {x:Iv} (h:SpV tu W l x) (hE:Ext W W'):SpV tu W' l x:=let⟨s,b,t,s',b',t',e,h1,h2⟩:=h;⟨s,b,t,s',b',t',e,h1.ext hE,h2.ext hE⟩
theorem Ah6.ext {tu:TypeId} {W W':PW} {l:List Value} {x:Iv} (h:Ah6 tu W l x) (hE:Ext W W'):Ah6 tu W' l x:=let⟨s,b,t,s',b',t',e,h1,h2⟩:=h;⟨s,b,t,s',b',t',e,h1.ext hE,h2.ext hE⟩
theorem SpV.mk {tu:TypeId} {W:PW} {s t s' t':Sl} {b b':Bool} {x:Iv} (h1:Ab3 tu W s b t x.1) (h2:Ab3 tu W s' b' t' x.2):SpV tu W [s.v,.bool b,t.v,s'.v,.bool b',t'.v] x:=⟨s,b,t,s',b',t',rfl,h1,h2⟩
theorem Ah6.mk {tu:TypeId} {W:PW} {s t s' t':Sl} {b b':Bool} {x:Iv} (h1:Ab6 tu W b s t x.1) (h2:Ab6 tu W b' s' t' x.2):Ah6 tu W [.bool b,s.v,t.v,.bool b',s'.v,t'.v] x:=⟨b,s,t,b',s',t',rfl,h1,h2⟩
theorem SpV.out {tu:TypeId} {W:PW} {l:List Value} {x:Iv} {K:Sl→Bool→Sl→Sl→Bool→Sl→Prop} (h:SpV tu W l x) (k: ∀s b t s' b' t',SpV tu W [s.v,.bool b,t.v,s'.v,.bool b',t'.v] x→K s b t s' b' t'):
  ∃(s:Sl) (b:Bool) (t s':Sl) (b':Bool) (t':Sl),Value.agg ⟨l⟩ = .agg ⟨[s.v,.bool b,t.v,s'.v,.bool b',t'.v]⟩∧K s b t s' b' t':=by
 obtain⟨s,b,t,s',b',t',rfl,h1,h2⟩:=h
 exact⟨s,b,t,s',b',t',rfl,k s b t s' b' t' (SpV.mk h1 h2)⟩
theorem SpV.zero {tu:TypeId} (W:PW):SpV tu W [.slice none 0 0,.bool false,.slice none 0 0,.slice none 0 0,.bool false,.slice none 0 0] (0,0):=⟨⟨none,0,0⟩,false,⟨none,0,0⟩,⟨none,0,0⟩,false,⟨none,0,0⟩,rfl,Ar9 W,Ar9 W⟩
theorem Ah6.zero {tu:TypeId} (W:PW):Ah6 tu W [.bool false,.slice none 0 0,.slice none 0 0,.bool false,.slice none 0 0,.slice none 0 0] (0,0):=⟨false,⟨none,0,0⟩,⟨none,0,0⟩,false,⟨none,0,0⟩,⟨none,0,0⟩,rfl,Db0 W,Db0 W⟩
theorem Sl.Ck0 {s t:Sl} (h:s.v=t.v):s=t:=by
 cases s
 cases t
 simp only[Sl.v,Value.slice.injEq] at h
 obtain⟨rfl,rfl,rfl⟩:=h
 rfl
def IvS (k:Nat) (x:Iv):Prop:=Sz k x.1∧Sz k x.2
def DmV (tu:TypeId) (W:PW) (l:List Value) (b:Nat→Iv):Prop:=∃(s0:Sl) (b0:Bool) (t0 s1:Sl) (b1:Bool) (t1 s2:Sl) (b2:Bool) (t2 s3:Sl) (b3:Bool) (t3 s4:Sl) (b4:Bool) (t4 s5:Sl) (b5:Bool) (t5:Sl),
 l = [s0.v,.bool b0,t0.v,s1.v,.bool b1,t1.v,s2.v,.bool b2,t2.v,s3.v,.bool b3,t3.v,s4.v,.bool b4,t4.v,s5.v,.bool b5,t5.v]∧SpV tu W [s0.v,.bool b0,t0.v,s1.v,.bool b1,t1.v] (b 0)∧SpV tu W [s2.v,.bool b2,t2.v,s3.v,.bool b3,t3.v] (b 1)∧SpV tu W [s4.v,.bool b4,t4.v,s5.v,.bool b5,t5.v] (b 2)
theorem DmV.ext {tu:TypeId} {W W':PW} {l:List Value} {b:Nat→Iv} (h:DmV tu W l b) (hE:Ext W W'):DmV tu W' l b:=by
 obtain⟨s0,b0,t0,s1,b1,t1,s2,b2,t2,s3,b3,t3,s4,b4,t4,s5,b5,t5,e,h1,h2,h3⟩:=h
 exact⟨s0,b0,t0,s1,b1,t1,s2,b2,t2,s3,b3,t3,s4,b4,t4,s5,b5,t5,e,h1.ext hE,h2.ext hE,h3.ext hE⟩
theorem DmV.box {tu:TypeId} {W:PW} {l:List Value} {b:Nat→Iv} (h:DmV tu W l b) {j:Nat} (hj:j<3): ∃(s:Sl) (c:Bool) (t s':Sl) (c':Bool) (t':Sl),As9 l (0+Int.toNat (j:Int)*6+0) [s.v,.bool c,t.v,s'.v,.bool c',t'.v]∧SpV tu W [s.v,.bool c,t.v,s'.v,.bool c',t'.v] (b j):=by
 obtain⟨s0,b0,t0,s1,b1,t1,s2,b2,t2,s3,b3,t3,s4,b4,t4,s5,b5,t5,rfl,h1,h2,h3⟩:=h
 rcases(by omega:j=0∨j=1∨j=2) with rfl | rfl | rfl
 ·exact⟨_,_,_,_,_,_,⟨by simp,rfl⟩,h1⟩
 ·exact⟨_,_,_,_,_,_,⟨by simp,rfl⟩,h2⟩
 ·exact⟨_,_,_,_,_,_,⟨by simp,rfl⟩,h3⟩
end Go.SX
/- Squares and boxes in memory. -/
namespace Go.SX
structure SqP where
 w:Rat
 g:Int
 q:List Tm
def Dr1 {α:Type} (R:PW→List Value→α→Prop) (sz:Nat) (W:PW) (s:Sl) (l:List α):Prop:=∃xs,Bf9 W sz s xs∧An5 (R W) xs l
theorem Dr1.ext {α:Type} {R:PW→List Value→α→Prop} {sz:Nat} (hR: ∀{W W':PW} {x:List Value} {a:α},R W x a→Ext W W'→R W' x a) {W W':PW} {s:Sl} {l:List α} (h:Dr1 R sz W s l) (hE:Ext W W'):Dr1 R sz W' s l:=let⟨xs,⟨t,h1⟩,h2⟩:=h;⟨xs,⟨t,h1.ext hE⟩,h2.mono fun _ _ h=>hR h hE⟩
theorem Dr1.n {α:Type} {R:PW→List Value→α→Prop} {sz:Nat} {W:PW} {s:Sl} {l:List α} (h:Dr1 R sz W s l):s.n=l.length:=let⟨xs,⟨_,h1⟩,h2⟩:=h;h1.1.trans h2.len
theorem Dr1.inB {α:Type} {R:PW→List Value→α→Prop} {sz:Nat} {W:PW} {s:Sl} {l:List α} (h:Dr1 R sz W s l) {i:Int} (h0:0≤i) (h1:i<(l.length:Int)):SX.inB s i:=let⟨xs,⟨_,h2⟩,h3⟩:=h;h2.inB h0 (by rw[h3.len];exact h1)
theorem Dr1.at {α:Type} {R:PW→List Value→α→Prop} {sz:Nat} {W:PW} {s:Sl} {l:List α} (h:Dr1 R sz W s l) {i:Nat} (hi:i<l.length): ∃x,R W x l[i]∧∀(off:Nat) {m:List Value},(x.drop off).take m.length=m→Aa7 W s sz i off m:=by
 obtain⟨xs,⟨t,h1⟩,h2⟩:=h
 obtain⟨x,hx,hr⟩:=h2.get (List.getElem?_eq_getElem hi)
 exact⟨x,hr,fun off m hm=>h1.part hx off hm⟩
theorem Dr1.nil {α:Type} {R:PW→List Value→α→Prop} {sz:Nat} (W:PW):Dr1 R sz W ⟨none,0,0⟩ ([]:List α):=⟨[],⟨0,rfl,Nat.le_refl _,Nat.zero_le _,fun x h=>by simp at h,.inl rfl⟩,trivial⟩
abbrev Bc3 (tu:TypeId):=Dr1 (SpV tu) 6
abbrev Fx4 (tu:TypeId):=Dr1 (Ah6 tu) 6
theorem Bc3.ext {tu:TypeId} {W W':PW} {s:Sl} {l:List Iv} (h:Bc3 tu W s l) (hE:Ext W W'):Bc3 tu W' s l:=Dr1.ext (R:=SpV tu) (fun h=>SpV.ext h) h hE
theorem Fx4.ext {tu:TypeId} {W W':PW} {s:Sl} {l:List Iv} (h:Fx4 tu W s l) (hE:Ext W W'):Fx4 tu W' s l:=Dr1.ext (R:=Ah6 tu) (fun h=>Ah6.ext h) h hE
def Cn7 (bs:List Iv):Prop:=(1≤bs.length∧bs.length≤3)∧∀x∈bs,x.1<x.2
instance (bs:List Iv):Decidable (Cn7 bs):=by unfold Cn7;infer_instance
end Go.SX
