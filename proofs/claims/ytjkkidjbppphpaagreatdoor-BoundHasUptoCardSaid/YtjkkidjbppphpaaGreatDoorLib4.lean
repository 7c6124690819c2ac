/- The greatest weight of a polynomial's monomials: of sums and of products. -/
import Derived.Test.YtjkkidjbppphpaaGreatDoorLib3
import Derived.Test.YtjkkidjbppphpaaGreatDoorSx1
import Derived.Test.YtjkkidjbppphpaaGreatDoorLib2
import Derived.JoinedCond
set_option linter.unusedVariables false
set_option linter.unusedSimpArgs false
set_option linter.unusedVariables false
namespace Go.SX
def maxf (w:Mon→Int) (n:Int) (p:List Tm):Int:=p.foldl (fun a t=>mx a (w t.1)) n
theorem maxf_snoc (w:Mon→Int) (n:Int) (l:List Tm) (t:Tm):maxf w n (l ++ [t])=mx (maxf w n l) (w t.1):=by simp[maxf]
end Go.SX

/- How great the numbers of short texts are. -/
set_option linter.unusedVariables false
namespace Go.SX
theorem parseN_gen {a:ByteArray} {x m k:Nat} (h:parseN a=some x) (hs:a.size≤m) (hm:10^m≤B^k):nl x≤k:=by
 obtain⟨h1,_⟩:=parseN_lt h
 exact nl_le (Nat.lt_of_lt_of_le h1 (Nat.le_trans (Nat.pow_le_pow_right (by decide) hs) hm))
theorem parseI_gen {a:ByteArray} {z:Int} {m k:Nat} (h:parseI a=some z) (hs:a.size≤m) (hm:10^m≤B^k):nl z.natAbs≤k:=by
 unfold parseI at h
 split at h
 ·split at h
  ·rename_i x hx
   split at h
   ·cases h
   ·cases h;rw[Int.natAbs_neg,Int.natAbs_natCast];exact parseN_gen hx (by rw[ByteArray.size_extract];omega) hm
  ·cases h
 ·cases hp:parseN a with
  | none=>rw[hp] at h;cases h
  | some x=>
   rw[hp] at h
   cases h
   exact parseN_gen hp hs hm
theorem parseQ_gen {a:ByteArray} {q:Rat} {m k:Nat} (h:parseQ a=some q) (hs:a.size≤m) (hm:10^m≤B^k) (hk:1≤k):Sz k q:=by
 unfold parseQ at h
 split at h
 ·cases hp:parseI a with
  | none=>rw[hp] at h;cases h
  | some z=>
   rw[hp] at h
   cases h
   exact⟨by rw[Rat.num_intCast];exact parseI_gen hp hs hm,by rw[Rat.den_intCast,nl_one];omega⟩
 ·split at h
  ·rename_i n d hn hd
   split at h
   ·cases h
   ·rename_i i _ hc
    cases h
    have hd0:d≠0:=by omega
    exact Sz.mk (parseI_gen hn (by rw[ByteArray.size_extract];omega) hm) (parseN_gen hd (by rw[ByteArray.size_extract];omega) hm) hd0
  ·cases h
theorem parseQ_30 {a:ByteArray} {q:Rat} (h:parseQ a=some q) (hs:a.size≤30):Sz 4 q:=parseQ_gen h hs (by decide) (by decide)
end Go.SX

/- A polynomial in normal form has no more terms than there are monomials. -/
set_option linter.unusedVariables false
namespace Go.SX
end Go.SX

/- Intervals of rational numbers, and what a polynomial's terms come to on them: laws. -/
set_option linter.unusedVariables false
namespace Go.SX
abbrev Iv:=Rat×Rat
def rmin (a b:Rat):Rat:=if b<a then b else a
def rmax (a b:Rat):Rat:=if a<b then b else a
def ivPt (q:Rat):Iv:=(q,q)
def ivAround (a b:Rat):Iv:=(rmin a b,rmax a b)
def ivHull (x y:Iv):Iv:=(rmin x.1 y.1,rmax x.2 y.2)
def ivAdd (x y:Iv):Iv:=(x.1+y.1,x.2+y.2)
def ivMul (x y:Iv):Iv:=ivHull (ivAround (x.1*y.1) (x.2*y.2)) (ivAround (x.1*y.2) (x.2*y.1))
def ivPow (x:Iv) (n:Nat):Iv:=if 0<n∧n%2=0∧x.1≤0∧0≤x.2 then(0,rmax (x.1^n) (x.2^n)) else ivAround (x.1^n) (x.2^n)
theorem rmin_or (a b:Rat):rmin a b=a∨rmin a b=b:=by unfold rmin;split<;>simp
theorem rmax_or (a b:Rat):rmax a b=a∨rmax a b=b:=by unfold rmax;split<;>simp
theorem rmin_le (a b:Rat):rmin a b≤a∧rmin a b≤b:=by unfold rmin;split<;>grind
theorem rmax_le (a b:Rat):a≤rmax a b∧b≤rmax a b:=by unfold rmax;split<;>grind
def FitI (D N:Nat) (x:Iv):Prop:=FitQ D N x.1∧FitQ D N x.2
def BdI (k:Nat) (x:Iv):Prop:=∃D N,FitI D N x∧D≠0∧nl D≤k∧nl N≤k
theorem FitQ.rmin {D N:Nat} {a b:Rat} (h:FitQ D N a) (k:FitQ D N b):FitQ D N (rmin a b):=by rcases rmin_or a b with e | e<;>rw[e]<;>assumption
theorem FitQ.rmax {D N:Nat} {a b:Rat} (h:FitQ D N a) (k:FitQ D N b):FitQ D N (rmax a b):=by rcases rmax_or a b with e | e<;>rw[e]<;>assumption
theorem FitI.mono {D N N':Nat} {x:Iv} (h:FitI D N x) (hn:N≤N'):FitI D N' x:=⟨h.1.mono hn,h.2.mono hn⟩
theorem FitI.scale {D N:Nat} {x:Iv} (h:FitI D N x) (E:Nat):FitI (D*E) (N*E) x:=⟨h.1.scale E,h.2.scale E⟩
theorem FitI.add {D N N':Nat} {x y:Iv} (h:FitI D N x) (k:FitI D N' y):FitI D (N+N') (ivAdd x y):=⟨h.1.add k.1,h.2.add k.2⟩
theorem FitI.around {D N:Nat} {a b:Rat} (h:FitQ D N a) (k:FitQ D N b):FitI D N (ivAround a b):=⟨h.rmin k,h.rmax k⟩
theorem FitI.hull {D N:Nat} {x y:Iv} (h:FitI D N x) (k:FitI D N y):FitI D N (ivHull x y):=⟨h.1.rmin k.1,h.2.rmax k.2⟩
theorem FitI.mul {D E N M:Nat} {x y:Iv} (h:FitI D N x) (k:FitI E M y):FitI (D*E) (N*M) (ivMul x y):=
 FitI.hull (FitI.around (h.1.mul k.1) (h.2.mul k.2)) (FitI.around (h.1.mul k.2) (h.2.mul k.1))
theorem Sz.powq {k:Nat} {q:Rat} (h:Sz k q) (n:Nat):Sz (k*n+1) (q^n):=by
 induction n with
 | zero=>rw[Rat.pow_zero];exact Sz.one (by omega)
 | succ n ih=>
  rw[Rat.pow_succ]
  exact(ih.mul h).mono (by rw[Nat.mul_add];omega)
theorem FitQ.pow {D N:Nat} {q:Rat} (h:FitQ D N q) (n:Nat):FitQ (D^n) (N^n) (q^n):=by
 induction n with
 | zero=>rw[Rat.pow_zero];exact FitQ.int 1
 | succ n ih=>rw[Rat.pow_succ,Nat.pow_succ,Nat.pow_succ];exact ih.mul h
theorem FitI.pow {D N:Nat} {x:Iv} (h:FitI D N x) (n:Nat):FitI (D^n) (N^n) (ivPow x n):=by
 unfold ivPow
 split
 ·exact⟨FitQ.zero,(h.1.pow n).rmax (h.2.pow n)⟩
 ·exact FitI.around (h.1.pow n) (h.2.pow n)
theorem npow_ne {x:Nat} (hx:x≠0) (e:Nat):x^e≠0:=Nat.pos_iff_ne_zero.1 (Nat.pow_pos (Nat.pos_iff_ne_zero.2 hx))
theorem nl_pow (a n:Nat):nl (a^n)≤nl a*n+1:=by
 induction n with
 | zero=>rw[Nat.pow_zero,nl_one];omega
 | succ n ih=>
  rw[Nat.pow_succ]
  have:=nl_mul (a^n) a
  rw[Nat.mul_add,Nat.mul_one]
  omega
theorem BdI.mono {k k':Nat} {x:Iv} (h:BdI k x) (hk:k≤k'):BdI k' x:=let⟨D,N,h1,h2,h3,h4⟩:=h;⟨D,N,h1,h2,Nat.le_trans h3 hk,Nat.le_trans h4 hk⟩
theorem BdI.sz {k:Nat} {x:Iv} (h:BdI k x):Sz k x.1∧Sz k x.2:=let⟨D,N,h1,h2,h3,h4⟩:=h;⟨h1.1.sz h2 h3 h4,h1.2.sz h2 h3 h4⟩
theorem BdI.pt {k:Nat} {q:Rat} (h:Sz k q):BdI k (ivPt q):=⟨q.den,q.num.natAbs,⟨FitQ.den q,FitQ.den q⟩,q.den_nz,h.2,h.1⟩
theorem BdI.zero {k:Nat} (h:1≤k):BdI k (0,0):=BdI.pt (Sz.zero h)
theorem BdI.of_sz {k:Nat} {x:Iv} (h:Sz k x.1∧Sz k x.2):BdI (2*k+1) x:=by
 have e1:=nl_mul x.1.den x.2.den
 have e2:=nl_mul x.1.num.natAbs x.2.den
 have e3:=nl_mul x.2.num.natAbs x.1.den
 have e4:=nl_add (x.1.num.natAbs*x.2.den) (x.2.num.natAbs*x.1.den)
 have h1:=h.1.1
 have h2:=h.1.2
 have h3:=h.2.1
 have h4:=h.2.2
 refine⟨x.1.den*x.2.den,x.1.num.natAbs*x.2.den+x.2.num.natAbs*x.1.den,⟨((FitQ.den x.1).scale x.2.den).mono (by omega),?_⟩,Nat.mul_ne_zero x.1.den_nz x.2.den_nz,by omega,by omega⟩
 have:=(FitQ.den x.2).scale x.1.den
 rw[Nat.mul_comm x.1.den]
 exact this.mono (by omega)
theorem BdI.mul {k k':Nat} {x y:Iv} (h:BdI k x) (h':BdI k' y):BdI (k+k') (ivMul x y):=by
 obtain⟨D,N,h1,h2,h3,h4⟩:=h
 obtain⟨E,M,g1,g2,g3,g4⟩:=h'
 have e1:=nl_mul D E
 have e2:=nl_mul N M
 exact⟨D*E,N*M,h1.mul g1,Nat.mul_ne_zero h2 g2,by omega,by omega⟩
theorem BdI.add {k k':Nat} {x y:Iv} (h:BdI k x) (h':BdI k' y):BdI (k+k'+1) (ivAdd x y):=by
 obtain⟨D,N,h1,h2,h3,h4⟩:=h
 obtain⟨E,M,g1,g2,g3,g4⟩:=h'
 have e1:=nl_mul D E
 have e2:=nl_mul N E
 have e3:=nl_mul M D
 have e4:=nl_add (N*E) (M*D)
 have:=(h1.scale E).add (show FitI (D*E) (M*D) y by rw[Nat.mul_comm D E];exact g1.scale D)
 exact⟨D*E,N*E+M*D,this,Nat.mul_ne_zero h2 g2,by omega,by omega⟩
theorem BdI.pow {k:Nat} {x:Iv} (h:BdI k x) (n:Nat):BdI (k*n+1) (ivPow x n):=by
 obtain⟨D,N,h1,h2,h3,h4⟩:=h
 have e1:=nl_pow D n
 have e2:=nl_pow N n
 have e3:=Nat.mul_le_mul_right n h3
 have e4:=Nat.mul_le_mul_right n h4
 exact⟨D^n,N^n,h1.pow n,npow_ne h2 n,by omega,by omega⟩
def mex (m:Mon) (k:Nat):Nat:=if k=0 then m.x.toNat else if k=1 then m.y.toNat else m.z.toNat
def ivTm (l:Nat→Iv) (t:Tm):Nat→Iv
 | 0=>ivPt t.2
 | j+1=>if 0<mex t.1 j then ivMul (ivTm l t j) (ivPow (l j) (mex t.1 j)) else ivTm l t j
def ivOver (l:Nat→Iv) (p:List Tm):Iv:=p.foldl (fun a t=>ivAdd a (ivTm l t 3)) (0,0)
theorem ivOver_snoc (l:Nat→Iv) (p:List Tm) (t:Tm):ivOver l (p ++ [t])=ivAdd (ivOver l p) (ivTm l t 3):=by simp[ivOver]
theorem ivTm_bd {l:Nat→Iv} {t:Tm} {k m e:Nat} (ht:Sz k t.2) (hl: ∀i,BdI m (l i)) (he: ∀i,mex t.1 i≤e): ∀j,BdI (k+j*(m*e+1)) (ivTm l t j)
 | 0=>by rw[Nat.zero_mul,Nat.add_zero];exact BdI.pt ht
 | j+1=>by
  have h1:=ivTm_bd ht hl he j
  have h2:=(hl j).pow (mex t.1 j)
  have h3:=Nat.mul_le_mul_left m (he j)
  rw[ivTm]
  split
  ·exact(h1.mul h2).mono (by rw[Nat.add_mul,Nat.one_mul];omega)
  ·exact h1.mono (by rw[Nat.add_mul,Nat.one_mul];omega)
theorem ivPow_fit {D N e n:Nat} {x:Iv} (h:FitI D N x) (hn:n≤e):FitI (D^e) ((N+D)^e) (ivPow x n):=by
 have:=(h.pow n).scale (D^(e-n))
 rw[←Nat.pow_add,show n+(e-n)=e by omega] at this
 refine this.mono ?_
 have h1:=Nat.pow_le_pow_left (show N≤N+D by omega) n
 have h2:=Nat.pow_le_pow_left (show D≤N+D by omega) (e-n)
 have h3:=Nat.mul_le_mul h1 h2
 rwa [←Nat.pow_add,show n+(e-n)=e by omega] at h3
theorem FitI.step {D N E M e n:Nat} {x y:Iv} (h:FitI D N x) (k:FitI E M y) (hn:n≤e):FitI (D*E^e) (N*(M+E)^e) (if 0<n then ivMul x (ivPow y n) else x):=by
 split
 ·exact h.mul (ivPow_fit k hn)
 ·exact(h.scale (E^e)).mono (Nat.mul_le_mul_left _ (Nat.pow_le_pow_left (by omega) e))
theorem ivOver_bd {l:Nat→Iv} {p:List Tm} {k m e:Nat} (hp:Bd k p) (hl: ∀i,BdI m (l i)) (he: ∀t∈p,∀i,mex t.1 i≤e):BdI (k+3*((m+1)*e+1)) (ivOver l p):=by
 obtain⟨D,N,h1,h2,h3,h4⟩:=hp
 obtain⟨D0,N0,a1,a2,a3,a4⟩:=hl 0
 obtain⟨D1,N1,b1,b2,b3,b4⟩:=hl 1
 obtain⟨D2,N2,c1,c2,c3,c4⟩:=hl 2
 have key: ∀(p:List Tm) (N A:Nat) (a:Iv),Fit D N p→(∀t∈p,∀i,mex t.1 i≤e)→FitI (D*D0^e*D1^e*D2^e) A a→FitI (D*D0^e*D1^e*D2^e) (A+N*((N0+D0)^e*(N1+D1)^e*(N2+D2)^e)) (p.foldl (fun a t=>ivAdd a (ivTm l t 3)) a):=by
  intro p
  induction p with
  | nil=>intro N A a _ _ ha;exact ha.mono (by omega)
  | cons t r ih=>
   intro N A a hf hm ha
   obtain⟨n,n',g1,g2,g3⟩:=hf
   rw[List.foldl_cons]
   have ht:FitI (D*D0^e*D1^e*D2^e) (n*(N0+D0)^e*(N1+D1)^e*(N2+D2)^e) (ivTm l t 3):=by
    have hm:=hm t (by simp)
    exact(((show FitI D n (ivPt t.2) from⟨g2,g2⟩).step a1 (hm 0)).step b1 (hm 1)).step c1 (hm 2)
   refine(ih n' _ _ g3 (fun x hx=>hm x (by simp[hx])) (ha.add ht)).mono ?_
   have e1:n*(N0+D0)^e*(N1+D1)^e*(N2+D2)^e=n*((N0+D0)^e*(N1+D1)^e*(N2+D2)^e):=by simp only[Nat.mul_assoc]
   rw[e1,Nat.add_assoc,←Nat.add_mul]
   exact Nat.add_le_add_left (Nat.mul_le_mul_right _ g1) _
 have hres:=key p N 0 (0,0) h1 he ⟨FitQ.zero,FitQ.zero⟩
 have q1: ∀{x y:Nat},nl x≤m→nl y≤m→nl (x^e)≤(m+1)*e+1∧nl ((y+x)^e)≤(m+1)*e+1:=fun {x y} hx hy=>by
  have e1:=nl_pow x e
  have e2:=nl_pow (y+x) e
  have e3:=nl_add_le hy hx
  have e4:=Nat.mul_le_mul_right e (show nl x≤m+1 by omega)
  have e5:=Nat.mul_le_mul_right e e3
  omega
 have u0:=q1 a3 a4
 have u1:=q1 b3 b4
 have u2:=q1 c3 c4
 have v1:=nl_mul D (D0^e)
 have v2:=nl_mul (D*D0^e) (D1^e)
 have v3:=nl_mul (D*D0^e*D1^e) (D2^e)
 have w1:=nl_mul ((N0+D0)^e) ((N1+D1)^e)
 have w2:=nl_mul ((N0+D0)^e*(N1+D1)^e) ((N2+D2)^e)
 have w3:=nl_mul N ((N0+D0)^e*(N1+D1)^e*(N2+D2)^e)
 refine⟨_,_,hres,Nat.mul_ne_zero (Nat.mul_ne_zero (Nat.mul_ne_zero h2 (npow_ne a2 e)) (npow_ne b2 e)) (npow_ne c2 e),by omega,?_⟩
 rw[Nat.zero_add]
 omega
theorem ivPow_zero (x:Iv):ivPow x 0=ivPt 1:=by
 unfold ivPow ivAround rmin rmax
 rw[if_neg (fun h=>absurd h.1 (by omega)),Rat.pow_zero,Rat.pow_zero]
 rfl
theorem pow_zero_pos {n:Nat} (h:0<n):(0:Rat)^n=0:=by
 cases n with
 | zero=>omega
 | succ n=>rw[Rat.pow_succ,Rat.mul_zero]
end Go.SX

/- Models: a polynomial and a rest; how great their numbers are: laws. -/
set_option linter.unusedVariables false
namespace Go.SX
def DRight (b:Nat→Iv) (n:Int):Prop:=(b 0).1≤(b 0).2∧(b 1).1≤(b 1).2∧(b 2).1≤(b 2).2∧0≤n∧n≤8
instance (b:Nat→Iv) (n:Int):Decidable (DRight b n):=by unfold DRight;infer_instance
end Go.SX

/- The closed facts that a row asks, in parts: a great program's are asked one part after the other. -/
set_option linter.unusedVariables false
namespace Go
def facts0 (P:Program) (f:FuncId) (fn:Func) (s:ChangeSpec) (c:OpenClaim):Bool:=c.wf (OpenSpec.ofChange s) && laidOutB P && mapsRowed P && fn.params.all (P.readableRec ·) && namedTie P c.named s.vars && (c.stops == []) && (P.stops == []) && (c.knobs == []) && (P.stopKnobs == [])
def facts1 (P:Program) (f:FuncId) (fn:Func) (s:ChangeSpec) (c:OpenClaim):Bool:=(c.inPlace == P.inPlace f) && (c.unfollowed == P.unfollowed f) && (c.recurses == P.recurses f) && (c.named == P.varsNamed f)
def facts2 (P:Program) (f:FuncId) (fn:Func) (s:ChangeSpec) (c:OpenClaim):Bool:=(c.maps == (fn.params.toList ++ s.plain.varTypes P).any (P.mapsRec ·)) && (c.ifaces == (fn.params.toList ++ s.plain.varTypes P).any (P.ifacesRec ·)) && (c.mapsOut == P.mapsAmong fn.resultTypes.toList) && (c.loops == (fn.params.toList ++ s.plain.varTypes P).any (P.loopsFrom ·)) && (c.wideKeys == (fn.params.toList ++ s.plain.varTypes P ++ fn.resultTypes.toList).any (P.wideKeysFrom ·)) && s.vars.all (P.varReadable ·)
def facts3 (P:Program) (f:FuncId) (fn:Func) (s:ChangeSpec) (c:OpenClaim):Bool:=fn.resultTypes.all (fun t=>P.readableRec t && decide (t<P.types.size)) && (c.ifacesOut == fn.resultTypes.toList.any (P.ifacesRec ·)) && (c.loopsOut == fn.resultTypes.toList.any (P.loopsFrom ·)) && (c.plainKeys == P.plainKeys) && c.shortTexts.isNone && P.stopsHeard && P.mayEnter
def facts4 (P:Program) (f:FuncId) (fn:Func) (s:ChangeSpec) (c:OpenClaim):Bool:=(c.lifted == P.liftsFinal) && (P.make == some c.make) && (c.kinds == (if c.domain.isEmpty then[] else fn.params.toList.map fun t=>match P.underlying t with | some (.int k)=>some k | _=>none)) && (c.pinned == c.pinnedBy) && (c.veiled == (fn.params.toList ++ s.plain.varTypes P ++ fn.resultTypes.toList).any (P.veiledRec ·)) && c.veiledFits P fn.params.toList (fn.params.toList ++ s.plain.varTypes P ++ fn.resultTypes.toList)
theorem re1 {x a0 a1 a2 a3:Bool} (h:x=true) (g:(a0 && a1 && a2 && a3)=true):(x && a0 && a1 && a2 && a3)=true:=by rw[h];exact g
theorem re2 {x a0 a1 a2 a3 a4 a5:Bool} (h:x=true) (g:(a0 && a1 && a2 && a3 && a4 && a5)=true):(x && a0 && a1 && a2 && a3 && a4 && a5)=true:=by rw[h];exact g
theorem re3 {x a0 a1 a2 a3 a4 a5 a6:Bool} (h:x=true) (g:(a0 && a1 && a2 && a3 && a4 && a5 && a6)=true):(x && a0 && a1 && a2 && a3 && a4 && a5 && a6)=true:=by rw[h];exact g
theorem re4 {x a0 a1 a2 a3 a4 a5:Bool} (h:x=true) (g:(a0 && a1 && a2 && a3 && a4 && a5)=true):(x && a0 && a1 && a2 && a3 && a4 && a5)=true:=by rw[h];exact g
theorem joined_of {P:Program} {f:FuncId} {fn:Func} {s:ChangeSpec} {c:OpenClaim} (h0:facts0 P f fn s c=true) (h1:facts1 P f fn s c=true) (h2:facts2 P f fn s c=true) (h3:facts3 P f fn s c=true) (h4:facts4 P f fn s c=true):joinedFacts P f fn s c=true:=re4 (re3 (re2 (re1 h0 h1) h2) h3) h4
end Go

/- Intervals, domains, models in memory. -/
set_option linter.unusedVariables false
namespace Go.SX
theorem cmpQ_lt {a b:Rat} :cmpQ a b<0↔a<b:=by
 unfold cmpQ
 split
 ·simp[*]
 ·split<;>simp_all
theorem cmpQ_gt {a b:Rat} :0<cmpQ a b↔b<a:=by
 unfold cmpQ
 split
 ·grind
 ·split
  ·rename_i h1 h2
   subst h2
   grind
  ·rename_i h1 h2
   constructor
   ·intro _
    exact Rat.not_le.1 fun h=>(Rat.le_iff_lt_or_eq.1 h).elim h1 h2
   ·intro _;omega
theorem cmpQ_le {a b:Rat} :cmpQ a b≤0↔a≤b:=by rw[←Int.not_lt,cmpQ_gt,Rat.not_lt]
theorem cmpQ_ge {a b:Rat} :0≤cmpQ a b↔b≤a:=by rw[←Int.not_lt,cmpQ_lt,Rat.not_lt]
def SpV (tu:TypeId) (W:PW) (l:List Value) (x:Iv):Prop:=∃(s:Sl) (b:Bool) (t s':Sl) (b':Bool) (t':Sl),l = [s.v,.bool b,t.v,s'.v,.bool b',t'.v]∧IsRat tu W s b t x.1∧IsRat tu W s' b' t' x.2
def RSpV (tu:TypeId) (W:PW) (l:List Value) (x:Iv):Prop:=∃(b:Bool) (s t:Sl) (b':Bool) (s' t':Sl),l = [.bool b,s.v,t.v,.bool b',s'.v,t'.v]∧IsRefQ tu W b s t x.1∧IsRefQ tu W b' s' t' x.2
theorem SpV.ext {tu:TypeId} {W W':PW} {l:List Value} {x:Iv} (h:SpV tu W l x) (hE:Ext W W'):SpV tu W' l x:=let⟨s,b,t,s',b',t',e,h1,h2⟩:=h;⟨s,b,t,s',b',t',e,h1.ext hE,h2.ext hE⟩
theorem RSpV.ext {tu:TypeId} {W W':PW} {l:List Value} {x:Iv} (h:RSpV tu W l x) (hE:Ext W W'):RSpV tu W' l x:=let⟨s,b,t,s',b',t',e,h1,h2⟩:=h;⟨s,b,t,s',b',t',e,h1.ext hE,h2.ext hE⟩
theorem SpV.mk {tu:TypeId} {W:PW} {s t s' t':Sl} {b b':Bool} {x:Iv} (h1:IsRat tu W s b t x.1) (h2:IsRat tu W s' b' t' x.2):SpV tu W [s.v,.bool b,t.v,s'.v,.bool b',t'.v] x:=⟨s,b,t,s',b',t',rfl,h1,h2⟩
theorem RSpV.mk {tu:TypeId} {W:PW} {s t s' t':Sl} {b b':Bool} {x:Iv} (h1:IsRefQ tu W b s t x.1) (h2:IsRefQ tu W b' s' t' x.2):RSpV tu W [.bool b,s.v,t.v,.bool b',s'.v,t'.v] x:=⟨b,s,t,b',s',t',rfl,h1,h2⟩
theorem SpV.out {tu:TypeId} {W:PW} {l:List Value} {x:Iv} {K:Sl→Bool→Sl→Sl→Bool→Sl→Prop} (h:SpV tu W l x) (k: ∀s b t s' b' t',SpV tu W [s.v,.bool b,t.v,s'.v,.bool b',t'.v] x→K s b t s' b' t'):
  ∃(s:Sl) (b:Bool) (t s':Sl) (b':Bool) (t':Sl),Value.agg ⟨l⟩ = .agg ⟨[s.v,.bool b,t.v,s'.v,.bool b',t'.v]⟩∧K s b t s' b' t':=by
 obtain⟨s,b,t,s',b',t',rfl,h1,h2⟩:=h
 exact⟨s,b,t,s',b',t',rfl,k s b t s' b' t' (SpV.mk h1 h2)⟩
theorem SpV.zero {tu:TypeId} (W:PW):SpV tu W [.slice none 0 0,.bool false,.slice none 0 0,.slice none 0 0,.bool false,.slice none 0 0] (0,0):=⟨⟨none,0,0⟩,false,⟨none,0,0⟩,⟨none,0,0⟩,false,⟨none,0,0⟩,rfl,isRat_zero W,isRat_zero W⟩
theorem RSpV.zero {tu:TypeId} (W:PW):RSpV tu W [.bool false,.slice none 0 0,.slice none 0 0,.bool false,.slice none 0 0,.slice none 0 0] (0,0):=⟨false,⟨none,0,0⟩,⟨none,0,0⟩,false,⟨none,0,0⟩,⟨none,0,0⟩,rfl,isRQ_zero W,isRQ_zero W⟩
theorem Sl.v_inj {s t:Sl} (h:s.v=t.v):s=t:=by
 cases s
 cases t
 simp only[Sl.v,Value.slice.injEq] at h
 obtain⟨rfl,rfl,rfl⟩:=h
 rfl
def IvS (k:Nat) (x:Iv):Prop:=Sz k x.1∧Sz k x.2
def DmV (tu:TypeId) (W:PW) (l:List Value) (b:Nat→Iv):Prop:=∃(s0:Sl) (b0:Bool) (t0 s1:Sl) (b1:Bool) (t1 s2:Sl) (b2:Bool) (t2 s3:Sl) (b3:Bool) (t3 s4:Sl) (b4:Bool) (t4 s5:Sl) (b5:Bool) (t5:Sl),
 l = [s0.v,.bool b0,t0.v,s1.v,.bool b1,t1.v,s2.v,.bool b2,t2.v,s3.v,.bool b3,t3.v,s4.v,.bool b4,t4.v,s5.v,.bool b5,t5.v]∧SpV tu W [s0.v,.bool b0,t0.v,s1.v,.bool b1,t1.v] (b 0)∧SpV tu W [s2.v,.bool b2,t2.v,s3.v,.bool b3,t3.v] (b 1)∧SpV tu W [s4.v,.bool b4,t4.v,s5.v,.bool b5,t5.v] (b 2)
theorem DmV.ext {tu:TypeId} {W W':PW} {l:List Value} {b:Nat→Iv} (h:DmV tu W l b) (hE:Ext W W'):DmV tu W' l b:=by
 obtain⟨s0,b0,t0,s1,b1,t1,s2,b2,t2,s3,b3,t3,s4,b4,t4,s5,b5,t5,e,h1,h2,h3⟩:=h
 exact⟨s0,b0,t0,s1,b1,t1,s2,b2,t2,s3,b3,t3,s4,b4,t4,s5,b5,t5,e,h1.ext hE,h2.ext hE,h3.ext hE⟩
theorem DmV.box {tu:TypeId} {W:PW} {l:List Value} {b:Nat→Iv} (h:DmV tu W l b) {j:Nat} (hj:j<3): ∃(s:Sl) (c:Bool) (t s':Sl) (c':Bool) (t':Sl),BoxAt l (0+Int.toNat (j:Int)*6+0) [s.v,.bool c,t.v,s'.v,.bool c',t'.v]∧SpV tu W [s.v,.bool c,t.v,s'.v,.bool c',t'.v] (b j):=by
 obtain⟨s0,b0,t0,s1,b1,t1,s2,b2,t2,s3,b3,t3,s4,b4,t4,s5,b5,t5,rfl,h1,h2,h3⟩:=h
 rcases(by omega:j=0∨j=1∨j=2) with rfl | rfl | rfl
 ·exact⟨_,_,_,_,_,_,⟨by simp,rfl⟩,h1⟩
 ·exact⟨_,_,_,_,_,_,⟨by simp,rfl⟩,h2⟩
 ·exact⟨_,_,_,_,_,_,⟨by simp,rfl⟩,h3⟩
end Go.SX

/- Squares and boxes in memory. -/
set_option linter.unusedVariables false
namespace Go.SX
structure SqP where
 w:Rat
 g:Int
 q:List Tm
def LstA {α:Type} (R:PW→List Value→α→Prop) (sz:Nat) (W:PW) (s:Sl) (l:List α):Prop:=∃xs,RowA W sz s xs∧All2 (R W) xs l
theorem LstA.ext {α:Type} {R:PW→List Value→α→Prop} {sz:Nat} (hR: ∀{W W':PW} {x:List Value} {a:α},R W x a→Ext W W'→R W' x a) {W W':PW} {s:Sl} {l:List α} (h:LstA R sz W s l) (hE:Ext W W'):LstA R sz W' s l:=let⟨xs,⟨t,h1⟩,h2⟩:=h;⟨xs,⟨t,h1.ext hE⟩,h2.mono fun _ _ h=>hR h hE⟩
theorem LstA.n {α:Type} {R:PW→List Value→α→Prop} {sz:Nat} {W:PW} {s:Sl} {l:List α} (h:LstA R sz W s l):s.n=l.length:=let⟨xs,⟨_,h1⟩,h2⟩:=h;h1.1.trans h2.len
theorem LstA.inB {α:Type} {R:PW→List Value→α→Prop} {sz:Nat} {W:PW} {s:Sl} {l:List α} (h:LstA R sz W s l) {i:Int} (h0:0≤i) (h1:i<(l.length:Int)):SX.inB s i:=let⟨xs,⟨_,h2⟩,h3⟩:=h;h2.inB h0 (by rw[h3.len];exact h1)
theorem LstA.at {α:Type} {R:PW→List Value→α→Prop} {sz:Nat} {W:PW} {s:Sl} {l:List α} (h:LstA R sz W s l) {i:Nat} (hi:i<l.length): ∃x,R W x l[i]∧∀(off:Nat) {m:List Value},(x.drop off).take m.length=m→ElemAt W s sz i off m:=by
 obtain⟨xs,⟨t,h1⟩,h2⟩:=h
 obtain⟨x,hx,hr⟩:=h2.get (List.getElem?_eq_getElem hi)
 exact⟨x,hr,fun off m hm=>h1.part hx off hm⟩
theorem LstA.nil {α:Type} {R:PW→List Value→α→Prop} {sz:Nat} (W:PW):LstA R sz W ⟨none,0,0⟩ ([]:List α):=⟨[],⟨0,rfl,Nat.le_refl _,Nat.zero_le _,fun x h=>by simp at h,.inl rfl⟩,trivial⟩
abbrev IsBox (tu:TypeId):=LstA (SpV tu) 6
abbrev RIsBox (tu:TypeId):=LstA (RSpV tu) 6
theorem IsBox.ext {tu:TypeId} {W W':PW} {s:Sl} {l:List Iv} (h:IsBox tu W s l) (hE:Ext W W'):IsBox tu W' s l:=LstA.ext (R:=SpV tu) (fun h=>SpV.ext h) h hE
theorem RIsBox.ext {tu:TypeId} {W W':PW} {s:Sl} {l:List Iv} (h:RIsBox tu W s l) (hE:Ext W W'):RIsBox tu W' s l:=LstA.ext (R:=RSpV tu) (fun h=>RSpV.ext h) h hE
def BoxOK (bs:List Iv):Prop:=(1≤bs.length∧bs.length≤3)∧∀x∈bs,x.1<x.2
instance (bs:List Iv):Decidable (BoxOK bs):=by unfold BoxOK;infer_instance
end Go.SX

/- Intervals hold what numbers of theirs come to: laws. -/
set_option linter.unusedVariables false
namespace Go.SX
def inI (x:Iv) (v:Rat):Prop:=x.1≤v∧v≤x.2
theorem low1 {a b v:Rat} (w:Rat) (h1:a≤v) (h2:v≤b):a*w≤v*w∨b*w≤v*w:=by
 by_cases hw:0≤w
 ·have:=Rat.mul_nonneg (show 0≤v-a by grind) hw
  exact .inl (by grind)
 ·have:=Rat.mul_nonneg (show 0≤b-v by grind) (show 0≤-w by grind)
  exact .inr (by grind)
theorem high1 {a b v:Rat} (w:Rat) (h1:a≤v) (h2:v≤b):v*w≤a*w∨v*w≤b*w:=by
 by_cases hw:0≤w
 ·have:=Rat.mul_nonneg (show 0≤b-v by grind) hw
  exact .inr (by grind)
 ·have:=Rat.mul_nonneg (show 0≤v-a by grind) (show 0≤-w by grind)
  exact .inl (by grind)
theorem in_add {x y:Iv} {v w:Rat} (h:inI x v) (k:inI y w):inI (ivAdd x y) (v+w):=by
 obtain⟨h1,h2⟩:=h
 obtain⟨k1,k2⟩:=k
 exact⟨by show x.1+y.1≤v+w;grind,by show v+w≤x.2+y.2;grind⟩
theorem in_mul {x y:Iv} {v w:Rat} (h:inI x v) (k:inI y w):inI (ivMul x y) (v*w):=by
 obtain⟨h1,h2⟩:=h
 obtain⟨k1,k2⟩:=k
 have a1:=rmin_le (rmin (x.1*y.1) (x.2*y.2)) (rmin (x.1*y.2) (x.2*y.1))
 have a2:=rmin_le (x.1*y.1) (x.2*y.2)
 have a3:=rmin_le (x.1*y.2) (x.2*y.1)
 have b1:=rmax_le (rmax (x.1*y.1) (x.2*y.2)) (rmax (x.1*y.2) (x.2*y.1))
 have b2:=rmax_le (x.1*y.1) (x.2*y.2)
 have b3:=rmax_le (x.1*y.2) (x.2*y.1)
 constructor
 ·show rmin (rmin (x.1*y.1) (x.2*y.2)) (rmin (x.1*y.2) (x.2*y.1))≤v*w
  rcases low1 w h1 h2 with e | e
  ·rcases low1 x.1 k1 k2 with f | f
   ·grind
   ·grind
  ·rcases low1 x.2 k1 k2 with f | f
   ·grind
   ·grind
 ·show v*w≤rmax (rmax (x.1*y.1) (x.2*y.2)) (rmax (x.1*y.2) (x.2*y.1))
  rcases high1 w h1 h2 with e | e
  ·rcases high1 x.1 k1 k2 with f | f
   ·grind
   ·grind
  ·rcases high1 x.2 k1 k2 with f | f
   ·grind
   ·grind
theorem pow_nn {x:Rat} (h:0≤x): ∀n:Nat,0≤x^n
 | 0=>by rw[Rat.pow_zero];decide
 | n+1=>by rw[Rat.pow_succ];exact Rat.mul_nonneg (pow_nn h n) h
theorem pow_up {x y:Rat} (h:0≤x) (k:x≤y): ∀n:Nat,x^n≤y^n
 | 0=>by rw[Rat.pow_zero,Rat.pow_zero];exact Rat.le_refl
 | n+1=>by
  rw[Rat.pow_succ,Rat.pow_succ]
  have ih:=pow_up h k n
  have h1:=Rat.mul_nonneg (show 0≤y^n-x^n by grind) h
  have h2:=Rat.mul_nonneg (pow_nn (show 0≤y by grind) n) (show 0≤y-x by grind)
  grind
theorem pow_neg (x:Rat): ∀n:Nat,(n%2=0→(-x)^n=x^n)∧(n%2=1→(-x)^n = -(x^n))
 | 0=>⟨fun _=>by rw[Rat.pow_zero,Rat.pow_zero],fun h=>by omega⟩
 | n+1=>by
  obtain⟨h1,h2⟩:=pow_neg x n
  refine⟨fun h=>?_,fun h=>?_⟩
  ·rw[Rat.pow_succ,Rat.pow_succ,h2 (by omega)]
   grind
  ·rw[Rat.pow_succ,Rat.pow_succ,h1 (by omega)]
   grind
theorem in_around {a b v:Rat} (h:(a≤v∧v≤b)∨(b≤v∧v≤a)):inI (ivAround a b) v:=by
 have h1:=rmin_le a b
 have h2:=rmax_le a b
 exact⟨by show rmin a b≤v;grind,by show v≤rmax a b;grind⟩
theorem in_pow {x:Iv} {v:Rat} (h:inI x v) (n:Nat):inI (ivPow x n) (v^n):=by
 obtain⟨h1,h2⟩:=h
 unfold ivPow
 have ea:=(pow_neg x.1 n).1
 have ev:=(pow_neg v n).1
 have eb:=(pow_neg x.2 n).1
 have oa:=(pow_neg x.1 n).2
 have ov:=(pow_neg v n).2
 have ob:=(pow_neg x.2 n).2
 have r:=rmax_le (x.1^n) (x.2^n)
 split
 ·rename_i c
  obtain⟨c1,c2,c3,c4⟩:=c
  by_cases hv:0≤v
  ·have:=pow_up hv h2 n
   have p:=pow_nn hv n
   exact⟨p,by show v^n≤rmax (x.1^n) (x.2^n);grind⟩
  ·have q:=pow_up (show 0≤-v by grind) (show -v≤-x.1 by grind) n
   have p:=pow_nn (show 0≤-v by grind) n
   rw[ev c2] at p q
   rw[ea c2] at q
   exact⟨p,by show v^n≤rmax (x.1^n) (x.2^n);grind⟩
 ·rename_i c
  apply in_around
  rcases(by omega:n=0∨n%2=1∨(0<n∧n%2=0)) with h0 | h0 | h0
  ·subst h0
   rw[Rat.pow_zero,Rat.pow_zero,Rat.pow_zero]
   exact .inl ⟨Rat.le_refl,Rat.le_refl⟩
  ·refine .inl ⟨?_,?_⟩
   ·by_cases ha:0≤x.1
    ·exact pow_up ha h1 n
    ·by_cases hv:0≤v
     ·have p:=pow_nn hv n
      have q:=pow_nn (show 0≤-x.1 by grind) n
      rw[oa h0] at q
      grind
     ·have q:=pow_up (show 0≤-v by grind) (show -v≤-x.1 by grind) n
      rw[oa h0,ov h0] at q
      grind
   ·by_cases hv:0≤v
    ·exact pow_up hv h2 n
    ·by_cases hb:0≤x.2
     ·have p:=pow_nn hb n
      have q:=pow_nn (show 0≤-v by grind) n
      rw[ov h0] at q
      grind
     ·have q:=pow_up (show 0≤-x.2 by grind) (show -x.2≤-v by grind) n
      rw[ob h0,ov h0] at q
      grind
  ·by_cases ha:0≤x.1
   ·exact .inl ⟨pow_up ha h1 n,pow_up (show 0≤v by grind) h2 n⟩
   ·have hb:¬0≤x.2:=fun hb=>c ⟨h0.1,h0.2,by grind,hb⟩
    have q1:=pow_up (show 0≤-v by grind) (show -v≤-x.1 by grind) n
    have q2:=pow_up (show 0≤-x.2 by grind) (show -x.2≤-v by grind) n
    rw[ea h0.2,ev h0.2] at q1
    rw[eb h0.2,ev h0.2] at q2
    exact .inr ⟨q2,q1⟩
end Go.SX
