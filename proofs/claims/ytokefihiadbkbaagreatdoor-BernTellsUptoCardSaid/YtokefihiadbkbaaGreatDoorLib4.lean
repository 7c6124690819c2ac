/- The greatest weight of a polynomial's monomials: of sums and of products. -/
import Derived.Test.YtokefihiadbkbaaGreatDoorLib3
import Derived.Test.YtokefihiadbkbaaGreatDoorSx1
import Derived.Test.YtokefihiadbkbaaGreatDoorLib2
import Derived.Test.YtokefihiadbkbaaGreatDoorLib1
import Derived.JoinedCond
set_option linter.unusedVariables false
set_option linter.unusedSimpArgs false
namespace Go.SX
def Fd0 (w:Mon→Int) (n:Int) (p:List Tm):Int:=p.foldl (fun a t=>mx a (w t.1)) n
theorem Em4 (w:Mon→Int) (n:Int) (l:List Tm) (t:Tm):Fd0 w n (l ++ [t])=mx (Fd0 w n l) (w t.1):=by simp[Fd0]
theorem Hx0 {w:Mon→Int} {n e:Int} {p:List Tm} (hn:n≤e) (h: ∀t∈p,w t.1≤e):Fd0 w n p≤e:=by
 induction p generalizing n with
 | nil=>exact hn
 | cons t r ih=>
  refine ih (n:=mx n (w t.1)) ?_ fun u hu=>h u (by simp[hu])
  have:=h t (by simp)
  unfold mx
  split<;>omega
theorem Hv3 {w:Mon→Int} {n:Int} {p:List Tm} :n≤Fd0 w n p∧∀t∈p,w t.1≤Fd0 w n p:=by
 induction p generalizing n with
 | nil=>exact⟨Int.le_refl _,by simp⟩
 | cons t r ih=>
  have:=ih (n:=mx n (w t.1))
  have e:Fd0 w n (t :: r)=Fd0 w (mx n (w t.1)) r:=rfl
  rw[e]
  have h1:n≤mx n (w t.1)∧w t.1≤mx n (w t.1):=by unfold mx;split<;>omega
  refine⟨by omega,fun u hu=>?_⟩
  rcases List.mem_cons.1 hu with rfl | hu
  ·omega
  ·exact this.2 u hu
end Go.SX
/- How great the numbers of short texts are. -/
namespace Go.SX
theorem Bg1 {a:ByteArray} {x m k:Nat} (h:Ad2 a=some x) (hs:a.size≤m) (hm:10^m≤B^k):nl x≤k:=by
 obtain⟨h1,_⟩:=Bq9 h
 exact Bc6 (Nat.lt_of_lt_of_le h1 (Nat.le_trans (Nat.pow_le_pow_right (by decide) hs) hm))
theorem Cf0 {a:ByteArray} {z:Int} {m k:Nat} (h:Ac3 a=some z) (hs:a.size≤m) (hm:10^m≤B^k):nl z.natAbs≤k:=by
 unfold Ac3 at h
 split at h
 ·split at h
  ·rename_i x hx
   split at h
   ·cases h
   ·cases h;rw[Int.natAbs_neg,Int.natAbs_natCast];exact Bg1 hx (by rw[ByteArray.size_extract];omega) hm
  ·cases h
 ·cases hp:Ad2 a with
  | none=>rw[hp] at h;cases h
  | some x=>
   rw[hp] at h
   cases h
   exact Bg1 hp hs hm
theorem Du4 {a:ByteArray} {q:Rat} {m k:Nat} (h:Ab7 a=some q) (hs:a.size≤m) (hm:10^m≤B^k) (hk:1≤k):Sz k q:=by
 unfold Ab7 at h
 split at h
 ·cases hp:Ac3 a with
  | none=>rw[hp] at h;cases h
  | some z=>
   rw[hp] at h
   cases h
   exact⟨by rw[Rat.num_intCast];exact Cf0 hp hs hm,by rw[Rat.den_intCast,Ax0];omega⟩
 ·split at h
  ·rename_i n d hn hd
   split at h
   ·cases h
   ·rename_i i _ hc
    cases h
    have hd0:d≠0:=by omega
    exact Sz.mk (Cf0 hn (by rw[ByteArray.size_extract];omega) hm) (Bg1 hd (by rw[ByteArray.size_extract];omega) hm) hd0
  ·cases h
theorem Ct3 {a:ByteArray} {q:Rat} (h:Ab7 a=some q) (hs:a.size≤30):Sz 4 q:=Du4 h hs (by decide) (by decide)
end Go.SX
/- A polynomial in normal form has no more terms than there are monomials. -/
namespace Go.SX
end Go.SX
/- Where no part of a matrix is below 0, no form is. -/
namespace Go.SX
end Go.SX
/- Intervals of rational numbers, and what a polynomial's terms come to on them: laws. -/
namespace Go.SX
abbrev Iv:=Rat×Rat
def Az9 (a b:Rat):Rat:=if b<a then b else a
def Au7 (a b:Rat):Rat:=if a<b then b else a
def Eb6 (q:Rat):Iv:=(q,q)
def Ag0 (a b:Rat):Iv:=(Az9 a b,Au7 a b)
def Bu9 (x y:Iv):Iv:=(Az9 x.1 y.1,Au7 x.2 y.2)
def Ai3 (x:Iv) (n:Nat):Iv:=if 0<n∧n%2=0∧x.1≤0∧0≤x.2 then(0,Au7 (x.1^n) (x.2^n)) else Ag0 (x.1^n) (x.2^n)
theorem Dj0 (a b:Rat):Az9 a b=a∨Az9 a b=b:=by unfold Az9;split<;>simp
theorem Dj7 (a b:Rat):Au7 a b=a∨Au7 a b=b:=by unfold Au7;split<;>simp
theorem Dh5 (a b:Rat):Az9 a b≤a∧Az9 a b≤b:=by unfold Az9;split<;>grind
theorem Cl6 (a b:Rat):a≤Au7 a b∧b≤Au7 a b:=by unfold Au7;split<;>grind
def Au6 (D N:Nat) (x:Iv):Prop:=Ak3 D N x.1∧Ak3 D N x.2
def BdI (k:Nat) (x:Iv):Prop:=∃D N,Au6 D N x∧D≠0∧nl D≤k∧nl N≤k
theorem Sz.Fe7 {k:Nat} {q:Rat} (h:Sz k q) (n:Nat):Sz (k*n+1) (q^n):=by
 induction n with
 | zero=>rw[Rat.pow_zero];exact Sz.one (by omega)
 | succ n ih=>
  rw[Rat.pow_succ]
  exact(ih.mul h).mono (by rw[Nat.mul_add];omega)
theorem Ak3.pow {D N:Nat} {q:Rat} (h:Ak3 D N q) (n:Nat):Ak3 (D^n) (N^n) (q^n):=by
 induction n with
 | zero=>rw[Rat.pow_zero];exact Ak3.int 1
 | succ n ih=>rw[Rat.pow_succ,Nat.pow_succ,Nat.pow_succ];exact ih.mul h
theorem Ch9 {x:Nat} (hx:x≠0) (e:Nat):x^e≠0:=Nat.pos_iff_ne_zero.1 (Nat.pow_pos (Nat.pos_iff_ne_zero.2 hx))
theorem Cf5 (a n:Nat):nl (a^n)≤nl a*n+1:=by
 induction n with
 | zero=>rw[Nat.pow_zero,Ax0];omega
 | succ n ih=>
  rw[Nat.pow_succ]
  have:=Ae5 (a^n) a
  rw[Nat.mul_add,Nat.mul_one]
  omega
theorem BdI.sz {k:Nat} {x:Iv} (h:BdI k x):Sz k x.1∧Sz k x.2:=let⟨D,N,h1,h2,h3,h4⟩:=h;⟨h1.1.sz h2 h3 h4,h1.2.sz h2 h3 h4⟩
theorem BdI.pt {k:Nat} {q:Rat} (h:Sz k q):BdI k (Eb6 q):=⟨q.den,q.num.natAbs,⟨Ak3.den q,Ak3.den q⟩,q.den_nz,h.2,h.1⟩
theorem BdI.zero {k:Nat} (h:1≤k):BdI k (0,0):=BdI.pt (Sz.zero h)
theorem BdI.Co7 {k:Nat} {x:Iv} (h:Sz k x.1∧Sz k x.2):BdI (2*k+1) x:=by
 have e1:=Ae5 x.1.den x.2.den
 have e2:=Ae5 x.1.num.natAbs x.2.den
 have e3:=Ae5 x.2.num.natAbs x.1.den
 have e4:=By9 (x.1.num.natAbs*x.2.den) (x.2.num.natAbs*x.1.den)
 have h1:=h.1.1
 have h2:=h.1.2
 have h3:=h.2.1
 have h4:=h.2.2
 refine⟨x.1.den*x.2.den,x.1.num.natAbs*x.2.den+x.2.num.natAbs*x.1.den,⟨((Ak3.den x.1).scale x.2.den).mono (by omega),?_⟩,Nat.mul_ne_zero x.1.den_nz x.2.den_nz,by omega,by omega⟩
 have:=(Ak3.den x.2).scale x.1.den
 rw[Nat.mul_comm x.1.den]
 exact this.mono (by omega)
/-! ### What the reference does, is the same. -/
def Af9 : List Rat → Iv
  | [] => (0, 0)
  | x :: r => (r.foldl Az9 x, r.foldl Au7 x)
theorem Bl8 {n:Nat} (h:0<n):(0:Rat)^n=0:=by
 cases n with
 | zero=>omega
 | succ n=>rw[Rat.pow_succ,Rat.mul_zero]
end Go.SX
/- Models: a polynomial and a rest; how great their numbers are: laws. -/
namespace Go.SX
def Fc6 (b:Nat→Iv) (n:Int):Prop:=(b 0).1≤(b 0).2∧(b 1).1≤(b 1).2∧(b 2).1≤(b 2).2∧0≤n∧n≤8
instance (b:Nat→Iv) (n:Int):Decidable (Fc6 b n):=by unfold Fc6;infer_instance
end Go.SX
/- Products of polynomials are bilinear; a form's squares: laws. -/
namespace Go.SX
theorem Kw8 (G:Mon→Rat) (a:Tm) (q:List Tm):lin G (q.map fun b=>(a.1.add b.1,a.2*b.2))=a.2*lin (fun m=>G (a.1.add m)) q:=by
 induction q with
 | nil=>simp[lin,Rat.mul_zero]
 | cons t r ih=>
  simp only[List.map_cons,lin,ih]
  grind
theorem Ky1 (G:Mon→Rat) (p q:List Tm):lin G (An8 p q)=lin (fun a=>lin (fun b=>G (a.add b)) q) p:=by
 induction p with
 | nil=>rfl
 | cons t r ih=>
  have e:An8 (t :: r) q=(q.map fun b=>(t.1.add b.1,t.2*b.2)) ++ An8 r q:=rfl
  rw[e,Gl3,Kw8,ih,lin]
theorem Gs4 (G:Mon→Rat) (r:Rat): ∀p:List Tm,lin G (p.map fun t=>(t.1,t.2*r))=r*lin G p
 | []=>by simp[lin,Rat.mul_zero]
 | t :: p=>by
  rw[List.map_cons,lin,Gs4 G r p,lin]
  grind
end Go.SX
/- The closed facts that a row asks, in parts: a great program's are asked one part after the other. -/
namespace Go
def Fc7 (P:Program) (f:FuncId) (fn:Func) (s:ChangeSpec) (c:OpenClaim):Bool:=c.wf (OpenSpec.ofChange s) && laidOutB P && mapsRowed P && fn.params.all (P.readableRec ·) && namedTie P c.named s.vars && (c.stops == []) && (P.stops == []) && (c.knobs == []) && (P.stopKnobs == [])
def Fd9 (P:Program) (f:FuncId) (fn:Func) (s:ChangeSpec) (c:OpenClaim):Bool:=(c.inPlace == P.inPlace f) && (c.unfollowed == P.unfollowed f) && (c.recurses == P.recurses f) && (c.named == P.varsNamed f)
def Fe1 (P:Program) (f:FuncId) (fn:Func) (s:ChangeSpec) (c:OpenClaim):Bool:=(c.maps == (fn.params.toList ++ s.plain.varTypes P).any (P.mapsRec ·)) && (c.ifaces == (fn.params.toList ++ s.plain.varTypes P).any (P.ifacesRec ·)) && (c.mapsOut == P.mapsAmong fn.resultTypes.toList) && (c.loops == (fn.params.toList ++ s.plain.varTypes P).any (P.loopsFrom ·)) && (c.wideKeys == (fn.params.toList ++ s.plain.varTypes P ++ fn.resultTypes.toList).any (P.wideKeysFrom ·)) && s.vars.all (P.varReadable ·)
def Fd2 (P:Program) (f:FuncId) (fn:Func) (s:ChangeSpec) (c:OpenClaim):Bool:=fn.resultTypes.all (fun t=>P.readableRec t && decide (t<P.types.size)) && (c.ifacesOut == fn.resultTypes.toList.any (P.ifacesRec ·)) && (c.loopsOut == fn.resultTypes.toList.any (P.loopsFrom ·)) && (c.plainKeys == P.plainKeys) && c.shortTexts.isNone && P.stopsHeard && P.mayEnter
def Fd4 (P:Program) (f:FuncId) (fn:Func) (s:ChangeSpec) (c:OpenClaim):Bool:=(c.lifted == P.liftsFinal) && (P.make == some c.make) && (c.kinds == (if c.domain.isEmpty then[] else fn.params.toList.map fun t=>match P.underlying t with | some (.int k)=>some k | _=>none)) && (c.pinned == c.pinnedBy) && (c.veiled == (fn.params.toList ++ s.plain.varTypes P ++ fn.resultTypes.toList).any (P.veiledRec ·)) && c.veiledFits P fn.params.toList (fn.params.toList ++ s.plain.varTypes P ++ fn.resultTypes.toList)
theorem re1 {x a0 a1 a2 a3:Bool} (h:x=true) (g:(a0 && a1 && a2 && a3)=true):(x && a0 && a1 && a2 && a3)=true:=by rw[h];exact g
theorem re2 {x a0 a1 a2 a3 a4 a5:Bool} (h:x=true) (g:(a0 && a1 && a2 && a3 && a4 && a5)=true):(x && a0 && a1 && a2 && a3 && a4 && a5)=true:=by rw[h];exact g
theorem re3 {x a0 a1 a2 a3 a4 a5 a6:Bool} (h:x=true) (g:(a0 && a1 && a2 && a3 && a4 && a5 && a6)=true):(x && a0 && a1 && a2 && a3 && a4 && a5 && a6)=true:=by rw[h];exact g
theorem re4 {x a0 a1 a2 a3 a4 a5:Bool} (h:x=true) (g:(a0 && a1 && a2 && a3 && a4 && a5)=true):(x && a0 && a1 && a2 && a3 && a4 && a5)=true:=by rw[h];exact g
theorem Eo7 {P:Program} {f:FuncId} {fn:Func} {s:ChangeSpec} {c:OpenClaim} (h0:Fc7 P f fn s c=true) (h1:Fd9 P f fn s c=true) (h2:Fe1 P f fn s c=true) (h3:Fd2 P f fn s c=true) (h4:Fd4 P f fn s c=true):joinedFacts P f fn s c=true:=re4 (re3 (re2 (re1 h0 h1) h2) h3) h4
end Go
/- Intervals, domains, models in memory. -/
namespace Go.SX
theorem At6 {a b:Rat} :Co4 a b<0↔a<b:=by
 unfold Co4
 split
 ·simp[*]
 ·split<;>simp_all
theorem Al3 {a b:Rat} :0<Co4 a b↔b<a:=by
 unfold Co4
 split
 ·grind
 ·split
  ·rename_i h1 h2
   subst h2
   grind
  ·rename_i h1 h2
   constructor
   ·intro _
    exact Rat.not_le.1 fun h=>(Rat.le_iff_lt_or_eq.1 h).elim h1 h2
   ·intro _;omega
theorem Dn3 {a b:Rat} :Co4 a b≤0↔a≤b:=by rw[←Int.not_lt,Al3,Rat.not_lt]
theorem El9 {a b:Rat} :0≤Co4 a b↔b≤a:=by rw[←Int.not_lt,At6,Rat.not_lt]
def SpV (tu:TypeId) (W:PW) (l:List Value) (x:Iv):Prop:=∃(s:Sl) (b:Bool) (t s':Sl) (b':Bool) (t':Sl),l = [s.v,.bool b,t.v,s'.v,.bool b',t'.v]∧Ab3 tu W s b t x.1∧Ab3 tu W s' b' t' x.2
def Ah6 (tu:TypeId) (W:PW) (l:List Value) (x:Iv):Prop:=∃(b:Bool) (s t:Sl) (b':Bool) (s' t':Sl),l = [.bool b,s.v,t.v,.bool b',s'.v,t'.v]∧Ab6 tu W b s t x.1∧Ab6 tu W b' s' t' x.2
theorem SpV.ext {tu:TypeId} {W W':PW} {l:List Value} {x:Iv} (h:SpV tu W l x) (hE:Ext W W'):SpV tu W' l x:=let⟨s,b,t,s',b',t',e,h1,h2⟩:=h;⟨s,b,t,s',b',t',e,h1.ext hE,h2.ext hE⟩
theorem Ah6.ext {tu:TypeId} {W W':PW} {l:List Value} {x:Iv} (h:Ah6 tu W l x) (hE:Ext W W'):Ah6 tu W' l x:=let⟨s,b,t,s',b',t',e,h1,h2⟩:=h;⟨s,b,t,s',b',t',e,h1.ext hE,h2.ext hE⟩
theorem SpV.mk {tu:TypeId} {W:PW} {s t s' t':Sl} {b b':Bool} {x:Iv} (h1:Ab3 tu W s b t x.1) (h2:Ab3 tu W s' b' t' x.2):SpV tu W [s.v,.bool b,t.v,s'.v,.bool b',t'.v] x:=⟨s,b,t,s',b',t',rfl,h1,h2⟩
theorem Ah6.mk {tu:TypeId} {W:PW} {s t s' t':Sl} {b b':Bool} {x:Iv} (h1:Ab6 tu W b s t x.1) (h2:Ab6 tu W b' s' t' x.2):Ah6 tu W [.bool b,s.v,t.v,.bool b',s'.v,t'.v] x:=⟨b,s,t,b',s',t',rfl,h1,h2⟩
theorem SpV.out {tu:TypeId} {W:PW} {l:List Value} {x:Iv} {K:Sl→Bool→Sl→Sl→Bool→Sl→Prop} (h:SpV tu W l x) (k: ∀s b t s' b' t',SpV tu W [s.v,.bool b,t.v,s'.v,.bool b',t'.v] x→K s b t s' b' t'):
  ∃(s:Sl) (b:Bool) (t s':Sl) (b':Bool) (t':Sl),Value.agg ⟨l⟩ = .agg ⟨[s.v,.bool b,t.v,s'.v,.bool b',t'.v]⟩∧K s b t s' b' t':=by
 obtain⟨s,b,t,s',b',t',rfl,h1,h2⟩:=h
 exact⟨s,b,t,s',b',t',rfl,k s b t s' b' t' (SpV.mk h1 h2)⟩
theorem Ah6.out {tu:TypeId} {W:PW} {l:List Value} {x:Iv} {K:Bool→Sl→Sl→Bool→Sl→Sl→Prop} (h:Ah6 tu W l x) (k: ∀b s t b' s' t',Ah6 tu W [.bool b,s.v,t.v,.bool b',s'.v,t'.v] x→K b s t b' s' t'):
  ∃(b:Bool) (s t:Sl) (b':Bool) (s' t':Sl),Value.agg ⟨l⟩ = .agg ⟨[.bool b,s.v,t.v,.bool b',s'.v,t'.v]⟩∧K b s t b' s' t':=by
 obtain⟨b,s,t,b',s',t',rfl,h1,h2⟩:=h
 exact⟨b,s,t,b',s',t',rfl,k b s t b' s' t' (Ah6.mk h1 h2)⟩
theorem SpV.zero {tu:TypeId} (W:PW):SpV tu W [.slice none 0 0,.bool false,.slice none 0 0,.slice none 0 0,.bool false,.slice none 0 0] (0,0):=⟨⟨none,0,0⟩,false,⟨none,0,0⟩,⟨none,0,0⟩,false,⟨none,0,0⟩,rfl,Ar9 W,Ar9 W⟩
theorem Ah6.zero {tu:TypeId} (W:PW):Ah6 tu W [.bool false,.slice none 0 0,.slice none 0 0,.bool false,.slice none 0 0,.slice none 0 0] (0,0):=⟨false,⟨none,0,0⟩,⟨none,0,0⟩,false,⟨none,0,0⟩,⟨none,0,0⟩,rfl,Db0 W,Db0 W⟩
theorem Sl.Ck0 {s t:Sl} (h:s.v=t.v):s=t:=by
 cases s
 cases t
 simp only[Sl.v,Value.slice.injEq] at h
 obtain⟨rfl,rfl,rfl⟩:=h
 rfl
def IvS (k:Nat) (x:Iv):Prop:=Sz k x.1∧Sz k x.2
end Go.SX
/- Squares and boxes in memory. -/
namespace Go.SX
structure SqP where
 w:Rat
 g:Int
 q:List Tm
def Dr1 {α:Type} (R:PW→List Value→α→Prop) (sz:Nat) (W:PW) (s:Sl) (l:List α):Prop:=∃xs,Bf9 W sz s xs∧An5 (R W) xs l
theorem Dr1.ext {α:Type} {R:PW→List Value→α→Prop} {sz:Nat} (hR: ∀{W W':PW} {x:List Value} {a:α},R W x a→Ext W W'→R W' x a) {W W':PW} {s:Sl} {l:List α} (h:Dr1 R sz W s l) (hE:Ext W W'):Dr1 R sz W' s l:=let⟨xs,⟨t,h1⟩,h2⟩:=h;⟨xs,⟨t,h1.ext hE⟩,h2.mono fun _ _ h=>hR h hE⟩
theorem Dr1.n {α:Type} {R:PW→List Value→α→Prop} {sz:Nat} {W:PW} {s:Sl} {l:List α} (h:Dr1 R sz W s l):s.n=l.length:=let⟨xs,⟨_,h1⟩,h2⟩:=h;h1.1.trans h2.len
theorem Dr1.inB {α:Type} {R:PW→List Value→α→Prop} {sz:Nat} {W:PW} {s:Sl} {l:List α} (h:Dr1 R sz W s l) {i:Int} (h0:0≤i) (h1:i<(l.length:Int)):SX.inB s i:=let⟨xs,⟨_,h2⟩,h3⟩:=h;h2.inB h0 (by rw[h3.len];exact h1)
theorem Dr1.at {α:Type} {R:PW→List Value→α→Prop} {sz:Nat} {W:PW} {s:Sl} {l:List α} (h:Dr1 R sz W s l) {i:Nat} (hi:i<l.length): ∃x,R W x l[i]∧∀(off:Nat) {m:List Value},(x.drop off).take m.length=m→Aa7 W s sz i off m:=by
 obtain⟨xs,⟨t,h1⟩,h2⟩:=h
 obtain⟨x,hx,hr⟩:=h2.get (List.getElem?_eq_getElem hi)
 exact⟨x,hr,fun off m hm=>h1.part hx off hm⟩
theorem Dr1.nil {α:Type} {R:PW→List Value→α→Prop} {sz:Nat} (W:PW):Dr1 R sz W ⟨none,0,0⟩ ([]:List α):=⟨[],⟨0,rfl,Nat.le_refl _,Nat.zero_le _,fun x h=>by simp at h,.inl rfl⟩,trivial⟩
abbrev Bc3 (tu:TypeId):=Dr1 (SpV tu) 6
abbrev Fx4 (tu:TypeId):=Dr1 (Ah6 tu) 6
theorem Bc3.ext {tu:TypeId} {W W':PW} {s:Sl} {l:List Iv} (h:Bc3 tu W s l) (hE:Ext W W'):Bc3 tu W' s l:=Dr1.ext (R:=SpV tu) (fun h=>SpV.ext h) h hE
theorem Fx4.ext {tu:TypeId} {W W':PW} {s:Sl} {l:List Iv} (h:Fx4 tu W s l) (hE:Ext W W'):Fx4 tu W' s l:=Dr1.ext (R:=Ah6 tu) (fun h=>Ah6.ext h) h hE
def Cn7 (bs:List Iv):Prop:=(1≤bs.length∧bs.length≤3)∧∀x∈bs,x.1<x.2
instance (bs:List Iv):Decidable (Cn7 bs):=by unfold Cn7;infer_instance
end Go.SX
