/- Tables of texts. -/
import Derived.Test.YtjgpenfndnhdnaaGreatLib2
import Derived.Test.YtjgpenfndnhdnaaGreatLib1
import Derived.Shelf.SlSortCmp.WholeK
import Derived.Shelf.SlSortCmp.NoneTotal
set_option linter.unusedVariables false
set_option linter.unusedSimpArgs false
set_option linter.unusedVariables false
namespace Go.SX
def tcel (l:List ByteArray):List (List Value):=l.map fun t=>[.string t]
theorem tcel_length (l:List ByteArray):(tcel l).length=l.length:=by simp[tcel]
theorem RowA.ext {W W':PW} {sz:Nat} {s:Sl} {xs:List (List Value)} (h:RowA W sz s xs) (hE:Ext W W'):RowA W' sz s xs:=let⟨t,h1⟩:=h;⟨t,h1.ext hE⟩
theorem RowA.new {W W':PW} {sz n0:Nat} {s:Sl} {xs:List (List Value)} (h:RowA W sz s xs) (hE:ExtN n0 W W') (hn:W.w.heap.size≤n0):RowA W' sz s xs:=let⟨t,h1⟩:=h;⟨t,h1.new hE hn⟩
def IsTx (W:PW) (s:Sl) (T:List (List ByteArray)):Prop:=
 ∃ss:List Sl,RowA W 1 s (ss.map fun x=>[x.v])∧ss.length=T.length∧∀i (h:i<ss.length) (h':i<T.length),RowA W 1 ss[i] (tcel T[i])
theorem IsTx.ext {W W':PW} {s:Sl} {T:List (List ByteArray)} (h:IsTx W s T) (hE:Ext W W'):IsTx W' s T:=
 let⟨ss,h1,h2,h3⟩:=h;⟨ss,h1.ext hE,h2,fun i hi hi'=>(h3 i hi hi').ext hE⟩
theorem IsTx.new {W W':PW} {s:Sl} {T:List (List ByteArray)} {n0:Nat} (h:IsTx W s T) (hE:ExtN n0 W W') (hn:W.w.heap.size≤n0):IsTx W' s T:=
 let⟨ss,h1,h2,h3⟩:=h;⟨ss,h1.new hE hn,h2,fun i hi hi'=>(h3 i hi hi').new hE hn⟩
theorem IsTx.n {W:PW} {s:Sl} {T:List (List ByteArray)} (h:IsTx W s T):s.n=T.length:=let⟨ss,⟨_,h1⟩,h2,_⟩:=h;h1.1.trans (by simpa using h2)
theorem IsTx.inB {W:PW} {s:Sl} {T:List (List ByteArray)} (h:IsTx W s T) {i:Int} (h0:0≤i) (h1:i<(T.length:Int)):inB s i:=by
 have hn:=h.n
 obtain⟨ss,⟨_,hr⟩,hq,_⟩:=h
 refine⟨h0,by omega,Row.some hr fun e=>?_⟩
 have:ss = []:=by simpa using e
 subst this
 simp at hq
 omega
theorem IsTx.at {W:PW} {s:Sl} {T:List (List ByteArray)} (h:IsTx W s T) {i:Nat} (hi:i<T.length): ∃x:Sl,ElemAt W s 1 i 0 [x.v]∧RowA W 1 x (tcel T[i]):=by
 obtain⟨ss,⟨_,hr⟩,hq,h3⟩:=h
 have hi':i<ss.length:=by omega
 exact⟨ss[i],Row.elem hr (x:=[ss[i].v]) (by simp[hi']) fun j v hj=>by simpa using hj,h3 i hi' hi⟩
theorem RowA.text {W:PW} {x:Sl} {l:List ByteArray} (h:RowA W 1 x (tcel l)) {j:Nat} (hj:j<l.length):ElemAt W x 1 j 0 [.string l[j]]:=let⟨_,h⟩:=h;Row.elem h (x:=[.string l[j]]) (by simp[tcel,hj]) fun j v hj=>by simpa using hj
theorem RowA.inBt {W:PW} {x:Sl} {l:List ByteArray} (h:RowA W 1 x (tcel l)) {i:Int} (h0:0≤i) (h1:i<(l.length:Int)):inB x i:=by
 obtain⟨_,h⟩:=h
 exact⟨h0,by have:=h.1;rw[tcel_length] at this;omega,Row.some h fun e=>by
  have:l = []:=by simpa[tcel] using e
  subst this
  simp at h1
  omega⟩
theorem RowA.nt {W:PW} {x:Sl} {l:List ByteArray} (h:RowA W 1 x (tcel l)):x.n=l.length:=let⟨_,h⟩:=h;by rw[h.1,tcel_length]
def OTab (t9:TypeId) (N:Nat→Prop) (W:PW) (ss:List Sl) (T:List (List ByteArray)):Prop:=
 ss.length=T.length∧(∀i (h:i<ss.length) (h':i<T.length),Own W t9 1 ss[i] (tcel T[i])∧∀g,ss[i].v.ownBlock=some g→N g)∧
  ∀i j (hi:i<ss.length) (hj:j<ss.length),i≠j→∀g,ss[i].v.ownBlock=some g→ss[j].v.ownBlock≠some g
end Go.SX

/- Decimal digits. -/
set_option linter.unusedVariables false
namespace Go.SX
def dec:Nat→List Nat
 | 0=>[]
 | n+1=>(n+1)%10 :: dec ((n+1)/10)
 decreasing_by omega
theorem dec_zero:dec 0 = []:=by rw[dec]
theorem dec_pos {x:Nat} (h:x≠0):dec x=x%10 :: dec (x/10):=by
 cases x with
 | zero=>exact absurd rfl h
 | succ n=>rw[dec]
def dvl:List Nat→Nat
 | []=>0
 | d :: r=>d+10*dvl r
theorem dvl_append: ∀(l r:List Nat),dvl (l ++ r)=dvl l+10^l.length*dvl r
 | [],r=>by simp[dvl]
 | d :: l,r=>by
  simp only[List.cons_append,dvl,dvl_append l r,List.length_cons,Nat.pow_succ]
  grind
theorem dec_dvl: ∀{l:List Nat} (_: ∀d∈l,d<10) (_:l.getLast?≠some 0),dec (dvl l)=l
 | [],_,_=>dec_zero
 | d :: r,hd,hl=>by
  have hr:r.getLast?≠some 0:=by
   intro h
   apply hl
   cases r with
   | nil=>cases h
   | cons e r=>rw[List.getLast?_cons_cons];exact h
  have ih:=dec_dvl (l:=r) (fun x hx=>hd x (List.mem_cons_of_mem _ hx)) hr
  have h10:=hd d (List.mem_cons_self ..)
  have hne:dvl (d :: r)≠0:=by
   simp only[dvl]
   intro h0
   have h1:d=0:=by omega
   have h2:dvl r=0:=by omega
   rw[h2] at ih
   have:r = []:=by rw[←ih];exact dec_zero
   subst this
   apply hl
   rw[h1];rfl
  rw[dec_pos hne]
  have e1:dvl (d :: r)%10=d:=by simp only[dvl];omega
  have e2:dvl (d :: r)/10=dvl r:=by simp only[dvl];omega
  rw[e1,e2,ih]
def decN (x:Nat):ByteArray:=if x=0 then⟨⟨[48]⟩⟩ else strOfNums ((dec x).reverse.map fun(d:Nat)=>(48+(d:Int)))
def decI (z:Int):ByteArray:=if z<0 then⟨⟨[45]⟩⟩ ++ decN z.natAbs else decN z.natAbs
def decQ (q:Rat):ByteArray:=if q.den=1 then decI q.num else decI q.num ++ ⟨⟨[47]⟩⟩ ++ decN q.den
theorem dec_len: ∀(k:Nat) {x:Nat} (_:x<10^k),(dec x).length≤k
 | 0,x,h=>by
  have:x=0:=by simpa using h
  rw[this,dec_zero];simp
 | k+1,x,h=>by
  by_cases h0:x=0
  ·rw[h0,dec_zero];simp
  ·rw[dec_pos h0,List.length_cons]
   have:=dec_len k (x:=x/10) (by rw[Nat.pow_succ] at h;omega)
   omega
theorem decN_size (x:Nat):(decN x).size≤32*nl x+1:=by
 unfold decN
 split
 ·show 1≤_
  omega
 ·rw[strOfNums_size,List.length_map,List.length_reverse]
  refine Nat.le_trans (dec_len (32*nl x) ?_) (by omega)
  have h1:=lt_nl x
  rw[B_pow] at h1
  exact Nat.lt_of_lt_of_le h1 (Nat.pow_le_pow_left (by decide) _)
theorem decI_size (z:Int):(decI z).size≤32*nl z.natAbs+2:=by
 have:=decN_size z.natAbs
 unfold decI
 split
 ·rw[ByteArray.size_append]
  show 1+_≤_
  omega
 ·omega
def bcel (l:List Nat):List (List Value):=l.map fun(d:Nat)=>[.int .u8 (48+(d:Int))]
theorem bcel_length (l:List Nat):(bcel l).length=l.length:=by simp[bcel]
theorem bcel_append (l r:List Nat):bcel (l ++ r)=bcel l ++ bcel r:=by simp[bcel]
theorem rev_done {α:Type} {xs ys:List α} {k:Nat} (hl:ys.length=xs.length) (hk:xs.length≤2*k+1) (h: ∀a,a<xs.length→ys[a]?=if a<k∨xs.length≤a+k then xs[xs.length-1-a]? else xs[a]?):ys=xs.reverse:=by
 apply List.ext_getElem?
 intro a
 by_cases ha:a<xs.length
 ·rw[h a ha,List.getElem?_reverse ha]
  split
  ·rfl
  ·congr 1;omega
 ·rw[List.getElem?_eq_none (by omega),List.getElem?_eq_none (by simp;omega)]
theorem rev_step {α:Type} {xs ys:List α} {k:Nat} {u v:α} (hl:ys.length=xs.length) (hk:k<xs.length-1-k) (hu:xs[xs.length-1-k]?=some u) (hv:xs[k]?=some v)
  (h: ∀a,a<xs.length→ys[a]?=if a<k∨xs.length≤a+k then xs[xs.length-1-a]? else xs[a]?):
  ∀a,a<xs.length→((ys.set k u).set (xs.length-1-k) v)[a]?=if a<k+1∨xs.length≤a+(k+1) then xs[xs.length-1-a]? else xs[a]?:=by
 intro a ha
 rw[List.getElem?_set,List.getElem?_set]
 by_cases e1:xs.length-1-k=a
 ·rw[if_pos e1,if_pos (by simp;omega),if_pos (by omega),show xs.length-1-a=k by omega,hv]
 ·rw[if_neg e1]
  by_cases e2:k=a
  ·rw[if_pos e2,if_pos (by omega),if_pos (by omega),←e2,hu]
  ·rw[if_neg e2,h a ha]
   by_cases e3:a<k∨xs.length≤a+k
   ·rw[if_pos e3,if_pos (by omega)]
   ·rw[if_neg e3,if_neg (by omega)]
end Go.SX

/- Polynomials: monomials of three exponents, terms, sums of terms; how great their numbers are. -/
set_option linter.unusedVariables false
namespace Go.SX
structure Mon where
  x:Int
  y:Int
  z:Int
 deriving DecidableEq
def Mon.deg (m:Mon):Int:=m.x+m.y+m.z
def Mon.ok (m:Mon):Prop:=(0≤m.x∧m.x≤255)∧(0≤m.y∧m.y≤255)∧0≤m.z∧m.z≤255
def Mon.lt (a b:Mon):Prop:=a.deg<b.deg∨a.deg=b.deg∧(a.x<b.x∨a.x=b.x∧(a.y<b.y∨a.y=b.y∧a.z<b.z))
instance (a b:Mon):Decidable (a.lt b):=by unfold Mon.lt;infer_instance
theorem Mon.ext3 {a b:Mon} (h1:a.x=b.x) (h2:a.y=b.y) (h3:a.z=b.z):a=b:=by
 cases a;cases b;simp_all
theorem Mon.lt_irrefl (a:Mon):¬a.lt a:=by unfold Mon.lt;omega
theorem Mon.lt_trans {a b c:Mon} (h:a.lt b) (k:b.lt c):a.lt c:=by unfold Mon.lt at *;omega
theorem Mon.lt_ne {a b:Mon} (h:a.lt b):a≠b:=by rintro rfl;exact Mon.lt_irrefl _ h
def Mon.cmp (a b:Mon):Int:=if a.lt b then -1 else if a=b then 0 else 1
theorem Mon.cmp_neg {a b:Mon} :a.cmp b<0↔a.lt b:=by
 unfold Mon.cmp
 split
 ·simp_all
 ·split<;>simp_all
def Mon.add (a b:Mon):Mon:=⟨a.x+b.x,a.y+b.y,a.z+b.z⟩
abbrev Tm:=Mon×Rat
def ptot:List Tm→Mon→Rat
 | [],_=>0
 | t :: r,m=>(if t.1=m then t.2 else 0)+ptot r m
structure PGood (p:List Tm):Prop where
 srt:p.Pairwise fun a b=>a.1.lt b.1
 nz: ∀t∈p,t.2≠0
def POk (l:List Tm):Prop:=∀t∈l,t.1.ok
/-! ### How great the numbers are: over a common denominator D, all numerators together at most N. -/
def FitQ (D N : Nat) (q : Rat) : Prop := ∃ z : Int, q * (D : Rat) = (z : Rat) ∧ z.natAbs ≤ N
def Fit (D:Nat):Nat→List Tm→Prop
 | _,[]=>True
 | N,t :: r=>∃(n k:Nat),n+k≤N∧FitQ D n t.2∧Fit D k r
def ppairs (p q:List Tm):List Tm:=p.flatMap fun a=>q.map fun b=>(a.1.add b.1,a.2*b.2)
structure Sums (D:Nat) (l:List Tm) (a:Nat) (E:List Tm):Prop where
 tot: ∀m,ptot E m=ptot l m
 fit:Fit D a E
 len:E.length≤l.length
end Go.SX

/- Polynomials in memory: rows of terms, the program's and the document's; sums in a map. -/
set_option linter.unusedVariables false
namespace Go.SX
def All2 {α β:Type} (R:α→β→Prop):List α→List β→Prop
 | [],[]=>True
 | a :: ar,b :: br=>R a b∧All2 R ar br
 | _,_=>False
theorem All2.len {α β:Type} {R:α→β→Prop} : ∀{xs:List α} {p:List β},All2 R xs p→xs.length=p.length
 | [],[],_=>rfl
 | _ :: _,_ :: _,h=>by simp[h.2.len]
 | [],_ :: _,h=>h.elim
 | _ :: _,[],h=>h.elim
theorem All2.mono {α β:Type} {R R':α→β→Prop} (hR: ∀a b,R a b→R' a b): ∀{xs:List α} {p:List β},All2 R xs p→All2 R' xs p
 | [],[],_=>trivial
 | _ :: _,_ :: _,h=>⟨hR _ _ h.1,h.2.mono hR⟩
 | [],_ :: _,h=>h.elim
 | _ :: _,[],h=>h.elim
theorem All2.get {α β:Type} {R:α→β→Prop} : ∀{xs:List α} {p:List β},All2 R xs p→∀{i:Nat} {t:β},p[i]?=some t→∃x,xs[i]?=some x∧R x t
 | [],[],_,i,t,h=>by simp at h
 | x :: _,u :: _,h,0,t,ht=>by
  simp only[List.getElem?_cons_zero,Option.some.injEq] at ht
  subst ht
  exact⟨x,rfl,h.1⟩
 | _ :: _,_ :: _,h,i+1,t,ht=>by
  simp only[List.getElem?_cons_succ] at ht⊢
  exact h.2.get ht
 | [],_ :: _,h,_,_,_=>h.elim
 | _ :: _,[],h,_,_,_=>h.elim
theorem All2.append {α β:Type} {R:α→β→Prop} : ∀{xs:List α} {p:List β},All2 R xs p→∀{ys:List α} {q:List β},All2 R ys q→All2 R (xs ++ ys) (p ++ q)
 | [],[],_,_,_,h=>h
 | _ :: _,_ :: _,h,_,_,k=>⟨h.1,h.2.append k⟩
 | [],_ :: _,h,_,_,_=>h.elim
 | _ :: _,[],h,_,_,_=>h.elim
theorem All2.snoc {α β:Type} {R:α→β→Prop} {xs:List α} {p:List β} (h:All2 R xs p) {x:α} {t:β} (ht:R x t):All2 R (xs ++ [x]) (p ++ [t]):=h.append ⟨ht,trivial⟩
@[reducible] def Mon.c (m:Mon):List Value:=[.int .u8 m.x,.int .u8 m.y,.int .u8 m.z]
@[reducible] def Mon.v (m:Mon):Value:=.agg ⟨[.int .u8 m.x,.int .u8 m.y,.int .u8 m.z]⟩
def PT (tu:TypeId) (W:PW) (x:List Value) (t:Tm):Prop:=t.1.ok∧∃(s:Sl) (b:Bool) (s':Sl),x = [.int .u8 t.1.x,.int .u8 t.1.y,.int .u8 t.1.z,s.v,.bool b,s'.v]∧IsRat tu W s b s' t.2
def RT (tu:TypeId) (W:PW) (x:List Value) (t:Tm):Prop:=t.1.ok∧∃(b:Bool) (s s':Sl),x = [.int .u8 t.1.x,.int .u8 t.1.y,.int .u8 t.1.z,.bool b,s.v,s'.v]∧IsRefQ tu W b s s' t.2
def AT (x:List Value) (t:Mon×ByteArray):Prop:=t.1.ok∧x = [.int .u8 t.1.x,.int .u8 t.1.y,.int .u8 t.1.z,.string t.2]
theorem PT.ext {tu:TypeId} {W W':PW} {x:List Value} {t:Tm} (h:PT tu W x t) (hE:Ext W W'):PT tu W' x t:=let⟨h0,s,b,s',h1,h2⟩:=h;⟨h0,s,b,s',h1,h2.ext hE⟩
theorem RT.ext {tu:TypeId} {W W':PW} {x:List Value} {t:Tm} (h:RT tu W x t) (hE:Ext W W'):RT tu W' x t:=let⟨h0,s,b,s',h1,h2⟩:=h;⟨h0,s,b,s',h1,h2.ext hE⟩
def IsPoly (tu tt:TypeId) (W:PW) (s:Sl) (p:List Tm):Prop:=∃xs,Row W tt 6 s xs∧All2 (PT tu W) xs p
def IsRPoly (tu tt:TypeId) (W:PW) (s:Sl) (p:List Tm):Prop:=∃xs,Row W tt 6 s xs∧All2 (RT tu W) xs p
def IsAPoly (W:PW) (s:Sl) (p:List (Mon×ByteArray)):Prop:=∃xs,RowA W 4 s xs∧All2 AT xs p
theorem IsPoly.ext {tu tt:TypeId} {W W':PW} {s:Sl} {p:List Tm} (h:IsPoly tu tt W s p) (hE:Ext W W'):IsPoly tu tt W' s p:=let⟨xs,h1,h2⟩:=h;⟨xs,h1.ext hE,h2.mono fun _ _ h=>h.ext hE⟩
theorem IsRPoly.ext {tu tt:TypeId} {W W':PW} {s:Sl} {p:List Tm} (h:IsRPoly tu tt W s p) (hE:Ext W W'):IsRPoly tu tt W' s p:=let⟨xs,h1,h2⟩:=h;⟨xs,h1.ext hE,h2.mono fun _ _ h=>h.ext hE⟩
theorem IsAPoly.ext {W W':PW} {s:Sl} {p:List (Mon×ByteArray)} (h:IsAPoly W s p) (hE:Ext W W'):IsAPoly W' s p:=let⟨xs,h1,h2⟩:=h;⟨xs,h1.ext hE,h2⟩
theorem IsPoly.n {tu tt:TypeId} {W:PW} {s:Sl} {p:List Tm} (h:IsPoly tu tt W s p):s.n=p.length:=let⟨xs,h1,h2⟩:=h;h1.1.trans h2.len
theorem IsAPoly.n {W:PW} {s:Sl} {p:List (Mon×ByteArray)} (h:IsAPoly W s p):s.n=p.length:=let⟨xs,⟨_,h1⟩,h2⟩:=h;h1.1.trans h2.len
theorem Row.inB {W:PW} {t:TypeId} {sz:Nat} {s:Sl} {xs:List (List Value)} (h:Row W t sz s xs) {i:Int} (h0:0≤i) (h1:i<(xs.length:Int)):inB s i:=
 ⟨h0,by have:=h.1;omega,Row.some h fun e=>by subst e;simp at h1;omega⟩
theorem IsPoly.inB {tu tt:TypeId} {W:PW} {s:Sl} {p:List Tm} (h:IsPoly tu tt W s p) {i:Int} (h0:0≤i) (h1:i<(p.length:Int)):SX.inB s i:=let⟨xs,h2,h3⟩:=h;h2.inB h0 (by rw[h3.len];exact h1)
theorem IsAPoly.inB {W:PW} {s:Sl} {p:List (Mon×ByteArray)} (h:IsAPoly W s p) {i:Int} (h0:0≤i) (h1:i<(p.length:Int)):SX.inB s i:=let⟨xs,⟨_,h2⟩,h3⟩:=h;h2.inB h0 (by rw[h3.len];exact h1)
theorem Row.part {W:PW} {t:TypeId} {sz:Nat} {s:Sl} {xs:List (List Value)} (h:Row W t sz s xs) {i:Nat} {x:List Value} (hi:xs[i]?=Option.some x) (off:Nat) {l:List Value} (hl:(x.drop off).take l.length=l):ElemAt W s sz i off l:=by
 refine Row.elem h hi fun j v hj=>?_
 rw[←hl,List.getElem?_take] at hj
 split at hj
 ·rw[List.getElem?_drop] at hj
  exact hj
 ·cases hj
theorem IsPoly.at {tu tt:TypeId} {W:PW} {s:Sl} {p:List Tm} (h:IsPoly tu tt W s p) {i:Nat} {t:Tm} (hi:p[i]?=some t):
  t.1.ok∧∃(s1:Sl) (b:Bool) (s2:Sl),ElemAt W s 6 i 0 [.int .u8 t.1.x,.int .u8 t.1.y,.int .u8 t.1.z,s1.v,.bool b,s2.v]∧ElemAt W s 6 i 0 [.int .u8 t.1.x,.int .u8 t.1.y,.int .u8 t.1.z]∧ElemAt W s 6 i 3 [s1.v,.bool b,s2.v]∧IsRat tu W s1 b s2 t.2:=by
 obtain⟨xs,h1,h2⟩:=h
 obtain⟨x,hx,h0,s1,b,s2,rfl,hq⟩:=h2.get hi
 exact⟨h0,s1,b,s2,h1.part hx 0 rfl,h1.part hx 0 rfl,h1.part hx 3 rfl,hq⟩
theorem IsAPoly.at {W:PW} {s:Sl} {p:List (Mon×ByteArray)} (h:IsAPoly W s p) {i:Nat} {t:Mon×ByteArray} (hi:p[i]?=some t):
  t.1.ok∧ElemAt W s 4 i 0 [.int .u8 t.1.x,.int .u8 t.1.y,.int .u8 t.1.z,.string t.2]∧ElemAt W s 4 i 0 [.int .u8 t.1.x,.int .u8 t.1.y,.int .u8 t.1.z]∧ElemAt W s 4 i 3 [.string t.2]:=by
 obtain⟨xs,⟨_,h1⟩,h2⟩:=h
 obtain⟨x,hx,h0,rfl⟩:=h2.get hi
 exact⟨h0,h1.part hx 0 rfl,h1.part hx 0 rfl,h1.part hx 3 rfl⟩
theorem IsPoly.nil {tu tt:TypeId} (W:PW):IsPoly tu tt W ⟨none,0,0⟩ []:=⟨[],⟨rfl,Nat.le_refl _,by simp[maxLen],by simp,.inl rfl⟩,trivial⟩
theorem IsRPoly.nil {tu tt:TypeId} (W:PW):IsRPoly tu tt W ⟨none,0,0⟩ []:=⟨[],⟨rfl,Nat.le_refl _,by simp[maxLen],by simp,.inl rfl⟩,trivial⟩
theorem IsPoly.ok {tu tt:TypeId} {W:PW} {s:Sl} {p:List Tm} (h:IsPoly tu tt W s p):POk p:=fun t ht=>by
 obtain⟨i,hi⟩:=List.mem_iff_getElem?.1 ht
 exact(h.at hi).1
def ME (tu:TypeId) (W:PW) (e:MapEntry) (t:Tm):Prop:=t.1.ok∧e.key=t.1.v∧∃(s:Sl) (b:Bool) (s':Sl),e.val = .agg ⟨[s.v,.bool b,s'.v]⟩∧IsRat tu W s b s' t.2
structure IsSums (tu:TypeId) (W:PW) (g:Nat) (es:Array MapEntry) (c:Nat) (E:List Tm):Prop where
 pub:¬W.S g
 heap:W.w.heap[g]?=some (.map es c)
 all:All2 (ME tu W) es.toList E
 nd:(E.map (·.1)).Nodup
 born:(es.toList.map (·.born)).Nodup
 lt: ∀e∈es.toList,e.born<c
theorem Row.own {tu tt:TypeId} {W W':PW} {sz sz':Nat} {s s1:Sl} {xs ys:List (List Value)} (hO:Own W tt sz s xs) (hE:ExtM (fun g=>s.v.ownBlock=Option.some g) W W') (ht:tu≠tt) (h:Row W tu sz' s1 ys):Row W' tu sz' s1 ys:=
 h.extM hE fun b hb cs fz hh=>by
  rcases hO.1.2.2 with⟨hv,_⟩ | ⟨g,cap,cur,hv,_,hh',_⟩
  ·rw[hv] at hb
   simp[Value.ownBlock] at hb
  ·have:s.v.ownBlock=Option.some g:=by rw[hv];rfl
   rw[hb] at this
   cases this
   rw[hh] at hh'
   cases hh'
   exact absurd rfl ht
theorem IsRat.own {tu tt:TypeId} {W W':PW} {sz:Nat} {s s1 s2:Sl} {b:Bool} {q:Rat} {xs:List (List Value)} (hO:Own W tt sz s xs) (hE:ExtM (fun g=>s.v.ownBlock=Option.some g) W W') (ht:tu≠tt) (h:IsRat tu W s1 b s2 q):IsRat tu W' s1 b s2 q:=
 ⟨⟨Row.own hO hE ht h.1.1,h.1.2⟩,Row.own hO hE ht h.2⟩
theorem PT.own {tu tt:TypeId} {W W':PW} {sz:Nat} {s:Sl} {xs:List (List Value)} {x:List Value} {t:Tm} (hO:Own W tt sz s xs) (hE:ExtM (fun g=>s.v.ownBlock=Option.some g) W W') (ht:tu≠tt) (h:PT tu W x t):PT tu W' x t:=
 let⟨h0,s,b,s',h1,h2⟩:=h;⟨h0,s,b,s',h1,h2.own hO hE ht⟩
end Go.SX

/- A row that nobody else has, sorted by the library's SortFunc: from the kit's contract to worlds with private blocks. -/
set_option linter.unusedVariables false
namespace Go.SX
open Go Go.Sort Go.Proofs Go.Shelf Go.RowKit Go.Lib
variable {α:Type} [Inhabited α]
end Go.SX
