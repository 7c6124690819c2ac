/- Decimal digits. -/
import Derived.Test.YtahohahjnhfedaaGreatDoorLib2
import Derived.Test.YtahohahjnhfedaaGreatDoorLib1
import Derived.Shelf.SlSortCmp.WholeK
import Derived.Shelf.SlSortCmp.NoneTotal
set_option linter.unusedVariables false
set_option linter.unusedSimpArgs false
namespace Go.SX
def dec:Nat→List Nat
 | 0=>[]
 | n+1=>(n+1)%10 :: dec ((n+1)/10)
 decreasing_by omega
theorem Ay1:dec 0 = []:=by rw[dec]
theorem Dj5 {x:Nat} (h:x≠0):dec x=x%10 :: dec (x/10):=by
 cases x with
 | zero=>exact absurd rfl h
 | succ n=>rw[dec]
def dvl:List Nat→Nat
 | []=>0
 | d :: r=>d+10*dvl r
theorem Ay5: ∀(l r:List Nat),dvl (l ++ r)=dvl l+10^l.length*dvl r
 | [],r=>by simp[dvl]
 | d :: l,r=>by
  simp only[List.cons_append,dvl,Ay5 l r,List.length_cons,Nat.pow_succ]
  grind
theorem Eo0: ∀{l:List Nat} (_: ∀d∈l,d<10) (_:l.getLast?≠some 0),dec (dvl l)=l
 | [],_,_=>Ay1
 | d :: r,hd,hl=>by
  have hr:r.getLast?≠some 0:=by
   intro h
   apply hl
   cases r with
   | nil=>cases h
   | cons e r=>rw[List.getLast?_cons_cons];exact h
  have ih:=Eo0 (l:=r) (fun x hx=>hd x (List.mem_cons_of_mem _ hx)) hr
  have h10:=hd d (List.mem_cons_self ..)
  have hne:dvl (d :: r)≠0:=by
   simp only[dvl]
   intro h0
   have h1:d=0:=by omega
   have h2:dvl r=0:=by omega
   rw[h2] at ih
   have:r = []:=by rw[←ih];exact Ay1
   subst this
   apply hl
   rw[h1];rfl
  rw[Dj5 hne]
  have e1:dvl (d :: r)%10=d:=by simp only[dvl];omega
  have e2:dvl (d :: r)/10=dvl r:=by simp only[dvl];omega
  rw[e1,e2,ih]
def En3 (x:Nat):ByteArray:=if x=0 then⟨⟨[48]⟩⟩ else strOfNums ((dec x).reverse.map fun(d:Nat)=>(48+(d:Int)))
def Dq2 (z:Int):ByteArray:=if z<0 then⟨⟨[45]⟩⟩ ++ En3 z.natAbs else En3 z.natAbs
def Ed0 (q:Rat):ByteArray:=if q.den=1 then Dq2 q.num else Dq2 q.num ++ ⟨⟨[47]⟩⟩ ++ En3 q.den
theorem Dn5: ∀(k:Nat) {x:Nat} (_:x<10^k),(dec x).length≤k
 | 0,x,h=>by
  have:x=0:=by simpa using h
  rw[this,Ay1];simp
 | k+1,x,h=>by
  by_cases h0:x=0
  ·rw[h0,Ay1];simp
  ·rw[Dj5 h0,List.length_cons]
   have:=Dn5 k (x:=x/10) (by rw[Nat.pow_succ] at h;omega)
   omega
theorem Av8 (x:Nat):(En3 x).size≤32*nl x+1:=by
 unfold En3
 split
 ·show 1≤_
  omega
 ·rw[strOfNums_size,List.length_map,List.length_reverse]
  refine Nat.le_trans (Dn5 (32*nl x) ?_) (by omega)
  have h1:=Bb4 x
  rw[Bp0] at h1
  exact Nat.lt_of_lt_of_le h1 (Nat.pow_le_pow_left (by decide) _)
theorem Cr1 (z:Int):(Dq2 z).size≤32*nl z.natAbs+2:=by
 have:=Av8 z.natAbs
 unfold Dq2
 split
 ·rw[ByteArray.size_append]
  show 1+_≤_
  omega
 ·omega
def An4 (l:List Nat):List (List Value):=l.map fun(d:Nat)=>[.int .u8 (48+(d:Int))]
theorem Ah2 (l:List Nat):(An4 l).length=l.length:=by simp[An4]
theorem Bp9 (l r:List Nat):An4 (l ++ r)=An4 l ++ An4 r:=by simp[An4]
theorem Do5 {α:Type} {xs ys:List α} {k:Nat} (hl:ys.length=xs.length) (hk:xs.length≤2*k+1) (h: ∀a,a<xs.length→ys[a]?=if a<k∨xs.length≤a+k then xs[xs.length-1-a]? else xs[a]?):ys=xs.reverse:=by
 apply List.ext_getElem?
 intro a
 by_cases ha:a<xs.length
 ·rw[h a ha,List.getElem?_reverse ha]
  split
  ·rfl
  ·congr 1;omega
 ·rw[List.getElem?_eq_none (by omega),List.getElem?_eq_none (by simp;omega)]
theorem Dr2 {α:Type} {xs ys:List α} {k:Nat} {u v:α} (hl:ys.length=xs.length) (hk:k<xs.length-1-k) (hu:xs[xs.length-1-k]?=some u) (hv:xs[k]?=some v)
  (h: ∀a,a<xs.length→ys[a]?=if a<k∨xs.length≤a+k then xs[xs.length-1-a]? else xs[a]?):
  ∀a,a<xs.length→((ys.set k u).set (xs.length-1-k) v)[a]?=if a<k+1∨xs.length≤a+(k+1) then xs[xs.length-1-a]? else xs[a]?:=by
 intro a ha
 rw[List.getElem?_set,List.getElem?_set]
 by_cases e1:xs.length-1-k=a
 ·rw[if_pos e1,if_pos (by simp;omega),if_pos (by omega),show xs.length-1-a=k by omega,hv]
 ·rw[if_neg e1]
  by_cases e2:k=a
  ·rw[if_pos e2,if_pos (by omega),if_pos (by omega),←e2,hu]
  ·rw[if_neg e2,h a ha]
   by_cases e3:a<k∨xs.length≤a+k
   ·rw[if_pos e3,if_pos (by omega)]
   ·rw[if_neg e3,if_neg (by omega)]
end Go.SX
/- Polynomials: monomials of three exponents, terms, sums of terms; how great their numbers are. -/
namespace Go.SX
structure Mon where
  x:Int
  y:Int
  z:Int
 deriving DecidableEq
def Mon.deg (m:Mon):Int:=m.x+m.y+m.z
def Mon.ok (m:Mon):Prop:=(0≤m.x∧m.x≤255)∧(0≤m.y∧m.y≤255)∧0≤m.z∧m.z≤255
def Mon.lt (a b:Mon):Prop:=a.deg<b.deg∨a.deg=b.deg∧(a.x<b.x∨a.x=b.x∧(a.y<b.y∨a.y=b.y∧a.z<b.z))
instance (a b:Mon):Decidable (a.lt b):=by unfold Mon.lt;infer_instance
theorem Mon.Fp2 {a b:Mon} (h1:a.x=b.x) (h2:a.y=b.y) (h3:a.z=b.z):a=b:=by
 cases a;cases b;simp_all
theorem Mon.lt_irrefl (a:Mon):¬a.lt a:=by unfold Mon.lt;omega
theorem Mon.lt_trans {a b c:Mon} (h:a.lt b) (k:b.lt c):a.lt c:=by unfold Mon.lt at *;omega
theorem Mon.Eg6 {a b:Mon} (h:a.lt b):a≠b:=by rintro rfl;exact Mon.lt_irrefl _ h
theorem Mon.Bo9 {a b:Mon} (h:¬a.lt b) (hne:a≠b):b.lt a:=by
 unfold Mon.lt at *
 by_cases e1:a.x=b.x
 ·by_cases e2:a.y=b.y
  ·by_cases e3:a.z=b.z
   ·exact absurd (Mon.Fp2 e1 e2 e3) hne
   ·unfold Mon.deg at *;omega
  ·unfold Mon.deg at *;omega
 ·unfold Mon.deg at *;omega
def Mon.cmp (a b:Mon):Int:=if a.lt b then -1 else if a=b then 0 else 1
theorem Mon.Dm2 {a b:Mon} :a.cmp b<0↔a.lt b:=by
 unfold Mon.cmp
 split
 ·simp_all
 ·split<;>simp_all
def Mon.add (a b:Mon):Mon:=⟨a.x+b.x,a.y+b.y,a.z+b.z⟩
abbrev Tm:=Mon×Rat
def Aj5:List Tm→Mon→Rat
 | [],_=>0
 | t :: r,m=>(if t.1=m then t.2 else 0)+Aj5 r m
def Bg6:List Tm→Tm→List Tm
 | [],t=>if t.2=0 then[] else[t]
 | e :: r,t=>if e.1.lt t.1 then e :: Bg6 r t else if e.1=t.1 then(if e.2+t.2=0 then r else(e.1,e.2+t.2) :: r) else if t.2=0 then e :: r else t :: e :: r
def Ag2 (l:List Tm):List Tm:=l.foldl Bg6 []
structure Av6 (p:List Tm):Prop where
 srt:p.Pairwise fun a b=>a.1.lt b.1
 nz: ∀t∈p,t.2≠0
theorem Av6.nil:Av6 []:=⟨List.Pairwise.nil,by simp⟩
theorem Av6.tail {t:Tm} {r:List Tm} (h:Av6 (t :: r)):Av6 r:=⟨(List.pairwise_cons.1 h.srt).2,fun x hx=>h.nz x (by simp[hx])⟩
theorem Au2 (a b:List Tm) (m:Mon):Aj5 (a ++ b) m=Aj5 a m+Aj5 b m:=by
 induction a with
 | nil=>simp[Aj5,Rat.zero_add]
 | cons t r ih=>simp only[List.cons_append,Aj5,ih,Rat.add_assoc]
theorem Av5 {l:List Tm} {m:Mon} (h: ∀t∈l,t.1≠m):Aj5 l m=0:=by
 induction l with
 | nil=>rfl
 | cons t r ih=>
  rw[Aj5,ih fun x hx=>h x (by simp[hx]),if_neg (h t (by simp)),Rat.add_zero]
theorem Eo8 (p:List Tm) (t:Tm) (m:Mon):Aj5 (Bg6 p t) m=Aj5 p m+(if t.1=m then t.2 else 0):=by
 induction p with
 | nil=>
  unfold Bg6
  split
  ·rename_i h
   simp only[Aj5,h]
   split<;>rw[Rat.add_zero]
  ·simp only[Aj5]
   split<;>grind
 | cons e r ih=>
  unfold Bg6
  split
  ·simp only[Aj5,ih]
   grind
  ·split
   ·rename_i h1 h2
    split
    ·rename_i h3
     simp only[Aj5,h2]
     split
     ·grind
     ·grind
    ·simp only[Aj5,h2]
     split
     ·grind
     ·grind
   ·split
    ·rename_i h3
     simp only[Aj5,h3]
     split<;>grind
    ·simp only[Aj5]
     grind
theorem Dx4 (l p:List Tm) (m:Mon):Aj5 (l.foldl Bg6 p) m=Aj5 p m+Aj5 l m:=by
 induction l generalizing p with
 | nil=>simp[Aj5,Rat.add_zero]
 | cons t r ih=>
  rw[List.foldl_cons,ih,Eo8,Aj5,Rat.add_assoc]
theorem Bh2 (l:List Tm) (m:Mon):Aj5 (Ag2 l) m=Aj5 l m:=by
 rw[Ag2,Dx4]
 simp[Aj5,Rat.zero_add]
theorem Ex9 {p:List Tm} {t x:Tm} (h:x∈Bg6 p t):x∈p∨x.1=t.1:=by
 induction p with
 | nil=>
  unfold Bg6 at h
  split at h
  ·simp at h
  ·simp at h;exact .inr (by rw[h])
 | cons e r ih=>
  unfold Bg6 at h
  split at h
  ·simp only[List.mem_cons] at h⊢
   rcases h with h | h
   ·exact .inl (.inl h)
   ·rcases ih h with h | h
    ·exact .inl (.inr h)
    ·exact .inr h
  ·split at h
   ·rename_i h2
    split at h
    ·exact .inl (by simp[h])
    ·simp only[List.mem_cons] at h⊢
     rcases h with h | h
     ·exact .inr (by rw[h];exact h2)
     ·exact .inl (.inr h)
   ·split at h
    ·exact .inl h
    ·simp only[List.mem_cons] at h⊢
     rcases h with h | h | h
     ·exact .inr (by rw[h])
     ·exact .inl (.inl h)
     ·exact .inl (.inr h)
theorem Av6.Bg6 {p:List Tm} (h:Av6 p) (t:Tm):Av6 (Bg6 p t):=by
 induction p with
 | nil=>
  unfold SX.Bg6
  split
  ·exact h
  ·rename_i h0
   exact⟨List.pairwise_singleton _ _,by simpa using h0⟩
 | cons e r ih=>
  have hs:=List.pairwise_cons.1 h.srt
  unfold SX.Bg6
  split
  ·rename_i h1
   have:=ih h.tail
   refine⟨List.pairwise_cons.2 ⟨fun x hx=>?_,this.srt⟩,fun x hx=>?_⟩
   ·rcases Ex9 hx with hx | hx
    ·exact hs.1 x hx
    ·rw[hx];exact h1
   ·rcases List.mem_cons.1 hx with rfl | hx
    ·exact h.nz _ (by simp)
    ·exact this.nz _ hx
  ·split
   ·rename_i h1 h2
    split
    ·exact h.tail
    ·rename_i h3
     refine⟨List.pairwise_cons.2 ⟨hs.1,hs.2⟩,fun x hx=>?_⟩
     rcases List.mem_cons.1 hx with rfl | hx
     ·exact h3
     ·exact h.nz _ (by simp[hx])
   ·rename_i h1 h2
    split
    ·exact h
    ·rename_i h3
     have hlt:=Mon.Bo9 h1 h2
     refine⟨List.pairwise_cons.2 ⟨fun x hx=>?_,h.srt⟩,fun x hx=>?_⟩
     ·rcases List.mem_cons.1 hx with rfl | hx
      ·exact hlt
      ·exact Mon.lt_trans hlt (hs.1 x hx)
     ·rcases List.mem_cons.1 hx with rfl | hx
      ·exact h3
      ·exact h.nz _ hx
theorem Av6.foldl {p:List Tm} (h:Av6 p) (l:List Tm):Av6 (l.foldl SX.Bg6 p):=by
 induction l generalizing p with
 | nil=>exact h
 | cons t r ih=>exact ih (h.Bg6 t)
theorem Ce8 (l:List Tm):Av6 (Ag2 l):=Av6.nil.foldl l
theorem Av6.uniq {p q:List Tm} (hp:Av6 p) (hq:Av6 q) (h: ∀m,Aj5 p m=Aj5 q m):p=q:=by
 induction p generalizing q with
 | nil=>
  cases q with
  | nil=>rfl
  | cons b q=>
   have h1:=h b.1
   have hs:=List.pairwise_cons.1 hq.srt
   rw[Aj5,Aj5,if_pos rfl,Av5 (l:=q) fun x hx e=>Mon.Eg6 (hs.1 x hx) e.symm] at h1
   exact absurd (by rw[Rat.add_zero] at h1;exact h1.symm) (hq.nz b (by simp))
 | cons a p ih=>
  have hsp:=List.pairwise_cons.1 hp.srt
  have ha:=Av5 (l:=p) (m:=a.1) fun x hx e=>Mon.Eg6 (hsp.1 x hx) e.symm
  cases q with
  | nil=>
   have h1:=h a.1
   rw[Aj5,Aj5,if_pos rfl,ha] at h1
   exact absurd (by rw[Rat.add_zero] at h1;exact h1) (hp.nz a (by simp))
  | cons b q=>
   have hsq:=List.pairwise_cons.1 hq.srt
   have hb:=Av5 (l:=q) (m:=b.1) fun x hx e=>Mon.Eg6 (hsq.1 x hx) e.symm
   have hab:a.1=b.1:=by
    refine Classical.byContradiction fun hne=>?_
    by_cases hlt:a.1.lt b.1
    ·have h1:=h a.1
     rw[Aj5,Aj5,if_pos rfl,ha,if_neg (fun e=>hne e.symm),Av5 (l:=q) fun x hx e=>Mon.Eg6 (Mon.lt_trans hlt (hsq.1 x hx)) e.symm] at h1
     exact absurd (by rw[Rat.add_zero] at h1;exact h1.trans (Rat.add_zero 0)) (hp.nz a (by simp))
    ·have hlt:=Mon.Bo9 hlt hne
     have h1:=h b.1
     rw[Aj5,Aj5,if_pos rfl,hb,if_neg hne,Av5 (l:=p) fun x hx e=>Mon.Eg6 (Mon.lt_trans hlt (hsp.1 x hx)) e.symm] at h1
     exact absurd (by rw[Rat.add_zero b.2] at h1;exact h1.symm.trans (Rat.add_zero 0)) (hq.nz b (by simp))
   have h2:a.2=b.2:=by
    have h1:=h a.1
    rw[Aj5,Aj5,if_pos rfl,ha,if_pos hab.symm,hab,hb] at h1
    simpa[Rat.add_zero] using h1
   have e:a=b:=Prod.ext hab h2
   subst e
   rw[ih hp.tail hq.tail fun m=>?_]
   have h1:=h m
   rw[Aj5,Aj5] at h1
   grind
theorem Ds8 {p l:List Tm} (hp:Av6 p) (h: ∀m,Aj5 p m=Aj5 l m):Ag2 l=p:=(Ce8 l).uniq hp fun m=>by rw[Bh2,h]
theorem Jw8 {p:List Tm} (hp:Av6 p):Ag2 p=p:=Ds8 hp fun _=>rfl
theorem Bc1 {a b:List Tm} (h: ∀m,Aj5 a m=Aj5 b m):Ag2 a=Ag2 b:=Ds8 (Ce8 b) fun m=>by rw[Bh2,h]
theorem Da7 {a b:List Tm} (h:a.Perm b) (m:Mon):Aj5 a m=Aj5 b m:=by
 induction h with
 | nil=>rfl
 | cons t _ ih=>simp only[Aj5,ih]
 | swap t u l=>simp only[Aj5];grind
 | trans _ _ ih1 ih2=>exact ih1.trans ih2
theorem Ew7 (p:List Tm) (t:Tm):(Bg6 p t).length≤p.length+1:=by
 induction p with
 | nil=>unfold Bg6;split<;>simp
 | cons e r ih=>
  unfold Bg6
  split
  ·simp;omega
  ·split
   ·split
    ·simp;omega
    ·simp
   ·split<;>simp
theorem Cb4 (l p:List Tm):(l.foldl Bg6 p).length≤p.length+l.length:=by
 induction l generalizing p with
 | nil=>simp
 | cons t r ih=>
  have:=ih (Bg6 p t)
  have:=Ew7 p t
  simp only[List.foldl_cons,List.length_cons]
  omega
theorem El2 (l:List Tm):(Ag2 l).length≤l.length:=by
 have:=Cb4 l []
 simpa[Ag2] using this
def POk (l:List Tm):Prop:=∀t∈l,t.1.ok
theorem POk.Bg6 {p:List Tm} {t:Tm} (h:POk p) (ht:t.1.ok):POk (Bg6 p t):=fun x hx=>by
 rcases Ex9 hx with hx | hx
 ·exact h x hx
 ·rw[hx];exact ht
theorem POk.foldl {p l:List Tm} (h:POk p) (hl:POk l):POk (l.foldl SX.Bg6 p):=by
 induction l generalizing p with
 | nil=>exact h
 | cons t r ih=>exact ih (h.Bg6 (hl t (by simp))) fun x hx=>hl x (by simp[hx])
theorem POk.norm {l:List Tm} (hl:POk l):POk (Ag2 l):=POk.foldl (by intro t ht;simp at ht) hl
theorem POk.append {a b:List Tm} (ha:POk a) (hb:POk b):POk (a ++ b):=fun t ht=>by
 rcases List.mem_append.1 ht with h | h
 ·exact ha t h
 ·exact hb t h
theorem Gu2 {l:List Tm} {x:Tm} (h:x∈Ag2 l): ∃t∈l,x.1=t.1:=by
 have key: ∀(l p:List Tm),x∈l.foldl Bg6 p→x∈p∨∃t∈l,x.1=t.1:=by
  intro l
  induction l with
  | nil=>intro p h;exact .inl h
  | cons t r ih=>
   intro p h
   rcases ih _ h with h | ⟨u,hu,e⟩
   ·rcases Ex9 h with h | h
    ·exact .inl h
    ·exact .inr ⟨t,by simp,h⟩
   ·exact .inr ⟨u,by simp[hu],e⟩
 rcases key l [] h with h | h
 ·simp at h
 ·exact h
theorem Hp4 {a l:List Tm} {t:Tm} (h: ∀x∈a,x.1.lt t.1):Bg6 (a ++ l) t=a ++ Bg6 l t:=by
 induction a with
 | nil=>rfl
 | cons x a ih=>
  rw[List.cons_append,Bg6,if_pos (h x (by simp)),ih fun y hy=>h y (by simp[hy])]
  rfl
theorem Hp3 {p:List Tm} {t:Tm} {j:Nat} (hj:j≤p.length) (h: ∀x∈p.take j,x.1.lt t.1):Bg6 p t=p.take j ++ Bg6 (p.drop j) t:=by
 have:=Hp4 (l:=p.drop j) h
 rwa [List.take_append_drop] at this
/-! ### How great the numbers are: over a common denominator D, all numerators together at most N. -/
def Ak3 (D N : Nat) (q : Rat) : Prop := ∃ z : Int, q * (D : Rat) = (z : Rat) ∧ z.natAbs ≤ N
def Fit (D:Nat):Nat→List Tm→Prop
 | _,[]=>True
 | N,t :: r=>∃(n k:Nat),n+k≤N∧Ak3 D n t.2∧Fit D k r
theorem Ak3.mono {D N N':Nat} {q:Rat} (h:Ak3 D N q) (hn:N≤N'):Ak3 D N' q:=let⟨z,h1,h2⟩:=h;⟨z,h1,Nat.le_trans h2 hn⟩
theorem Ak3.add {D N N':Nat} {p q:Rat} (h:Ak3 D N p) (k:Ak3 D N' q):Ak3 D (N+N') (p+q):=by
 obtain⟨z,h1,h2⟩:=h
 obtain⟨w,k1,k2⟩:=k
 exact⟨z+w,by rw[Rat.add_mul,h1,k1,Rat.intCast_add],by omega⟩
theorem Ak3.zero {D N:Nat} :Ak3 D N 0:=⟨0,by rw[Rat.zero_mul];rfl,by simp⟩
theorem Ak3.mul {D E N N':Nat} {p q:Rat} (h:Ak3 D N p) (k:Ak3 E N' q):Ak3 (D*E) (N*N') (p*q):=by
 obtain⟨z,h1,h2⟩:=h
 obtain⟨w,k1,k2⟩:=k
 refine⟨z*w,?_,?_⟩
 ·rw[Rat.intCast_mul,←h1,←k1,Rat.natCast_mul]
  grind
 ·rw[Int.natAbs_mul]
  exact Nat.mul_le_mul h2 k2
theorem Ak3.sz {D N k:Nat} {q:Rat} (h:Ak3 D N q) (hD:D≠0) (h1:nl D≤k) (h2:nl N≤k):Sz k q:=by
 obtain⟨z,e,hz⟩:=h
 have:q=mkRat z D:=by
  rw[Rat.mkRat_eq_div,←e]
  have:(D:Rat)≠0:=by
   intro h
   exact hD (by exact_mod_cast h)
  grind
 rw[this]
 exact Sz.mk (Nat.le_trans (Ad1 hz) h2) h1 hD
theorem Ak3.den (q:Rat):Ak3 q.den q.num.natAbs q:=⟨q.num,by
 have h:=Rat.mkRat_self q
 rw[Rat.mkRat_eq_div] at h
 have h0:(q.den:Rat)≠0:=fun h=>q.den_nz (by exact_mod_cast h)
 have h1:(q.num:Rat)/(q.den:Rat)*(q.den:Rat)=(q.num:Rat):=by grind
 rw[h] at h1
 exact h1,Nat.le_refl _⟩
theorem Ak3.int (z:Int):Ak3 1 z.natAbs (z:Rat):=⟨z,by grind,Nat.le_refl _⟩
theorem Ak3.scale {D N:Nat} {q:Rat} (h:Ak3 D N q) (E:Nat):Ak3 (D*E) (N*E) q:=by
 have:=h.mul (Ak3.mono (Ak3.int 1) (show _≤1 by decide))
 obtain⟨z,h1,h2⟩:=h
 refine⟨z*E,?_,?_⟩
 ·rw[Rat.intCast_mul,Rat.natCast_mul,←h1]
  have:((E:Int):Rat)=(E:Rat):=rfl
  rw[this]
  grind
 ·rw[Int.natAbs_mul,Int.natAbs_natCast]
  exact Nat.mul_le_mul_right _ h2
theorem Fit.mono {D N N':Nat} {l:List Tm} (h:Fit D N l) (hn:N≤N'):Fit D N' l:=by
 cases l with
 | nil=>trivial
 | cons t r=>obtain⟨n,k,h1,h2,h3⟩:=h;exact⟨n,k,Nat.le_trans h1 hn,h2,h3⟩
theorem Fit.mem {D N:Nat} {l:List Tm} (h:Fit D N l) {t:Tm} (ht:t∈l):Ak3 D N t.2:=by
 induction l generalizing N with
 | nil=>simp at ht
 | cons u r ih=>
  obtain⟨n,k,h1,h2,h3⟩:=h
  rcases List.mem_cons.1 ht with rfl | ht
  ·exact h2.mono (by omega)
  ·exact(ih h3 ht).mono (by omega)
theorem Fit.append {D N N':Nat} {a b:List Tm} (h:Fit D N a) (k:Fit D N' b):Fit D (N+N') (a ++ b):=by
 induction a generalizing N with
 | nil=>exact k.mono (by omega)
 | cons t r ih=>
  obtain⟨n,m,h1,h2,h3⟩:=h
  exact⟨n,m+N',by omega,h2,ih h3⟩
theorem Fit.Bg6 {D N n:Nat} {p:List Tm} {t:Tm} (h:Fit D N p) (ht:Ak3 D n t.2):Fit D (N+n) (Bg6 p t):=by
 induction p generalizing N with
 | nil=>
  unfold SX.Bg6
  split
  ·trivial
  ·exact⟨n,0,by omega,ht,trivial⟩
 | cons e r ih=>
  obtain⟨a,b,h1,h2,h3⟩:=h
  unfold SX.Bg6
  split
  ·exact⟨a,b+n,by omega,h2,ih h3⟩
  ·split
   ·split
    ·exact h3.mono (by omega)
    ·exact⟨a+n,b,by omega,h2.add ht,h3⟩
   ·split
    ·exact⟨a,b,by omega,h2,h3⟩
    ·exact⟨n,N,by omega,ht,a,b,h1,h2,h3⟩
theorem Fit.foldl {D N N':Nat} {p l:List Tm} (h:Fit D N p) (hl:Fit D N' l):Fit D (N+N') (l.foldl SX.Bg6 p):=by
 induction l generalizing p N N' with
 | nil=>exact h.mono (by omega)
 | cons t r ih=>
  obtain⟨a,b,h1,h2,h3⟩:=hl
  exact(ih (h.Bg6 h2) h3).mono (by omega)
theorem Fit.norm {D N:Nat} {l:List Tm} (h:Fit D N l):Fit D N (Ag2 l):=by
 have:=Fit.foldl (D:=D) (N:=0) (p:=[]) trivial h
 simpa[Ag2] using this
theorem Fit.scale {D N:Nat} {l:List Tm} (h:Fit D N l) (E:Nat):Fit (D*E) (N*E) l:=by
 induction l generalizing N with
 | nil=>trivial
 | cons t r ih=>
  obtain⟨a,b,h1,h2,h3⟩:=h
  exact⟨a*E,b*E,by rw[←Nat.add_mul];exact Nat.mul_le_mul_right _ h1,h2.scale E,ih h3⟩
theorem Fit.Co7 {k:Nat} : ∀{l:List Tm} (_: ∀t∈l,Sz k t.2),∃D N,Fit D N l∧D≠0∧nl D≤k*l.length+1∧nl N≤(k+2)*l.length
 | [],_=>⟨1,0,trivial,by decide,by rw[Ax0];omega,by rw[Ag9];omega⟩
 | t :: r,h=>by
  obtain⟨D,N,h1,h2,h3,h4⟩:=Fit.Co7 (l:=r) fun x hx=>h x (by simp[hx])
  have ht:=h t (by simp)
  have hd:=t.2.den_nz
  have h5:=Ae5 t.2.den D
  have h6:=Ae5 t.2.num.natAbs D
  have h7:=Ae5 N t.2.den
  have h8:=By9 (t.2.num.natAbs*D) (N*t.2.den)
  have e1:k*(r.length+1)=k*r.length+k:=by rw[Nat.mul_add,Nat.mul_one]
  have e2:(k+2)*(r.length+1)=(k+2)*r.length+(k+2):=by rw[Nat.mul_add,Nat.mul_one]
  have e3:(k+2)*r.length=k*r.length+2*r.length:=by rw[Nat.add_mul]
  have h9:=ht.1
  have h10:=ht.2
  refine⟨t.2.den*D,t.2.num.natAbs*D+N*t.2.den,⟨t.2.num.natAbs*D,N*t.2.den,Nat.le_refl _,(Ak3.den t.2).scale D,?_⟩,Nat.mul_ne_zero hd h2,?_,?_⟩
  ·rw[Nat.mul_comm t.2.den D]
   exact h1.scale t.2.den
  ·rw[List.length_cons,e1];omega
  ·rw[List.length_cons,e2];omega
def Bd (k:Nat) (l:List Tm):Prop:=∃D N,Fit D N l∧D≠0∧nl D≤k∧nl N≤k
theorem Bd.mono {k k':Nat} {l:List Tm} (h:Bd k l) (hk:k≤k'):Bd k' l:=let⟨D,N,h1,h2,h3,h4⟩:=h;⟨D,N,h1,h2,Nat.le_trans h3 hk,Nat.le_trans h4 hk⟩
theorem Bd.sz {k:Nat} {l:List Tm} (h:Bd k l): ∀t∈l,Sz k t.2:=let⟨D,N,h1,h2,h3,h4⟩:=h;fun t ht=>(h1.mem ht).sz h2 h3 h4
theorem Bd.norm {k:Nat} {l:List Tm} (h:Bd k l):Bd k (Ag2 l):=let⟨D,N,h1,h2,h3,h4⟩:=h;⟨D,N,h1.norm,h2,h3,h4⟩
theorem Bd.Co7 {k:Nat} {l:List Tm} (h: ∀t∈l,Sz k t.2):Bd ((k+2)*l.length+1) l:=by
 obtain⟨D,N,h1,h2,h3,h4⟩:=Fit.Co7 h
 have:(k+2)*l.length=k*l.length+2*l.length:=Nat.add_mul ..
 exact⟨D,N,h1,h2,by omega,by omega⟩
theorem Bd.append {k k':Nat} {a b:List Tm} (h:Bd k a) (h':Bd k' b):Bd (k+k'+1) (a ++ b):=by
 obtain⟨D,N,h1,h2,h3,h4⟩:=h
 obtain⟨E,M,g1,g2,g3,g4⟩:=h'
 have e1:=Ae5 D E
 have e2:=Ae5 N E
 have e3:=Ae5 M D
 have e4:=By9 (N*E) (M*D)
 have:=(h1.scale E).append (show Fit (D*E) (M*D) b by rw[Nat.mul_comm D E];exact g1.scale D)
 exact⟨D*E,N*E+M*D,this,Nat.mul_ne_zero h2 g2,by omega,by omega⟩
def An8 (p q:List Tm):List Tm:=p.flatMap fun a=>q.map fun b=>(a.1.add b.1,a.2*b.2)
theorem Fit.Fl4 {D E N n:Nat} {q:List Tm} {m:Mon} {c:Rat} (hc:Ak3 D n c) (h:Fit E N q):Fit (D*E) (n*N) (q.map fun b=>(m.add b.1,c*b.2)):=by
 induction q generalizing N with
 | nil=>trivial
 | cons t r ih=>
  obtain⟨a,b,h1,h2,h3⟩:=h
  exact⟨n*a,n*b,by rw[←Nat.mul_add];exact Nat.mul_le_mul_left _ h1,hc.mul h2,ih h3⟩
theorem Fit.Ff3 {D E N M:Nat} {p q:List Tm} (h:Fit D N p) (g:Fit E M q):Fit (D*E) (N*M) (An8 p q):=by
 induction p generalizing N with
 | nil=>trivial
 | cons t r ih=>
  obtain⟨a,b,h1,h2,h3⟩:=h
  have:=(Fit.Fl4 (m:=t.1) h2 g).append (ih h3)
  rw[←Nat.add_mul] at this
  exact this.mono (Nat.mul_le_mul_right _ h1)
theorem Bd.Ff3 {k k':Nat} {p q:List Tm} (h:Bd k p) (h':Bd k' q):Bd (k+k') (An8 p q):=by
 obtain⟨D,N,h1,h2,h3,h4⟩:=h
 obtain⟨E,M,g1,g2,g3,g4⟩:=h'
 have e1:=Ae5 D E
 have e2:=Ae5 N M
 exact⟨D*E,N*M,h1.Ff3 g1,Nat.mul_ne_zero h2 g2,by omega,by omega⟩
theorem Eb1 (p q:List Tm):(An8 p q).length=p.length*q.length:=by
 induction p with
 | nil=>simp[An8]
 | cons t r ih=>
  have e:An8 (t :: r) q=(q.map fun b=>(t.1.add b.1,t.2*b.2)) ++ An8 r q:=rfl
  rw[e,List.length_append,ih,List.length_map,List.length_cons,Nat.add_mul]
  omega
structure Dp6 (D:Nat) (l:List Tm) (a:Nat) (E:List Tm):Prop where
 tot: ∀m,Aj5 E m=Aj5 l m
 fit:Fit D a E
 len:E.length≤l.length
theorem Dp6.nil (D:Nat):Dp6 D [] 0 []:=⟨fun _=>rfl,trivial,Nat.le_refl _⟩
theorem Fit.take {D N:Nat} {l:List Tm} (h:Fit D N l) (j:Nat):Fit D N (l.take j):=by
 induction l generalizing N j with
 | nil=>simp[Fit]
 | cons t r ih=>
  cases j with
  | zero=>trivial
  | succ j=>
   obtain⟨a,b,h1,h2,h3⟩:=h
   exact⟨a,b,h1,h2,ih h3 j⟩
theorem Bd.take {k:Nat} {l:List Tm} (h:Bd k l) (j:Nat):Bd k (l.take j):=let⟨D,N,h1,h2,h3,h4⟩:=h;⟨D,N,h1.take j,h2,h3,h4⟩
end Go.SX
/- Polynomials in memory: rows of terms, the program's and the document's; sums in a map. -/
namespace Go.SX
def An5 {α β:Type} (R:α→β→Prop):List α→List β→Prop
 | [],[]=>True
 | a :: ar,b :: br=>R a b∧An5 R ar br
 | _,_=>False
theorem An5.len {α β:Type} {R:α→β→Prop} : ∀{xs:List α} {p:List β},An5 R xs p→xs.length=p.length
 | [],[],_=>rfl
 | _ :: _,_ :: _,h=>by simp[h.2.len]
 | [],_ :: _,h=>h.elim
 | _ :: _,[],h=>h.elim
theorem An5.mono {α β:Type} {R R':α→β→Prop} (hR: ∀a b,R a b→R' a b): ∀{xs:List α} {p:List β},An5 R xs p→An5 R' xs p
 | [],[],_=>trivial
 | _ :: _,_ :: _,h=>⟨hR _ _ h.1,h.2.mono hR⟩
 | [],_ :: _,h=>h.elim
 | _ :: _,[],h=>h.elim
theorem An5.get {α β:Type} {R:α→β→Prop} : ∀{xs:List α} {p:List β},An5 R xs p→∀{i:Nat} {t:β},p[i]?=some t→∃x,xs[i]?=some x∧R x t
 | [],[],_,i,t,h=>by simp at h
 | x :: _,u :: _,h,0,t,ht=>by
  simp only[List.getElem?_cons_zero,Option.some.injEq] at ht
  subst ht
  exact⟨x,rfl,h.1⟩
 | _ :: _,_ :: _,h,i+1,t,ht=>by
  simp only[List.getElem?_cons_succ] at ht⊢
  exact h.2.get ht
 | [],_ :: _,h,_,_,_=>h.elim
 | _ :: _,[],h,_,_,_=>h.elim
theorem An5.Fo1 {α β:Type} {R:α→β→Prop} {xs:List α} {p:List β} (h:An5 R xs p) {i:Nat} {x:α} (hx:xs[i]?=some x): ∃t,p[i]?=some t∧R x t:=by
 have hi:i<p.length:=by rw[←h.len];exact(List.getElem?_eq_some_iff.1 hx).1
 obtain⟨y,h1,h2⟩:=h.get (List.getElem?_eq_getElem hi)
 rw[hx] at h1
 cases h1
 exact⟨_,List.getElem?_eq_getElem hi,h2⟩
theorem An5.append {α β:Type} {R:α→β→Prop} : ∀{xs:List α} {p:List β},An5 R xs p→∀{ys:List α} {q:List β},An5 R ys q→An5 R (xs ++ ys) (p ++ q)
 | [],[],_,_,_,h=>h
 | _ :: _,_ :: _,h,_,_,k=>⟨h.1,h.2.append k⟩
 | [],_ :: _,h,_,_,_=>h.elim
 | _ :: _,[],h,_,_,_=>h.elim
theorem An5.snoc {α β:Type} {R:α→β→Prop} {xs:List α} {p:List β} (h:An5 R xs p) {x:α} {t:β} (ht:R x t):An5 R (xs ++ [x]) (p ++ [t]):=h.append ⟨ht,trivial⟩
theorem An5.take {α β:Type} {R:α→β→Prop} : ∀{xs:List α} {p:List β},An5 R xs p→∀(k:Nat),An5 R (xs.take k) (p.take k)
 | _,_,_,0=>by simp[An5]
 | [],[],_,k+1=>trivial
 | _ :: _,_ :: _,h,k+1=>⟨h.1,h.2.take k⟩
 | [],_ :: _,h,k+1=>h.elim
 | _ :: _,[],h,k+1=>h.elim
theorem An5.drop {α β:Type} {R:α→β→Prop} : ∀{xs:List α} {p:List β},An5 R xs p→∀(k:Nat),An5 R (xs.drop k) (p.drop k)
 | _,_,h,0=>by simpa using h
 | [],[],_,k+1=>trivial
 | _ :: _,_ :: _,h,k+1=>h.2.drop k
 | [],_ :: _,h,k+1=>h.elim
 | _ :: _,[],h,k+1=>h.elim
theorem An5.set {α β:Type} {R:α→β→Prop} : ∀{xs:List α} {p:List β},An5 R xs p→∀(i:Nat) {x:α} {t:β},R x t→An5 R (xs.set i x) (p.set i t)
 | [],[],_,_,_,_,_=>trivial
 | _ :: _,_ :: _,h,0,_,_,ht=>⟨ht,h.2⟩
 | _ :: _,_ :: _,h,i+1,_,_,ht=>⟨h.1,h.2.set i ht⟩
 | [],_ :: _,h,_,_,_,_=>h.elim
 | _ :: _,[],h,_,_,_,_=>h.elim
theorem An5.perm {α β:Type} {R:α→β→Prop} {xs ys:List α} (hp:xs.Perm ys): ∀{p:List β},An5 R xs p→∃q,p.Perm q∧An5 R ys q:=by
 induction hp with
 | nil=>intro p h;exact⟨p,.refl _,h⟩
 | cons x _ ih=>
  intro p h
  cases p with
  | nil=>exact h.elim
  | cons t p=>obtain⟨q,h1,h2⟩:=ih h.2;exact⟨t :: q,h1.cons t,h.1,h2⟩
 | swap x y l=>
  intro p h
  cases p with
  | nil=>exact h.elim
  | cons t p=>
   cases p with
   | nil=>exact h.2.elim
   | cons u p=>exact⟨u :: t :: p,.swap ..,h.2.1,h.1,h.2.2⟩
 | trans _ _ ih1 ih2=>
  intro p h
  obtain⟨q,h1,h2⟩:=ih1 h
  obtain⟨r,h3,h4⟩:=ih2 h2
  exact⟨r,h1.trans h3,h4⟩
@[reducible] def Mon.c (m:Mon):List Value:=[.int .u8 m.x,.int .u8 m.y,.int .u8 m.z]
@[reducible] def Mon.v (m:Mon):Value:=.agg ⟨[.int .u8 m.x,.int .u8 m.y,.int .u8 m.z]⟩
def PT (tu:TypeId) (W:PW) (x:List Value) (t:Tm):Prop:=t.1.ok∧∃(s:Sl) (b:Bool) (s':Sl),x = [.int .u8 t.1.x,.int .u8 t.1.y,.int .u8 t.1.z,s.v,.bool b,s'.v]∧Ab3 tu W s b s' t.2
def RT (tu:TypeId) (W:PW) (x:List Value) (t:Tm):Prop:=t.1.ok∧∃(b:Bool) (s s':Sl),x = [.int .u8 t.1.x,.int .u8 t.1.y,.int .u8 t.1.z,.bool b,s.v,s'.v]∧Ab6 tu W b s s' t.2
def AT (x:List Value) (t:Mon×ByteArray):Prop:=t.1.ok∧x = [.int .u8 t.1.x,.int .u8 t.1.y,.int .u8 t.1.z,.string t.2]
theorem PT.ext {tu:TypeId} {W W':PW} {x:List Value} {t:Tm} (h:PT tu W x t) (hE:Ext W W'):PT tu W' x t:=let⟨h0,s,b,s',h1,h2⟩:=h;⟨h0,s,b,s',h1,h2.ext hE⟩
theorem RT.ext {tu:TypeId} {W W':PW} {x:List Value} {t:Tm} (h:RT tu W x t) (hE:Ext W W'):RT tu W' x t:=let⟨h0,s,b,s',h1,h2⟩:=h;⟨h0,s,b,s',h1,h2.ext hE⟩
def Ab0 (tu tt:TypeId) (W:PW) (s:Sl) (p:List Tm):Prop:=∃xs,Row W tt 6 s xs∧An5 (PT tu W) xs p
def Ag1 (tu tt:TypeId) (W:PW) (s:Sl) (p:List Tm):Prop:=∃xs,Row W tt 6 s xs∧An5 (RT tu W) xs p
def Af3 (W:PW) (s:Sl) (p:List (Mon×ByteArray)):Prop:=∃xs,Bf9 W 4 s xs∧An5 AT xs p
theorem Ab0.ext {tu tt:TypeId} {W W':PW} {s:Sl} {p:List Tm} (h:Ab0 tu tt W s p) (hE:Ext W W'):Ab0 tu tt W' s p:=let⟨xs,h1,h2⟩:=h;⟨xs,h1.ext hE,h2.mono fun _ _ h=>h.ext hE⟩
theorem Ag1.ext {tu tt:TypeId} {W W':PW} {s:Sl} {p:List Tm} (h:Ag1 tu tt W s p) (hE:Ext W W'):Ag1 tu tt W' s p:=let⟨xs,h1,h2⟩:=h;⟨xs,h1.ext hE,h2.mono fun _ _ h=>h.ext hE⟩
theorem Af3.ext {W W':PW} {s:Sl} {p:List (Mon×ByteArray)} (h:Af3 W s p) (hE:Ext W W'):Af3 W' s p:=let⟨xs,h1,h2⟩:=h;⟨xs,h1.ext hE,h2⟩
theorem Ab0.n {tu tt:TypeId} {W:PW} {s:Sl} {p:List Tm} (h:Ab0 tu tt W s p):s.n=p.length:=let⟨xs,h1,h2⟩:=h;h1.1.trans h2.len
theorem Ag1.n {tu tt:TypeId} {W:PW} {s:Sl} {p:List Tm} (h:Ag1 tu tt W s p):s.n=p.length:=let⟨xs,h1,h2⟩:=h;h1.1.trans h2.len
theorem Af3.n {W:PW} {s:Sl} {p:List (Mon×ByteArray)} (h:Af3 W s p):s.n=p.length:=let⟨xs,⟨_,h1⟩,h2⟩:=h;h1.1.trans h2.len
theorem Row.inB {W:PW} {t:TypeId} {sz:Nat} {s:Sl} {xs:List (List Value)} (h:Row W t sz s xs) {i:Int} (h0:0≤i) (h1:i<(xs.length:Int)):inB s i:=
 ⟨h0,by have:=h.1;omega,Row.some h fun e=>by subst e;simp at h1;omega⟩
theorem Ab0.inB {tu tt:TypeId} {W:PW} {s:Sl} {p:List Tm} (h:Ab0 tu tt W s p) {i:Int} (h0:0≤i) (h1:i<(p.length:Int)):SX.inB s i:=let⟨xs,h2,h3⟩:=h;h2.inB h0 (by rw[h3.len];exact h1)
theorem Ag1.inB {tu tt:TypeId} {W:PW} {s:Sl} {p:List Tm} (h:Ag1 tu tt W s p) {i:Int} (h0:0≤i) (h1:i<(p.length:Int)):SX.inB s i:=let⟨xs,h2,h3⟩:=h;h2.inB h0 (by rw[h3.len];exact h1)
theorem Af3.inB {W:PW} {s:Sl} {p:List (Mon×ByteArray)} (h:Af3 W s p) {i:Int} (h0:0≤i) (h1:i<(p.length:Int)):SX.inB s i:=let⟨xs,⟨_,h2⟩,h3⟩:=h;h2.inB h0 (by rw[h3.len];exact h1)
theorem Row.part {W:PW} {t:TypeId} {sz:Nat} {s:Sl} {xs:List (List Value)} (h:Row W t sz s xs) {i:Nat} {x:List Value} (hi:xs[i]?=Option.some x) (off:Nat) {l:List Value} (hl:(x.drop off).take l.length=l):Aa7 W s sz i off l:=by
 refine Row.elem h hi fun j v hj=>?_
 rw[←hl,List.getElem?_take] at hj
 split at hj
 ·rw[List.getElem?_drop] at hj
  exact hj
 ·cases hj
theorem Ab0.at {tu tt:TypeId} {W:PW} {s:Sl} {p:List Tm} (h:Ab0 tu tt W s p) {i:Nat} {t:Tm} (hi:p[i]?=some t):
  t.1.ok∧∃(s1:Sl) (b:Bool) (s2:Sl),Aa7 W s 6 i 0 [.int .u8 t.1.x,.int .u8 t.1.y,.int .u8 t.1.z,s1.v,.bool b,s2.v]∧Aa7 W s 6 i 0 [.int .u8 t.1.x,.int .u8 t.1.y,.int .u8 t.1.z]∧Aa7 W s 6 i 3 [s1.v,.bool b,s2.v]∧Ab3 tu W s1 b s2 t.2:=by
 obtain⟨xs,h1,h2⟩:=h
 obtain⟨x,hx,h0,s1,b,s2,rfl,hq⟩:=h2.get hi
 exact⟨h0,s1,b,s2,h1.part hx 0 rfl,h1.part hx 0 rfl,h1.part hx 3 rfl,hq⟩
theorem Ag1.at {tu tt:TypeId} {W:PW} {s:Sl} {p:List Tm} (h:Ag1 tu tt W s p) {i:Nat} {t:Tm} (hi:p[i]?=some t):
  t.1.ok∧∃(b:Bool) (s1 s2:Sl),Aa7 W s 6 i 0 [.int .u8 t.1.x,.int .u8 t.1.y,.int .u8 t.1.z,.bool b,s1.v,s2.v]∧Aa7 W s 6 i 0 [.int .u8 t.1.x,.int .u8 t.1.y,.int .u8 t.1.z]∧Aa7 W s 6 i 3 [.bool b,s1.v,s2.v]∧Ab6 tu W b s1 s2 t.2:=by
 obtain⟨xs,h1,h2⟩:=h
 obtain⟨x,hx,h0,b,s1,s2,rfl,hq⟩:=h2.get hi
 exact⟨h0,b,s1,s2,h1.part hx 0 rfl,h1.part hx 0 rfl,h1.part hx 3 rfl,hq⟩
theorem Af3.at {W:PW} {s:Sl} {p:List (Mon×ByteArray)} (h:Af3 W s p) {i:Nat} {t:Mon×ByteArray} (hi:p[i]?=some t):
  t.1.ok∧Aa7 W s 4 i 0 [.int .u8 t.1.x,.int .u8 t.1.y,.int .u8 t.1.z,.string t.2]∧Aa7 W s 4 i 0 [.int .u8 t.1.x,.int .u8 t.1.y,.int .u8 t.1.z]∧Aa7 W s 4 i 3 [.string t.2]:=by
 obtain⟨xs,⟨_,h1⟩,h2⟩:=h
 obtain⟨x,hx,h0,rfl⟩:=h2.get hi
 exact⟨h0,h1.part hx 0 rfl,h1.part hx 0 rfl,h1.part hx 3 rfl⟩
theorem Ab0.nil {tu tt:TypeId} (W:PW):Ab0 tu tt W ⟨none,0,0⟩ []:=⟨[],⟨rfl,Nat.le_refl _,by simp[maxLen],by simp,.inl rfl⟩,trivial⟩
theorem Ag1.nil {tu tt:TypeId} (W:PW):Ag1 tu tt W ⟨none,0,0⟩ []:=⟨[],⟨rfl,Nat.le_refl _,by simp[maxLen],by simp,.inl rfl⟩,trivial⟩
theorem Ab0.ok {tu tt:TypeId} {W:PW} {s:Sl} {p:List Tm} (h:Ab0 tu tt W s p):POk p:=fun t ht=>by
 obtain⟨i,hi⟩:=List.mem_iff_getElem?.1 ht
 exact(h.at hi).1
/-! ### A map of sums -/
theorem Row.map {W W' : PW} {t : TypeId} {sz : Nat} {s : Sl} {xs : List (List Value)} {g : Nat} {es : Array MapEntry} {c : Nat} (h : Row W t sz s xs) (hE : Au9 (· = g) W W') (hg : W.w.heap[g]? = Option.some (.map es c)) : Row W' t sz s xs :=
  h.Fi9 hE fun b hb cs fz hh => by
    subst hb
    rw [hg] at hh
    cases hh
theorem Ab3.map {tu:TypeId} {W W':PW} {s s':Sl} {b:Bool} {q:Rat} {g:Nat} {es:Array MapEntry} {c:Nat} (h:Ab3 tu W s b s' q) (hE:Au9 (· = g) W W') (hg:W.w.heap[g]?=Option.some (.map es c)):Ab3 tu W' s b s' q:=
 ⟨⟨Row.map h.1.1 hE hg,h.1.2⟩,Row.map h.2 hE hg⟩
theorem PT.map {tu:TypeId} {W W':PW} {x:List Value} {t:Tm} {g:Nat} {es:Array MapEntry} {c:Nat} (h:PT tu W x t) (hE:Au9 (· = g) W W') (hg:W.w.heap[g]?=Option.some (.map es c)):PT tu W' x t:=
 let⟨h0,s,b,s',h1,h2⟩:=h;⟨h0,s,b,s',h1,h2.map hE hg⟩
theorem Ab0.map {tu tt:TypeId} {W W':PW} {s:Sl} {p:List Tm} {g:Nat} {es:Array MapEntry} {c:Nat} (h:Ab0 tu tt W s p) (hE:Au9 (· = g) W W') (hg:W.w.heap[g]?=Option.some (.map es c)):Ab0 tu tt W' s p:=
 let⟨xs,h1,h2⟩:=h;⟨xs,h1.map hE hg,h2.mono fun _ _ h=>h.map hE hg⟩
def ME (tu:TypeId) (W:PW) (e:MapEntry) (t:Tm):Prop:=t.1.ok∧e.key=t.1.v∧∃(s:Sl) (b:Bool) (s':Sl),e.val = .agg ⟨[s.v,.bool b,s'.v]⟩∧Ab3 tu W s b s' t.2
theorem ME.ext {tu:TypeId} {W W':PW} {e:MapEntry} {t:Tm} (h:ME tu W e t) (hE:Ext W W'):ME tu W' e t:=let⟨h0,hk,s,b,s',h1,h2⟩:=h;⟨h0,hk,s,b,s',h1,h2.ext hE⟩
theorem ME.map {tu:TypeId} {W W':PW} {e:MapEntry} {t:Tm} {g:Nat} {es:Array MapEntry} {c:Nat} (h:ME tu W e t) (hE:Au9 (· = g) W W') (hg:W.w.heap[g]?=some (.map es c)):ME tu W' e t:=let⟨h0,hk,s,b,s',h1,h2⟩:=h;⟨h0,hk,s,b,s',h1,h2.map hE hg⟩
structure Ai4 (tu:TypeId) (W:PW) (g:Nat) (es:Array MapEntry) (c:Nat) (E:List Tm):Prop where
 pub:¬W.S g
 heap:W.w.heap[g]?=some (.map es c)
 all:An5 (ME tu W) es.toList E
 nd:(E.map (·.1)).Nodup
 born:(es.toList.map (·.born)).Nodup
 lt: ∀e∈es.toList,e.born<c
theorem Ai4.ext {tu:TypeId} {W W':PW} {g:Nat} {es:Array MapEntry} {c:Nat} {E:List Tm} (h:Ai4 tu W g es c E) (hE:Ext W W'):Ai4 tu W' g es c E:=
 let k:=hE.Ai1 g (Array.getElem?_eq_some_iff.1 h.heap).1 h.pub
 ⟨k.2,k.1.trans h.heap,h.all.mono fun _ _ h=>h.ext hE,h.nd,h.born,h.lt⟩
theorem Mon.Ck0 {a b:Mon} (h:a.v=b.v):a=b:=by
 simp only[Mon.v,Value.agg.injEq,Array.mk.injEq,List.cons.injEq,Value.int.injEq,true_and,and_true] at h
 exact Mon.Fp2 h.1 h.2.1 h.2.2
structure Du7 (E:List Tm) (t:Tm) (E':List Tm):Prop where
 tot: ∀m,Aj5 E' m=Aj5 E m+(if t.1=m then t.2 else 0)
 fit: ∀D N n,Fit D N E→Ak3 D n t.2→Fit D (N+n) E'
 len:E'.length≤E.length+1
theorem Fb9 {E:List Tm} {i:Nat} {m:Mon} {q c:Rat} (h:E[i]?=some (m,q)) (m':Mon):Aj5 (E.set i (m,q+c)) m'=Aj5 E m'+(if m=m' then c else 0):=by
 induction E generalizing i with
 | nil=>simp at h
 | cons e r ih=>
  cases i with
  | zero=>
   simp only[List.getElem?_cons_zero,Option.some.injEq] at h
   subst h
   simp only[List.set_cons_zero,Aj5]
   grind
  | succ i=>
   simp only[List.getElem?_cons_succ] at h
   simp only[List.set_cons_succ,Aj5,ih h]
   grind
theorem Fit.Fv6 {D N n:Nat} {E:List Tm} {i:Nat} {m:Mon} {q c:Rat} (h:Fit D N E) (hi:E[i]?=some (m,q)) (hc:Ak3 D n c):Fit D (N+n) (E.set i (m,q+c)):=by
 induction E generalizing i N with
 | nil=>simp at hi
 | cons e r ih=>
  obtain⟨a,b,h1,h2,h3⟩:=h
  cases i with
  | zero=>
   simp only[List.getElem?_cons_zero,Option.some.injEq] at hi
   subst hi
   exact⟨a+n,b,by omega,h2.add hc,h3⟩
  | succ i=>
   simp only[List.getElem?_cons_succ] at hi
   exact⟨a,b+n,by omega,h2,ih h3 hi⟩
theorem Ei3 {E:List Tm} {i:Nat} {m:Mon} {q c:Rat} (h:E[i]?=some (m,q)):Du7 E (m,c) (E.set i (m,q+c)):=
 ⟨fun m'=>Fb9 h m',fun D N n hF hc=>hF.Fv6 h hc,by simp⟩
theorem Du2 (E:List Tm) (m:Mon) (c:Rat):Du7 E (m,c) (E ++ [(m,c)]):=
 ⟨fun m'=>by rw[Au2];simp only[Aj5];grind,fun D N n hF hc=>hF.append ⟨n,0,by omega,hc,trivial⟩,by simp⟩
theorem Dk2 {E:List Tm} {i:Nat} {m:Mon} {q c:Rat} (h:E[i]?=some (m,q)):(E.set i (m,c)).map (·.1)=E.map (·.1):=by
 rw[List.map_set]
 refine List.ext_getElem? fun j=>?_
 rw[List.getElem?_set]
 split
 ·rename_i e
  subst e
  split
  ·simp[h]
  ·rename_i hl
   rw[List.getElem?_eq_none (by omega)]
 ·rfl
def At5 (sn:Array Nat):List MapEntry→List Tm→List Tm
 | e :: es,t :: E=>if sn.contains e.born then At5 sn es E else t :: At5 sn es E
 | _,_=>[]
theorem Bw6: ∀{es:List MapEntry} {E:List Tm},es.length=E.length→At5 #[] es E=E
 | [],[],_=>rfl
 | e :: es,t :: E,h=>by
  rw[At5,if_neg (by simp),Bw6 (by simpa using h)]
 | [],_ :: _,h=>by simp at h
 | _ :: _,[],h=>by simp at h
theorem Cp2 {sn:Array Nat} : ∀{es:List MapEntry} {E:List Tm},(∀e∈es,sn.contains e.born=true)→At5 sn es E = []
 | [],[],_=>rfl
 | e :: es,t :: E,h=>by
  rw[At5,if_pos (h e (by simp)),Cp2 fun x hx=>h x (by simp[hx])]
 | [],_ :: _,h=>rfl
 | _ :: _,[],h=>rfl
theorem Bu7 {sn:Array Nat} {b:Nat} : ∀{es:List MapEntry} {E:List Tm},(∀e∈es,e.born≠b)→At5 (sn.push b) es E=At5 sn es E
 | [],[],_=>rfl
 | e :: es,t :: E,h=>by
  have hb:=h e (by simp)
  have:=Bu7 (sn:=sn) (es:=es) (E:=E) fun x hx=>h x (by simp[hx])
  simp only[At5,this]
  have e1:(sn.push b).contains e.born=sn.contains e.born:=by
   rw[Array.contains_push]
   simp[hb]
  rw[e1]
 | [],_ :: _,h=>rfl
 | _ :: _,[],h=>rfl
theorem Ce4 {sn:Array Nat} : ∀{es:List MapEntry} {E:List Tm} {i:Nat} {e:MapEntry} {t:Tm},(es.map (·.born)).Nodup→es[i]?=some e→E[i]?=some t→sn.contains e.born=false→(At5 sn es E).Perm (t :: At5 (sn.push e.born) es E)
 | [],_,i,e,t,_,h,_,_=>by simp at h
 | _ :: _,[],i,e,t,_,_,h,_=>by simp at h
 | x :: es,u :: E,0,e,t,hn,h1,h2,hs=>by
  simp only[List.getElem?_cons_zero,Option.some.injEq] at h1 h2
  subst h1;subst h2
  simp only[List.map_cons,List.nodup_cons,List.mem_map,not_exists,not_and] at hn
  have:=Bu7 (sn:=sn) (b:=x.born) (es:=es) (E:=E) fun y hy he=>hn.1 y hy he
  simp only[At5,hs,this]
  simp
 | x :: es,u :: E,i+1,e,t,hn,h1,h2,hs=>by
  simp only[List.getElem?_cons_succ] at h1 h2
  simp only[List.map_cons,List.nodup_cons,List.mem_map,not_exists,not_and] at hn
  have ih:=Ce4 hn.2 h1 h2 hs
  have hne:x.born≠e.born:=fun he=>hn.1 e (List.mem_of_getElem? h1) he.symm
  have e1:(sn.push e.born).contains x.born=sn.contains x.born:=by
   rw[Array.contains_push]
   simp[hne]
  simp only[At5,e1]
  split
  ·exact ih
  ·exact(ih.cons u).trans (.swap ..)
theorem Dp6.add {D a n:Nat} {l E E':List Tm} {t:Tm} (h:Dp6 D l a E) (h':Du7 E t E') (ht:Ak3 D n t.2):Dp6 D (l ++ [t]) (a+n) E':=
 ⟨fun m=>by rw[h'.tot,h.tot,Au2];simp only[Aj5,Rat.add_zero],h'.fit _ _ _ h.fit ht,by have:=h'.len;have:=h.len;simp;omega⟩
theorem Dp6.norm {D a:Nat} {l E:List Tm} (h:Dp6 D l a E):Ag2 E=Ag2 l:=Bc1 h.tot
theorem Ai4.new {tu:TypeId} {W:PW} {g:Nat} (hS:¬W.S g) (hh:W.w.heap[g]?=some (.map #[] 0)):Ai4 tu W g #[] 0 []:=⟨hS,hh,trivial,List.nodup_nil,List.nodup_nil,by simp⟩
/-! ### Rows that are written and appended to -/
theorem PT.new {tu : TypeId} {W W' : PW} {x : List Value} {t : Tm} {n0 : Nat} (h : PT tu W x t) (hE : Eo1 n0 W W') (hn : W.w.heap.size ≤ n0) : PT tu W' x t := let ⟨h0, s, b, s', h1, h2⟩ := h; ⟨h0, s, b, s', h1, h2.new hE hn⟩
theorem Ab0.new {tu tt:TypeId} {W W':PW} {s:Sl} {p:List Tm} {n0:Nat} (h:Ab0 tu tt W s p) (hE:Eo1 n0 W W') (hn:W.w.heap.size≤n0):Ab0 tu tt W' s p:=let⟨xs,h1,h2⟩:=h;⟨xs,h1.new hE hn,h2.mono fun _ _ h=>h.new hE hn⟩
theorem Row.own {tu tt:TypeId} {W W':PW} {sz sz':Nat} {s s1:Sl} {xs ys:List (List Value)} (hO:Own W tt sz s xs) (hE:Au9 (fun g=>s.v.ownBlock=Option.some g) W W') (ht:tu≠tt) (h:Row W tu sz' s1 ys):Row W' tu sz' s1 ys:=
 h.Fi9 hE fun b hb cs fz hh=>by
  rcases hO.1.2.2 with⟨hv,_⟩ | ⟨g,cap,cur,hv,_,hh',_⟩
  ·rw[hv] at hb
   simp[Value.ownBlock] at hb
  ·have:s.v.ownBlock=Option.some g:=by rw[hv];rfl
   rw[hb] at this
   cases this
   rw[hh] at hh'
   cases hh'
   exact absurd rfl ht
theorem Ab3.own {tu tt:TypeId} {W W':PW} {sz:Nat} {s s1 s2:Sl} {b:Bool} {q:Rat} {xs:List (List Value)} (hO:Own W tt sz s xs) (hE:Au9 (fun g=>s.v.ownBlock=Option.some g) W W') (ht:tu≠tt) (h:Ab3 tu W s1 b s2 q):Ab3 tu W' s1 b s2 q:=
 ⟨⟨Row.own hO hE ht h.1.1,h.1.2⟩,Row.own hO hE ht h.2⟩
theorem PT.own {tu tt:TypeId} {W W':PW} {sz:Nat} {s:Sl} {xs:List (List Value)} {x:List Value} {t:Tm} (hO:Own W tt sz s xs) (hE:Au9 (fun g=>s.v.ownBlock=Option.some g) W W') (ht:tu≠tt) (h:PT tu W x t):PT tu W' x t:=
 let⟨h0,s,b,s',h1,h2⟩:=h;⟨h0,s,b,s',h1,h2.own hO hE ht⟩
theorem Am7.Fr9 {M:Nat→Prop} {w w':World} (h:Am7 M w.drew w'):Am7 M w w':=⟨h.os,h.tape,h.output,h.size,h.block,Nat.le_trans (Nat.le_succ _) h.drawn⟩
def Ch2 (tu tt:TypeId) (W:PW) (s:Sl) (p:List Tm):Prop:=∃xs,Own W tt 6 s xs∧An5 (PT tu W) xs p
theorem Ch2.Ft4 {tu tt:TypeId} {W:PW} {s:Sl} {p:List Tm} (h:Ch2 tu tt W s p):Ab0 tu tt W s p:=let⟨xs,h1,h2⟩:=h;⟨xs,h1.row,h2⟩
theorem Ch2.ext {tu tt:TypeId} {W W':PW} {s:Sl} {p:List Tm} (h:Ch2 tu tt W s p) (hE:Ext W W'):Ch2 tu tt W' s p:=let⟨xs,h1,h2⟩:=h;⟨xs,h1.ext hE,h2.mono fun _ _ h=>h.ext hE⟩
def Gv0 (ta:TypeId) (W:PW) (s:Sl) (p:List (Mon×ByteArray)):Prop:=∃xs,Own W ta 4 s xs∧An5 AT xs p
theorem Gv0.Ft4 {ta:TypeId} {W:PW} {s:Sl} {p:List (Mon×ByteArray)} (h:Gv0 ta W s p):Af3 W s p:=let⟨xs,h1,h2⟩:=h;⟨xs,⟨_,h1.row⟩,h2⟩
end Go.SX
/- A row that nobody else has, sorted by the library's SortFunc: from the kit's contract to worlds with private blocks. -/
namespace Go.SX
open Go Go.Sort Go.Proofs Go.Shelf Go.RowKit Go.Lib
theorem Cw5 {w w':World} (h:Am7 (fun _=>False) w w'): ∃q os',w'=grow (w.drewN q) os':=by
 refine⟨w'.drawn-w.drawn,w'.heap.extract w.heap.size w'.heap.size,?_⟩
 obtain⟨h1,h2,h3,h4,h5,h6⟩:=h
 have hh:w'.heap=w.heap ++ w'.heap.extract w.heap.size w'.heap.size:=by
  apply Array.ext_getElem?
  intro i
  rw[Array.getElem?_append]
  split
  ·rename_i hi
   exact h5 i hi id
  ·rename_i hi
   rw[Array.getElem?_extract]
   by_cases hi':i<w'.heap.size
   ·rw[if_pos (by omega),show w.heap.size+(i-w.heap.size)=i by omega]
   ·rw[if_neg (by omega),Array.getElem?_eq_none (by omega)]
 have hd:w'.drawn=w.drawn+(w'.drawn-w.drawn):=by omega
 cases w
 cases w'
 simp only[grow,World.drewN] at *
 subst h1;subst h2;subst h3
 simp only[World.mk.injEq,true_and,and_true]
 exact⟨hh,hd⟩
variable {α:Type} [Inhabited α]
theorem Dp5 (enc:α→List Value) {k:Nat} (hk: ∀x,(enc x).length=k) (d:Array α) {j:Nat} (hj:j<d.size*k):(d.toList.map enc).flatten[j]?=some (flatK enc k d)[j]!:=by
 have k0:0<k:=by
  rcases Nat.eq_zero_or_pos k with h | h
  ·subst h;simp at hj
  ·exact h
 have hi:j/k<d.size:=(Nat.div_lt_iff_lt_mul k0).2 hj
 have e:j/k*k+j%k=j:=by rw[Nat.mul_comm];exact Nat.div_add_mod j k
 have hm:j%k<k:=Nat.mod_lt _ k0
 rw[get_flatK _ _ _ _ hj]
 have hx:(d.toList.map enc)[j/k]?=some (enc d[j/k]!):=by
  rw[List.getElem?_map,Array.getElem?_toList,Array.getElem?_eq_getElem hi,getElem!_pos d _ hi]
  rfl
 have:=Ao8 (sz:=k) (xs:=d.toList.map enc) (fun x hx=>by obtain⟨y,_,rfl⟩:=List.mem_map.1 hx;exact hk y) hx (j:=j%k) (v:=(enc d[j/k]!)[j%k]!) (by
  have hl:=hk d[j/k]!
  generalize enc d[j/k]! = ys at hl⊢
  rw[List.getElem?_eq_getElem (by omega),getElem!_pos ys _ (by omega)])
 rw[e] at this
 exact this
theorem Do7 {β:Type} (enc:β→List Value) {k:Nat} (hk: ∀x,(enc x).length=k) (d:Array β):(d.toList.map enc).flatten.length=d.size*k:=by
 rw[Ac0 (sz:=k) fun x hx=>by obtain⟨y,_,rfl⟩:=List.mem_map.1 hx;exact hk y]
 simp
theorem Eh6 {W:PW} {t:TypeId} {k:Nat} {s:Sl} (enc:α→List Value) (hk: ∀x,(enc x).length=k) (d:Array α) (hO:Own W t k s (d.toList.map enc)) (hne:d.size≠0):
  ∃g cur,s.A=some ⟨g,0,none⟩∧s.v.ownBlock=some g∧¬W.S g∧W.w.heap[g]?=some (.cells cur t (0,0))∧d.size*k≤cur.size∧HoldsK enc k W.w g 0 d:=by
 obtain⟨⟨hel,hlen,ho⟩,hS⟩:=hO
 rcases ho with⟨_,h0⟩ | ⟨g,cap,cur,hv,_,hh,h1,h2,h3,h4⟩
 ·simp at h0;exact absurd (by simp[h0]) hne
 ·have hA:s.A=some ⟨g,0,none⟩∧s.n=d.size∧s.c=cap:=by simpa[Sl.v] using hv
  have hob:s.v.ownBlock=some g:=by simp[Sl.v,Value.ownBlock,hA.1]
  have hle:d.size*k≤cur.size:=by
   rw[h3]
   refine Nat.mul_le_mul_right k ?_
   simpa using h1
  refine⟨g,cur,hA.1,hob,hS g hob,hh,hle,fun j hj=>?_⟩
  rw[size_flatK] at hj
  have hf:=Dp5 enc hk d hj
  have hl:(d.toList.map enc).length=d.size:=by simp
  rw[←h4,hl,List.getElem?_take,if_pos hj,Array.getElem?_toList] at hf
  refine⟨?_,?_⟩
  ·simp only[World.cell?,hh,Nat.zero_add]
   simpa using hf
  ·simp[World.frozen?,hh]
theorem Az2 {w:World} {g:Nat} {cur:Array Value} {t:TypeId} {fz:Nat×Nat} (enc:α→List Value) {k:Nat} (hh:w.heap[g]?=some (.cells cur t fz)) (n:Nat) (d:Array α) (os:Array Obj):
  (sortWorldK enc k w g 0 n d os).heap[g]?=some (.cells (putCells id 0 (flatK enc k d) cur) t fz)∧Am7 (fun b=>b=g) w (sortWorldK enc k w g 0 n d os):=by
 have hg:=(Array.getElem?_eq_some_iff.1 hh).1
 have hheap: ∀b,b<w.heap.size→(sortWorldK enc k w g 0 n d os).heap[b]?=(w.heap.modify g (onCells (putCells id 0 (flatK enc k d))))[b]?:=by
  intro b hb
  show((w.heap.modify g (onCells (putCells id 0 (flatK enc k d)))) ++ os)[b]?=_
  rw[Array.getElem?_append,if_pos (by simpa using hb)]
 refine⟨?_,rfl,rfl,rfl,?_,fun b hb hn=>?_,?_⟩
 ·rw[hheap g hg,Array.getElem?_modify,if_pos rfl,hh]
  rfl
 ·show w.heap.size≤((w.heap.modify g (onCells (putCells id 0 (flatK enc k d)))) ++ os).size
  simp
 ·rw[hheap b hb,Array.getElem?_modify,if_neg (fun e=>hn e.symm)]
 ·show w.drawn≤w.drawn+n
  omega
theorem Et6 {W:PW} {t:TypeId} {k:Nat} {s:Sl} (enc:α→List Value) (hk: ∀x,(enc x).length=k) (h1: ∀x,∀v∈enc x,v.oneCell'=true) {d d':Array α} (hO:Own W t k s (d.toList.map enc)) (hne:d.size≠0) (hs:d'.size=d.size) {g:Nat} (hg:s.v.ownBlock=some g) (n:Nat) (os:Array Obj):
  Own ⟨sortWorldK enc k W.w g 0 n d' os,W.S⟩ t k s (d'.toList.map enc):=by
 obtain⟨⟨hel,hlen,ho⟩,hS⟩:=hO
 refine⟨⟨fun x hx=>?_,?_,?_⟩,hS⟩
 ·obtain⟨y,_,rfl⟩:=List.mem_map.1 hx
  exact⟨hk y,h1 y⟩
 ·rw[Do7 enc hk,hs];simp[hs]
 ·rcases ho with⟨_,h0⟩ | ⟨g',cap,cur,hv,hb,hh,h1',h2,h3,h4⟩
  ·simp at h0;exact absurd (by simp[h0]) hne
  ·have hgg:s.v.ownBlock=some g':=by rw[hv];rfl
   rw[hg] at hgg
   cases hgg
   have hl:(d.toList.map enc).length=d.size:=by simp
   have hl':(d'.toList.map enc).length=d.size:=by simp[hs]
   rw[hl] at hv h1' h4
   rw[hl']
   refine .inr ⟨g,cap,_,hv,hb,(Az2 enc hh n d' os).1,h1',h2,by simp[putCells,h3],?_⟩
   have hle:d.size*k≤cur.size:=by rw[h3];exact Nat.mul_le_mul_right k h1'
   apply List.ext_getElem?
   intro j
   rw[List.getElem?_take]
   split
   ·rename_i hj
    rw[Dp5 enc hk d' (by rw[hs];exact hj),Array.getElem?_toList,putCells,Array.getElem?_mapIdx,Array.getElem?_eq_getElem (by omega)]
    simp[hs,hj]
   ·rename_i hj
    rw[List.getElem?_eq_none]
    rw[Do7 enc hk,hs];omega
theorem Dh2 {d d':Array α} (h:PermIn 0 d.size d d'):d'.size=d.size∧d'.toList.Perm d.toList:=by
 obtain⟨h1,_,h3⟩:=h
 refine⟨h1,?_⟩
 rw[Array.extract_size] at h3
 rwa [←h1,Array.extract_size] at h3
theorem Ch4 {lt:α→α→Bool} {n:Nat} {d:Array α} (h:SortedIn lt 0 n d) (hn:d.size=n):d.toList.Pairwise fun a b=>lt b a=false:=by
 rw[List.pairwise_iff_getElem]
 intro i j hi hj hij
 simp only[Array.length_toList] at hi hj
 have:=h i j (Nat.zero_le _) hij (by omega)
 rw[getElem!_pos d _ hj,getElem!_pos d _ hi] at this
 simpa using this
end Go.SX
/- Polynomials in their text's form: terms rising, no coefficient 0. -/
namespace Go.SX
end Go.SX
/- Sums and products of polynomials: laws. -/
namespace Go.SX
end Go.SX
