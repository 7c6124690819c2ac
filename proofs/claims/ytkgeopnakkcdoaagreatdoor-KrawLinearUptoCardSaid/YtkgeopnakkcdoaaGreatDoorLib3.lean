import Derived.Test.YtkgeopnakkcdoaaGreatDoorLib2
import Derived.Test.YtkgeopnakkcdoaaGreatDoorLib1
import Derived.Shelf.SlSortCmp.WholeK
import Derived.Shelf.SlSortCmp.NoneTotal
set_option linter.unusedVariables false
set_option linter.unusedSimpArgs false
namespace Go.SX
variable {T:List (List ByteArray)}{W W':PW}{i:Int}{l:List ByteArray}{n0:Nat}{s x:Sl}{xs:List (List Value)}
def Gw6 (l:List ByteArray):List (List Value):=l.map λ t=>[.string t]
theorem Gj6 (l:List ByteArray):(Gw6 l).length=l.length:=by simp[Gw6]
theorem Bf9.ext {sz:Nat}(h:Bf9 W sz s xs)(c:Ext W W'):Bf9 W' sz s xs:=let⟨t,h1⟩:=h;⟨t,h1.ext c⟩
theorem Bf9.new {sz:Nat}(h:Bf9 W sz s xs)(c:Eo1 n0 W W')(d:W.w.heap.size<=n0):Bf9 W' sz s xs:=let⟨t,h1⟩:=h;⟨t,h1.new c d⟩
def Go3 (W:PW) (s:Sl) (T:List (List ByteArray)):Prop:=
 ∃c:List Sl,Bf9 W 1 s (c.map λ x=>[x.v])/\c.length=T.length/\∀i (h:i<c.length) (d:i<T.length),Bf9 W 1 c[i] (Gw6 T[i])
theorem Go3.ext (h:Go3 W s T)(c:Ext W W'):Go3 W' s T:=
 let⟨d,h1,f,j⟩:=h;⟨d,h1.ext c,f,λ i hi n=>(j i hi n).ext c⟩
theorem Go3.new (h:Go3 W s T)(c:Eo1 n0 W W')(d:W.w.heap.size<=n0):Go3 W' s T:=
 let⟨f,h1,j,n⟩:=h;⟨f,h1.new c d,j,λ i hi o=>(n i hi o).new c d⟩
theorem Go3.n (h:Go3 W s T):s.n=T.length:=let⟨d,⟨_,h1⟩,c,_⟩:=h;h1.1.trans (by simpa using c)
theorem Go3.inB (h:Go3 W s T)(c:0<=i)(h1:i<(T.length:Int)):inB s i:=by
 have n:=h.n;obtain⟨d,⟨_,f⟩,j,_⟩:=h;refine⟨c,by omega,Row.some f λ e=>?_⟩;have:d = []:=by simpa using e
 subst this;simp at j;omega
theorem Go3.at (h:Go3 W s T){i:Nat}(hi:i<T.length): ∃x:Sl,Aa7 W s 1 i 0 [x.v]/\Bf9 W 1 x (Gw6 T[i]):=by
 obtain⟨c,⟨_,f⟩,r,n⟩:=h;have d:i<c.length:=by omega
 exact⟨c[i],Row.elem f (x:=[c[i].v]) (by simp[d]) λ j v o=>by simpa using o,n i d hi⟩
theorem Bf9.text {j:Nat}(h:Bf9 W 1 x (Gw6 l))(c:j<l.length):Aa7 W x 1 j 0 [.string l[j]]:=let⟨_,h⟩:=h;Row.elem h (x:=[.string l[j]]) (by simp[Gw6,c]) λ j v c=>by simpa using c
theorem Bf9.Hb8 (h:Bf9 W 1 x (Gw6 l))(c:0<=i)(h1:i<(l.length:Int)):inB x i:=by
 obtain⟨_,h⟩:=h;exact⟨c,by have:=h.1;rw[Gj6] at this;omega,Row.some h λ e=>by
  have:l = []:=by simpa[Gw6] using e
  subst this;simp at h1;omega⟩
theorem Bf9.nt (h:Bf9 W 1 x (Gw6 l)):x.n=l.length:=let⟨_,h⟩:=h;by rw[h.1,Gj6]
end Go.SX
namespace Go.SX
def dec:Nat->List Nat
 | 0=>[]
 | n+1=>(n+1)%10::dec ((n+1)/10)
 decreasing_by omega
end Go.SX
namespace Go.SX
variable {D N N' k k':Nat}{q:Rat}
structure Mon where
  x:Int
  y:Int
  z:Int
 deriving DecidableEq
def Mon.deg (m:Mon):Int:=m.x+m.y+m.z
def Mon.ok (m:Mon):Prop:=(0<=m.x/\m.x<=255)/\(0<=m.y/\m.y<=255)/\0<=m.z/\m.z<=255
def Mon.lt (a b:Mon):Prop:=a.deg<b.deg\/a.deg=b.deg/\(a.x<b.x\/a.x=b.x/\(a.y<b.y\/a.y=b.y/\a.z<b.z))
instance (a b:Mon):Decidable (a.lt b):=by unfold Mon.lt;infer_instance
theorem Mon.Fp2 {a b:Mon}(h1:a.x=b.x)(c:a.y=b.y)(d:a.z=b.z):a=b:=by
 cases a;cases b;simp_all
theorem Mon.lt_irrefl (a:Mon):¬a.lt a:=by unfold Mon.lt;omega
theorem Mon.lt_trans {a b c:Mon}(h:a.lt b)(k:b.lt c):a.lt c:=by unfold Mon.lt at *;omega
theorem Mon.Eg6 {a b:Mon}(h:a.lt b):a≠b:=by rintro rfl;exact Mon.lt_irrefl _ h
theorem Mon.Bo9 {a b:Mon}(h:¬a.lt b)(c:a≠b):b.lt a:=by
 unfold Mon.lt at *
 by_cases d:a.x=b.x
 ·by_cases f:a.y=b.y
  ·by_cases j:a.z=b.z
   ·exact absurd (Mon.Fp2 d f j) c
   ·unfold Mon.deg at *;omega
  ·unfold Mon.deg at *;omega
 ·unfold Mon.deg at *;omega
def Mon.cmp (a b:Mon):Int:=if a.lt b then -1 else if a=b then 0 else 1
theorem Mon.Dm2 {a b:Mon}:a.cmp b<0↔a.lt b:=by
 unfold Mon.cmp;split
 ·simp_all
 ·split<;>simp_all
def Mon.add (a b:Mon):Mon:=⟨a.x+b.x,a.y+b.y,a.z+b.z⟩
abbrev Tm:=Mon×Rat
variable {a b l p:List Tm}{t x:Tm}
def Aj5:List Tm->Mon->Rat
 | [],_=>0
 | t::r,m=>(if t.1=m then t.2 else 0)+Aj5 r m
def Bg6:List Tm->Tm->List Tm
 | [],t=>if t.2=0 then[] else[t]
 | e::r,t=>if e.1.lt t.1 then e::Bg6 r t else if e.1=t.1 then(if e.2+t.2=0 then r else(e.1,e.2+t.2)::r) else if t.2=0 then e::r else t::e::r
def Ag2 (l:List Tm):List Tm:=l.foldl Bg6 []
structure Av6 (p:List Tm):Prop where
 srt:p.Pairwise λ a b=>a.1.lt b.1
 nz: ∀t∈p,t.2≠0
theorem Av6.nil:Av6 []:=⟨List.Pairwise.nil,by simp⟩
theorem Av6.tail {r:List Tm}(h:Av6 (t::r)):Av6 r:=⟨(List.pairwise_cons.1 h.srt).2,λ x c=>h.nz x (by simp[c])⟩
theorem Au2 (a b:List Tm)(m:Mon):Aj5 (a ++ b) m=Aj5 a m+Aj5 b m:=by
 induction a with
 | nil=>simp[Aj5,Rat.zero_add]
 | cons t r ih=>simp only[List.cons_append,Aj5,ih,Rat.add_assoc]
theorem Av5 {m:Mon}(h: ∀t∈l,t.1≠m):Aj5 l m=0:=by
 induction l with
 | nil=>rfl
 | cons t r ih=>
  rw[Aj5,ih λ x c=>h x (by simp[c]),if_neg (h t (by simp)),Rat.add_zero]
theorem Eo8 (p:List Tm)(t:Tm)(m:Mon):Aj5 (Bg6 p t) m=Aj5 p m+(if t.1=m then t.2 else 0):=by
 induction p with
 | nil=>
  unfold Bg6;split
  ·rename_i h
   simp only[Aj5,h];split<;>rw[Rat.add_zero]
  ·simp only[Aj5]
   split<;>grind
 | cons e r ih=>
  unfold Bg6;split
  ·simp only[Aj5,ih]
   grind
  ·split
   ·rename_i h1 c
    split
    ·rename_i d
     simp only[Aj5,c];split
     ·grind
     ·grind
    ·simp only[Aj5,c]
     split
     ·grind
     ·grind
   ·split
    ·rename_i d
     simp only[Aj5,d];split<;>grind
    ·simp only[Aj5]
     grind
theorem Dx4 (l p:List Tm)(m:Mon):Aj5 (l.foldl Bg6 p) m=Aj5 p m+Aj5 l m:=by
 induction l generalizing p with
 | nil=>simp[Aj5,Rat.add_zero]
 | cons t r ih=>
  rw[List.foldl_cons,ih,Eo8,Aj5,Rat.add_assoc]
theorem Bh2 (l:List Tm)(m:Mon):Aj5 (Ag2 l) m=Aj5 l m:=by
 rw[Ag2,Dx4];simp[Aj5,Rat.zero_add]
theorem Ex9 (h:x∈Bg6 p t):x∈p\/x.1=t.1:=by
 induction p with
 | nil=>
  unfold Bg6 at h;split at h
  ·simp at h
  ·simp at h;exact .inr (by rw[h])
 | cons e r ih=>
  unfold Bg6 at h;split at h
  ·simp only[List.mem_cons] at h⊢
   rcases h with h | h
   ·exact .inl (.inl h)
   ·rcases ih h with h | h
    ·exact .inl (.inr h)
    ·exact .inr h
  ·split at h
   ·rename_i c
    split at h
    ·exact .inl (by simp[h])
    ·simp only[List.mem_cons] at h⊢
     rcases h with h | h
     ·exact .inr (by rw[h];exact c)
     ·exact .inl (.inr h)
   ·split at h
    ·exact .inl h
    ·simp only[List.mem_cons] at h⊢
     rcases h with h | h | h
     ·exact .inr (by rw[h])
     ·exact .inl (.inl h)
     ·exact .inl (.inr h)
theorem Av6.Bg6 (h:Av6 p)(t:Tm):Av6 (Bg6 p t):=by
 induction p with
 | nil=>
  unfold SX.Bg6;split
  ·exact h
  ·rename_i o
   exact⟨List.pairwise_singleton _ _,by simpa using o⟩
 | cons e r ih=>
  have d:=List.pairwise_cons.1 h.srt;unfold SX.Bg6;split
  ·rename_i h1
   have:=ih h.tail;refine⟨List.pairwise_cons.2 ⟨λ x c=>?_,this.srt⟩,λ x c=>?_⟩
   ·rcases Ex9 c with c | c
    ·exact d.1 x c
    ·rw[c];exact h1
   ·rcases List.mem_cons.1 c with rfl | c
    ·exact h.nz _ (by simp)
    ·exact this.nz _ c
  ·split
   ·rename_i h1 j
    split
    ·exact h.tail
    ·rename_i f
     refine⟨List.pairwise_cons.2 ⟨d.1,d.2⟩,λ x c=>?_⟩;rcases List.mem_cons.1 c with rfl | c
     ·exact f
     ·exact h.nz _ (by simp[c])
   ·rename_i h1 j
    split
    ·exact h
    ·rename_i f
     have n:=Mon.Bo9 h1 j;refine⟨List.pairwise_cons.2 ⟨λ x c=>?_,h.srt⟩,λ x c=>?_⟩
     ·rcases List.mem_cons.1 c with rfl | c
      ·exact n
      ·exact Mon.lt_trans n (d.1 x c)
     ·rcases List.mem_cons.1 c with rfl | c
      ·exact f
      ·exact h.nz _ c
theorem Av6.foldl (h:Av6 p)(l:List Tm):Av6 (l.foldl SX.Bg6 p):=by
 induction l generalizing p with
 | nil=>exact h
 | cons t r ih=>exact ih (h.Bg6 t)
theorem Ce8 (l:List Tm):Av6 (Ag2 l):=Av6.nil.foldl l
theorem Av6.uniq {q:List Tm}(f:Av6 p)(d:Av6 q)(h: ∀m,Aj5 p m=Aj5 q m):p=q:=by
 induction p generalizing q with
 | nil=>
  cases q with
  | nil=>rfl
  | cons b q=>
   have h1:=h b.1;have y:=List.pairwise_cons.1 d.srt;rw[Aj5,Aj5,if_pos rfl,Av5 (l:=q) λ x c e=>Mon.Eg6 (y.1 x c) e.symm] at h1;exact absurd (by rw[Rat.add_zero] at h1;exact h1.symm) (d.nz b (by simp))
 | cons a p ih=>
  have u:=List.pairwise_cons.1 f.srt;have n:=Av5 (l:=p) (m:=a.1) λ x c e=>Mon.Eg6 (u.1 x c) e.symm
  cases q with
  | nil=>
   have h1:=h a.1;rw[Aj5,Aj5,if_pos rfl,n] at h1;exact absurd (by rw[Rat.add_zero] at h1;exact h1) (f.nz a (by simp))
  | cons b q=>
   have v:=List.pairwise_cons.1 d.srt;have w:=Av5 (l:=q) (m:=b.1) λ x c e=>Mon.Eg6 (v.1 x c) e.symm;have o:a.1=b.1:=by
    refine Classical.byContradiction λ r=>?_
    by_cases j:a.1.lt b.1
    ·have h1:=h a.1
     rw[Aj5,Aj5,if_pos rfl,n,if_neg (λ e=>r e.symm),Av5 (l:=q) λ x c e=>Mon.Eg6 (Mon.lt_trans j (v.1 x c)) e.symm] at h1;exact absurd (by rw[Rat.add_zero] at h1;exact h1.trans (Rat.add_zero 0)) (f.nz a (by simp))
    ·have j:=Mon.Bo9 j r
     have h1:=h b.1;rw[Aj5,Aj5,if_pos rfl,w,if_neg r,Av5 (l:=p) λ x c e=>Mon.Eg6 (Mon.lt_trans j (u.1 x c)) e.symm] at h1;exact absurd (by rw[Rat.add_zero b.2] at h1;exact h1.symm.trans (Rat.add_zero 0)) (d.nz b (by simp))
   have z:a.2=b.2:=by
    have h1:=h a.1;rw[Aj5,Aj5,if_pos rfl,n,if_pos o.symm,o,w] at h1
    simpa[Rat.add_zero] using h1
   have e:a=b:=Prod.ext o z;subst e;rw[ih f.tail d.tail λ m=>?_];have h1:=h m;rw[Aj5,Aj5] at h1;grind
theorem Ds8 (c:Av6 p)(h: ∀m,Aj5 p m=Aj5 l m):Ag2 l=p:=(Ce8 l).uniq c λ m=>by rw[Bh2,h]
theorem Bc1 (h: ∀m,Aj5 a m=Aj5 b m):Ag2 a=Ag2 b:=Ds8 (Ce8 b) λ m=>by rw[Bh2,h]
theorem Da7 (h:a.Perm b)(m:Mon):Aj5 a m=Aj5 b m:=by
 induction h with
 | nil=>rfl
 | cons t _ ih=>simp only[Aj5,ih]
 | swap t u l=>simp only[Aj5];grind
 | trans _ _ c d=>exact c.trans d
theorem Ew7 (p:List Tm)(t:Tm):(Bg6 p t).length<=p.length+1:=by
 induction p with
 | nil=>unfold Bg6;split<;>simp
 | cons e r ih=>
  unfold Bg6;split
  ·simp;omega
  ·split
   ·split
    ·simp;omega
    ·simp
   ·split<;>simp
theorem Cb4 (l p:List Tm):(l.foldl Bg6 p).length<=p.length+l.length:=by
 induction l generalizing p with
 | nil=>simp
 | cons t r ih=>
  have:=ih (Bg6 p t);have:=Ew7 p t;simp only[List.foldl_cons,List.length_cons];omega
theorem El2 (l:List Tm):(Ag2 l).length<=l.length:=by
 have:=Cb4 l []
 simpa[Ag2] using this
def POk (l:List Tm):Prop:=∀t∈l,t.1.ok
theorem POk.Bg6 (h:POk p)(d:t.1.ok):POk (Bg6 p t):=λ x c=>by
 rcases Ex9 c with c | c
 ·exact h x c
 ·rw[c];exact d
theorem POk.foldl (h:POk p)(c:POk l):POk (l.foldl SX.Bg6 p):=by
 induction l generalizing p with
 | nil=>exact h
 | cons t r ih=>exact ih (h.Bg6 (c t (by simp))) λ x d=>c x (by simp[d])
theorem POk.norm (c:POk l):POk (Ag2 l):=POk.foldl (by intro t d;simp at d) c
theorem Gu2 (h:x∈Ag2 l): ∃t∈l,x.1=t.1:=by
 have key: ∀(l p:List Tm),x∈l.foldl Bg6 p->x∈p\/∃t∈l,x.1=t.1:=by
  intro l
  induction l with
  | nil=>intro p h;exact .inl h
  | cons t r ih=>
   intro p h;rcases ih _ h with h | ⟨u,hu,e⟩
   ·rcases Ex9 h with h | h
    ·exact .inl h
    ·exact .inr ⟨t,by simp,h⟩
   ·exact .inr ⟨u,by simp[hu],e⟩
 rcases key l [] h with h | h
 ·simp at h
 ·exact h
def Ak3 (D N : Nat) (q : Rat) : Prop := ∃ z : Int, q * (D : Rat) = (z : Rat) /\ z.natAbs <= N
def Fit (D:Nat):Nat->List Tm->Prop
 | _,[]=>True
 | N,t::r=>∃(n k:Nat),n+k<=N/\Ak3 D n t.2/\Fit D k r
theorem Ak3.mono (h:Ak3 D N q)(c:N<=N'):Ak3 D N' q:=let⟨z,h1,d⟩:=h;⟨z,h1,Nat.le_trans d c⟩
theorem Ak3.add {p:Rat}(h:Ak3 D N p)(k:Ak3 D N' q):Ak3 D (N+N') (p+q):=by
 obtain⟨z,h1,c⟩:=h;obtain⟨w,k1,d⟩:=k;exact⟨z+w,by rw[Rat.add_mul,h1,k1,Rat.intCast_add],by omega⟩
theorem Ak3.zero:Ak3 D N 0:=⟨0,by rw[Rat.zero_mul];rfl,by simp⟩
theorem Ak3.mul {E:Nat}{p:Rat}(h:Ak3 D N p)(k:Ak3 E N' q):Ak3 (D*E) (N*N') (p*q):=by
 obtain⟨z,h1,c⟩:=h;obtain⟨w,k1,d⟩:=k;refine⟨z*w,?_,?_⟩
 ·rw[Rat.intCast_mul,<-h1,<-k1,Rat.natCast_mul]
  grind
 ·rw[Int.natAbs_mul]
  exact Nat.mul_le_mul c d
theorem Ak3.sz (h:Ak3 D N q)(c:D≠0)(h1:nl D<=k)(d:nl N<=k):Sz k q:=by
 obtain⟨z,e,f⟩:=h;have:q=mkRat z D:=by
  rw[Rat.mkRat_eq_div,<-e];have:(D:Rat)≠0:=by
   intro h;exact c (by exact_mod_cast h)
  grind
 rw[this];exact Sz.mk (Nat.le_trans (Ad1 f) d) h1 c
theorem Ak3.den (q:Rat):Ak3 q.den q.num.natAbs q:=⟨q.num,by
 have h:=Rat.mkRat_self q;rw[Rat.mkRat_eq_div] at h;have c:(q.den:Rat)≠0:=λ h=>q.den_nz (by exact_mod_cast h);have h1:(q.num:Rat)/(q.den:Rat)*(q.den:Rat)=(q.num:Rat):=by grind
 rw[h] at h1;exact h1,Nat.le_refl _⟩
theorem Ak3.int (z:Int):Ak3 1 z.natAbs (z:Rat):=⟨z,by grind,Nat.le_refl _⟩
theorem Ak3.scale (h:Ak3 D N q)(E:Nat):Ak3 (D*E) (N*E) q:=by
 have:=h.mul (Ak3.mono (Ak3.int 1) (show _<=1 by decide));obtain⟨z,h1,c⟩:=h;refine⟨z*E,?_,?_⟩
 ·rw[Rat.intCast_mul,Rat.natCast_mul,<-h1]
  have:((E:Int):Rat)=(E:Rat):=rfl;rw[this];grind
 ·rw[Int.natAbs_mul,Int.natAbs_natCast]
  exact Nat.mul_le_mul_right _ c
theorem Fit.mono (h:Fit D N l)(c:N<=N'):Fit D N' l:=by
 cases l with
 | nil=>trivial
 | cons t r=>obtain⟨n,k,h1,d,f⟩:=h;exact⟨n,k,Nat.le_trans h1 c,d,f⟩
theorem Fit.mem (h:Fit D N l)(c:t∈l):Ak3 D N t.2:=by
 induction l generalizing N with
 | nil=>simp at c
 | cons u r ih=>
  obtain⟨n,k,h1,d,f⟩:=h;rcases List.mem_cons.1 c with rfl | c
  ·exact d.mono (by omega)
  ·exact(ih f c).mono (by omega)
theorem Fit.append (h:Fit D N a)(k:Fit D N' b):Fit D (N+N') (a ++ b):=by
 induction a generalizing N with
 | nil=>exact k.mono (by omega)
 | cons t r ih=>
  obtain⟨n,m,h1,c,d⟩:=h;exact⟨n,m+N',by omega,c,ih d⟩
theorem Fit.Bg6 {n:Nat}(h:Fit D N p)(f:Ak3 D n t.2):Fit D (N+n) (Bg6 p t):=by
 induction p generalizing N with
 | nil=>
  unfold SX.Bg6;split
  ·trivial
  ·exact⟨n,0,by omega,f,trivial⟩
 | cons e r ih=>
  obtain⟨a,b,h1,d,c⟩:=h;unfold SX.Bg6;split
  ·exact⟨a,b+n,by omega,d,ih c⟩
  ·split
   ·split
    ·exact c.mono (by omega)
    ·exact⟨a+n,b,by omega,d.add f,c⟩
   ·split
    ·exact⟨a,b,by omega,d,c⟩
    ·exact⟨n,N,by omega,f,a,b,h1,d,c⟩
theorem Fit.foldl (h:Fit D N p)(c:Fit D N' l):Fit D (N+N') (l.foldl SX.Bg6 p):=by
 induction l generalizing p N N' with
 | nil=>exact h.mono (by omega)
 | cons t r ih=>
  obtain⟨a,b,h1,d,f⟩:=c;exact(ih (h.Bg6 d) f).mono (by omega)
theorem Fit.norm (h:Fit D N l):Fit D N (Ag2 l):=by
 have:=Fit.foldl (D:=D) (N:=0) (p:=[]) trivial h
 simpa[Ag2] using this
theorem Fit.scale (h:Fit D N l)(E:Nat):Fit (D*E) (N*E) l:=by
 induction l generalizing N with
 | nil=>trivial
 | cons t r ih=>
  obtain⟨a,b,h1,c,d⟩:=h;exact⟨a*E,b*E,by rw[<-Nat.add_mul];exact Nat.mul_le_mul_right _ h1,c.scale E,ih d⟩
theorem Fit.Co7: ∀{l:List Tm} (_: ∀t∈l,Sz k t.2),∃D N,Fit D N l/\D≠0/\nl D<=k*l.length+1/\nl N<=(k+2)*l.length
 | [],_=>⟨1,0,trivial,by decide,by rw[Ax0];omega,by rw[Ag9];omega⟩
 | t::r,h=>by
  obtain⟨D,N,h1,d,u,v⟩:=Fit.Co7 (l:=r) λ x f=>h x (by simp[f]);have c:=h t (by simp);have j:=t.2.den_nz;have w:=Ae5 t.2.den D;have y:=Ae5 t.2.num.natAbs D;have z:=Ae5 N t.2.den;have A:=By9 (t.2.num.natAbs*D) (N*t.2.den);have n:k*(r.length+1)=k*r.length+k:=by rw[Nat.mul_add,Nat.mul_one]
  have o:(k+2)*(r.length+1)=(k+2)*r.length+(k+2):=by rw[Nat.mul_add,Nat.mul_one]
  have B:(k+2)*r.length=k*r.length+2*r.length:=by rw[Nat.add_mul]
  have C:=c.1;have F:=c.2;refine⟨t.2.den*D,t.2.num.natAbs*D+N*t.2.den,⟨t.2.num.natAbs*D,N*t.2.den,Nat.le_refl _,(Ak3.den t.2).scale D,?_⟩,Nat.mul_ne_zero j d,?_,?_⟩
  ·rw[Nat.mul_comm t.2.den D]
   exact h1.scale t.2.den
  ·rw[List.length_cons,n];omega
  ·rw[List.length_cons,o];omega
def Bd (k:Nat) (l:List Tm):Prop:=∃D N,Fit D N l/\D≠0/\nl D<=k/\nl N<=k
theorem Bd.mono (h:Bd k l)(hk:k<=k'):Bd k' l:=let⟨D,N,h1,c,d,f⟩:=h;⟨D,N,h1,c,Nat.le_trans d hk,Nat.le_trans f hk⟩
theorem Bd.sz (h:Bd k l): ∀t∈l,Sz k t.2:=let⟨D,N,h1,c,d,f⟩:=h;λ t j=>(h1.mem j).sz c d f
theorem Bd.norm (h:Bd k l):Bd k (Ag2 l):=let⟨D,N,h1,c,d,f⟩:=h;⟨D,N,h1.norm,c,d,f⟩
theorem Bd.Co7 (h: ∀t∈l,Sz k t.2):Bd ((k+2)*l.length+1) l:=by
 obtain⟨D,N,h1,c,d,f⟩:=Fit.Co7 h;have:(k+2)*l.length=k*l.length+2*l.length:=Nat.add_mul ..;exact⟨D,N,h1,c,by omega,by omega⟩
theorem Bd.append (h:Bd k a)(c:Bd k' b):Bd (k+k'+1) (a ++ b):=by
 obtain⟨D,N,h1,d,f,j⟩:=h;obtain⟨E,M,g1,g2,g3,g4⟩:=c;have n:=Ae5 D E;have o:=Ae5 N E;have r:=Ae5 M D;have u:=By9 (N*E) (M*D);have:=(h1.scale E).append (show Fit (D*E) (M*D) b by rw[Nat.mul_comm D E];exact g1.scale D);exact⟨D*E,N*E+M*D,this,Nat.mul_ne_zero d g2,by omega,by omega⟩
def An8 (p q:List Tm):List Tm:=p.flatMap λ a=>q.map λ b=>(a.1.add b.1,a.2*b.2)
structure Dp6 (D:Nat) (l:List Tm) (a:Nat) (E:List Tm):Prop where
 tot: ∀m,Aj5 E m=Aj5 l m
 fit:Fit D a E
 len:E.length<=l.length
theorem Dp6.nil (D:Nat):Dp6 D [] 0 []:=⟨λ _=>rfl,trivial,Nat.le_refl _⟩
theorem Fit.take (h:Fit D N l)(j:Nat):Fit D N (l.take j):=by
 induction l generalizing N j with
 | nil=>simp[Fit]
 | cons t r ih=>
  cases j with
  | zero=>trivial
  | succ j=>
   obtain⟨a,b,h1,c,d⟩:=h;exact⟨a,b,h1,c,ih d j⟩
theorem Bd.take (h:Bd k l)(j:Nat):Bd k (l.take j):=let⟨D,N,h1,c,d,f⟩:=h;⟨D,N,h1.take j,c,d,f⟩
end Go.SX
namespace Go.SX
variable {D a g i n0 off:Nat}{E p:List Tm}{M:Nat->Prop}{W W':PW}{b:Bool}{e:MapEntry}{es:Array MapEntry}{l x:List Value}{q:Rat}{s s1:Sl}{t tu:TypeId}{xs:List (List Value)}{α β:Type}
def An5 {α β:Type} (R:α->β->Prop):List α->List β->Prop
 | [],[]=>True
 | a::c,b::d=>R a b/\An5 R c d
 | _,_=>False
theorem An5.len {R:α->β->Prop}: ∀{xs:List α} {p:List β},An5 R xs p->xs.length=p.length
 | [],[],_=>rfl
 | _ :: _,_ :: _,h=>by simp[h.2.len]
 | [],_ :: _,h=>h.elim
 | _ :: _,[],h=>h.elim
theorem An5.mono {R c:α->β->Prop}(d: ∀a b,R a b->c a b): ∀{xs:List α} {p:List β},An5 R xs p->An5 c xs p
 | [],[],_=>trivial
 | _ :: _,_ :: _,h=>⟨d _ _ h.1,h.2.mono d⟩
 | [],_ :: _,h=>h.elim
 | _ :: _,[],h=>h.elim
theorem An5.get {R:α->β->Prop}: ∀{xs:List α} {p:List β},An5 R xs p->∀{i:Nat} {t:β},p[i]?=some t->∃x,xs[i]?=some x/\R x t
 | [],[],_,i,t,h=>by simp at h
 | x :: _,u :: _,h,0,t,c=>by
  simp only[List.getElem?_cons_zero,Option.some.injEq] at c;subst c;exact⟨x,rfl,h.1⟩
 | _ :: _,_ :: _,h,i+1,t,c=>by
  simp only[List.getElem?_cons_succ] at c⊢;exact h.2.get c
 | [],_ :: _,h,_,_,_=>h.elim
 | _ :: _,[],h,_,_,_=>h.elim
theorem An5.Fo1 {R:α->β->Prop}{xs:List α}{p:List β}(h:An5 R xs p){x:α}(c:xs[i]?=some x): ∃t,p[i]?=some t/\R x t:=by
 have hi:i<p.length:=by rw[<-h.len];exact(List.getElem?_eq_some_iff.1 c).1
 obtain⟨y,h1,d⟩:=h.get (List.getElem?_eq_getElem hi);rw[c] at h1;cases h1;exact⟨_,List.getElem?_eq_getElem hi,d⟩
theorem An5.append {R:α->β->Prop}: ∀{xs:List α} {p:List β},An5 R xs p->∀{c:List α} {q:List β},An5 R c q->An5 R (xs ++ c) (p ++ q)
 | [],[],_,_,_,h=>h
 | _ :: _,_ :: _,h,_,_,k=>⟨h.1,h.2.append k⟩
 | [],_ :: _,h,_,_,_=>h.elim
 | _ :: _,[],h,_,_,_=>h.elim
theorem An5.snoc {R:α->β->Prop}{xs:List α}{p:List β}(h:An5 R xs p){x:α}{t:β}(c:R x t):An5 R (xs ++ [x]) (p ++ [t]):=h.append ⟨c,trivial⟩
theorem An5.set {R:α->β->Prop}: ∀{xs:List α} {p:List β},An5 R xs p->∀(i:Nat) {x:α} {t:β},R x t->An5 R (xs.set i x) (p.set i t)
 | [],[],_,_,_,_,_=>trivial
 | _ :: _,_ :: _,h,0,_,_,c=>⟨c,h.2⟩
 | _ :: _,_ :: _,h,i+1,_,_,c=>⟨h.1,h.2.set i c⟩
 | [],_ :: _,h,_,_,_,_=>h.elim
 | _ :: _,[],h,_,_,_,_=>h.elim
theorem An5.perm {R:α->β->Prop}{xs d:List α}(f:xs.Perm d): ∀{p:List β},An5 R xs p->∃q,p.Perm q/\An5 R d q:=by
 induction f with
 | nil=>intro p h;exact⟨p,.refl _,h⟩
 | cons x _ ih=>
  intro p h
  cases p with
  | nil=>exact h.elim
  | cons t p=>obtain⟨q,h1,c⟩:=ih h.2;exact⟨t::q,h1.cons t,h.1,c⟩
 | swap x y l=>
  intro p h
  cases p with
  | nil=>exact h.elim
  | cons t p=>
   cases p with
   | nil=>exact h.2.elim
   | cons u p=>exact⟨u::t::p,.swap ..,h.2.1,h.1,h.2.2⟩
 | trans _ _ j n=>
  intro p h;obtain⟨q,h1,c⟩:=j h;obtain⟨r,o,v⟩:=n c;exact⟨r,h1.trans o,v⟩
@[reducible] def Mon.c (m:Mon):List Value:=[.int .u8 m.x,.int .u8 m.y,.int .u8 m.z]
variable {m:Mon}
@[reducible] def Mon.v (m:Mon):Value:=.agg ⟨[.int .u8 m.x,.int .u8 m.y,.int .u8 m.z]⟩
def PT (tu:TypeId) (W:PW) (x:List Value) (t:Tm):Prop:=t.1.ok/\∃(s:Sl) (b:Bool) (s':Sl),x = [.int .u8 t.1.x,.int .u8 t.1.y,.int .u8 t.1.z,s.v,.bool b,s'.v]/\Ab3 tu W s b s' t.2
theorem PT.ext {t:Tm}(h:PT tu W x t)(c:Ext W W'):PT tu W' x t:=let⟨d,s,b,s',h1,f⟩:=h;⟨d,s,b,s',h1,f.ext c⟩
def Ab0 (tu tt:TypeId) (W:PW) (s:Sl) (p:List Tm):Prop:=∃xs,Row W tt 6 s xs/\An5 (PT tu W) xs p
theorem Ab0.ext {tt:TypeId}(h:Ab0 tu tt W s p)(c:Ext W W'):Ab0 tu tt W' s p:=let⟨xs,h1,d⟩:=h;⟨xs,h1.ext c,d.mono λ _ _ h=>h.ext c⟩
theorem Ab0.n {tt:TypeId}(h:Ab0 tu tt W s p):s.n=p.length:=let⟨xs,h1,c⟩:=h;h1.1.trans c.len
theorem Row.inB {sz:Nat}(h:Row W t sz s xs){i:Int}(c:0<=i)(h1:i<(xs.length:Int)):inB s i:=
 ⟨c,by have:=h.1;omega,Row.some h λ e=>by subst e;simp at h1;omega⟩
theorem Ab0.inB {tt:TypeId}(h:Ab0 tu tt W s p){i:Int}(c:0<=i)(h1:i<(p.length:Int)):SX.inB s i:=let⟨xs,d,f⟩:=h;d.inB c (by rw[f.len];exact h1)
theorem Row.part {sz:Nat}(h:Row W t sz s xs)(hi:xs[i]?=Option.some x)(off:Nat)(d:(x.drop off).take l.length=l):Aa7 W s sz i off l:=by
 refine Row.elem h hi λ j v c=>?_;rw[<-d,List.getElem?_take] at c;split at c
 ·rw[List.getElem?_drop] at c
  exact c
 ·cases c
theorem Ab0.at {tt:TypeId}(h:Ab0 tu tt W s p){t:Tm}(hi:p[i]?=some t):
  t.1.ok/\∃(s1:Sl) (b:Bool) (s2:Sl),Aa7 W s 6 i 0 [.int .u8 t.1.x,.int .u8 t.1.y,.int .u8 t.1.z,s1.v,.bool b,s2.v]/\Aa7 W s 6 i 0 [.int .u8 t.1.x,.int .u8 t.1.y,.int .u8 t.1.z]/\Aa7 W s 6 i 3 [s1.v,.bool b,s2.v]/\Ab3 tu W s1 b s2 t.2:=by
 obtain⟨xs,h1,d⟩:=h;obtain⟨x,c,f,s1,b,s2,rfl,j⟩:=d.get hi;exact⟨f,s1,b,s2,h1.part c 0 rfl,h1.part c 0 rfl,h1.part c 3 rfl,j⟩
theorem Ab0.nil {tt:TypeId}(W:PW):Ab0 tu tt W ⟨none,0,0⟩ []:=⟨[],⟨rfl,Nat.le_refl _,by simp[maxLen],by simp,.inl rfl⟩,trivial⟩
theorem Ab0.ok {tt:TypeId}(h:Ab0 tu tt W s p):POk p:=λ t c=>by
 obtain⟨i,hi⟩:=List.mem_iff_getElem?.1 c;exact(h.at hi).1
theorem Row.map {sz:Nat}{c:Nat}(h : Row W t sz s xs)(f : Au9 (· = g) W W')(j : W.w.heap[g]? = Option.some (.map es c)): Row W' t sz s xs :=
  h.Fi9 f λ b n cs o d => by
    subst n;rw [j] at d;cases d
theorem Ab3.map {s':Sl}{c:Nat}(h:Ab3 tu W s b s' q)(d:Au9 (· = g) W W')(f:W.w.heap[g]?=Option.some (.map es c)):Ab3 tu W' s b s' q:=
 ⟨⟨Row.map h.1.1 d f,h.1.2⟩,Row.map h.2 d f⟩
theorem PT.map {t:Tm}{c:Nat}(h:PT tu W x t)(d:Au9 (· = g) W W')(f:W.w.heap[g]?=Option.some (.map es c)):PT tu W' x t:=
 let⟨j,s,b,s',h1,n⟩:=h;⟨j,s,b,s',h1,n.map d f⟩
theorem Ab0.map {tt:TypeId}{c:Nat}(h:Ab0 tu tt W s p)(d:Au9 (· = g) W W')(f:W.w.heap[g]?=Option.some (.map es c)):Ab0 tu tt W' s p:=
 let⟨xs,h1,j⟩:=h;⟨xs,h1.map d f,j.mono λ _ _ h=>h.map d f⟩
def ME (tu:TypeId) (W:PW) (e:MapEntry) (t:Tm):Prop:=t.1.ok/\e.key=t.1.v/\∃(s:Sl) (b:Bool) (s':Sl),e.val = .agg ⟨[s.v,.bool b,s'.v]⟩/\Ab3 tu W s b s' t.2
theorem ME.ext {t:Tm}(h:ME tu W e t)(c:Ext W W'):ME tu W' e t:=let⟨d,hk,s,b,s',h1,f⟩:=h;⟨d,hk,s,b,s',h1,f.ext c⟩
theorem ME.map {t:Tm}{c:Nat}(h:ME tu W e t)(d:Au9 (· = g) W W')(f:W.w.heap[g]?=some (.map es c)):ME tu W' e t:=let⟨j,hk,s,b,s',h1,n⟩:=h;⟨j,hk,s,b,s',h1,n.map d f⟩
structure Ai4 (tu:TypeId) (W:PW) (g:Nat) (es:Array MapEntry) (c:Nat) (E:List Tm):Prop where
 pub:¬W.S g
 heap:W.w.heap[g]?=some (.map es c)
 all:An5 (ME tu W) es.toList E
 nd:(E.map (·.1)).Nodup
 born:(es.toList.map (·.born)).Nodup
 lt: ∀e∈es.toList,e.born<c
theorem Ai4.ext {c:Nat}(h:Ai4 tu W g es c E)(d:Ext W W'):Ai4 tu W' g es c E:=
 let k:=d.Ai1 g (Array.getElem?_eq_some_iff.1 h.heap).1 h.pub
 ⟨k.2,k.1.trans h.heap,h.all.mono λ _ _ h=>h.ext d,h.nd,h.born,h.lt⟩
theorem Mon.Ck0 {a b:Mon}(h:a.v=b.v):a=b:=by
 simp only[Mon.v,Value.agg.injEq,Array.mk.injEq,List.cons.injEq,Value.int.injEq,true_and,and_true] at h;exact Mon.Fp2 h.1 h.2.1 h.2.2
structure Du7 (E:List Tm) (t:Tm) (E':List Tm):Prop where
 tot: ∀m,Aj5 E' m=Aj5 E m+(if t.1=m then t.2 else 0)
 fit: ∀D N n,Fit D N E->Ak3 D n t.2->Fit D (N+n) E'
 len:E'.length<=E.length+1
theorem Fb9 {c:Rat}(h:E[i]?=some (m,q))(m':Mon):Aj5 (E.set i (m,q+c)) m'=Aj5 E m'+(if m=m' then c else 0):=by
 induction E generalizing i with
 | nil=>simp at h
 | cons e r ih=>
  cases i with
  | zero=>
   simp only[List.getElem?_cons_zero,Option.some.injEq] at h;subst h;simp only[List.set_cons_zero,Aj5];grind
  | succ i=>
   simp only[List.getElem?_cons_succ] at h;simp only[List.set_cons_succ,Aj5,ih h];grind
theorem Fit.Fv6 {N:Nat}{n:Nat}{c:Rat}(h:Fit D N E)(hi:E[i]?=some (m,q))(j:Ak3 D n c):Fit D (N+n) (E.set i (m,q+c)):=by
 induction E generalizing i N with
 | nil=>simp at hi
 | cons e r ih=>
  obtain⟨a,b,h1,d,f⟩:=h
  cases i with
  | zero=>
   simp only[List.getElem?_cons_zero,Option.some.injEq] at hi;subst hi;exact⟨a+n,b,by omega,d.add j,f⟩
  | succ i=>
   simp only[List.getElem?_cons_succ] at hi;exact⟨a,b+n,by omega,d,ih f hi⟩
theorem Ei3 {c:Rat}(h:E[i]?=some (m,q)):Du7 E (m,c) (E.set i (m,q+c)):=
 ⟨λ m'=>Fb9 h m',λ D N n hF d=>hF.Fv6 h d,by simp⟩
theorem Du2 (E:List Tm)(m:Mon)(c:Rat):Du7 E (m,c) (E ++ [(m,c)]):=
 ⟨λ m'=>by rw[Au2];simp only[Aj5];grind,λ D N n hF d=>hF.append ⟨n,0,by omega,d,trivial⟩,by simp⟩
theorem Dk2 {c:Rat}(h:E[i]?=some (m,q)):(E.set i (m,c)).map (·.1)=E.map (·.1):=by
 rw[List.map_set];refine List.ext_getElem? λ j=>?_;rw[List.getElem?_set];split
 ·rename_i e
  subst e;split
  ·simp[h]
  ·rename_i d
   rw[List.getElem?_eq_none (by omega)]
 ·rfl
def At5 (sn:Array Nat):List MapEntry->List Tm->List Tm
 | e::es,t::E=>if sn.contains e.born then At5 sn es E else t::At5 sn es E
 | _,_=>[]
theorem Bw6: ∀{es:List MapEntry} {E:List Tm},es.length=E.length->At5 #[] es E=E
 | [],[],_=>rfl
 | e::es,t::E,h=>by
  rw[At5,if_neg (by simp),Bw6 (by simpa using h)]
 | [],_ :: _,h=>by simp at h
 | _ :: _,[],h=>by simp at h
theorem Cp2 {sn:Array Nat}: ∀{es:List MapEntry} {E:List Tm},(∀e∈es,sn.contains e.born=true)->At5 sn es E = []
 | [],[],_=>rfl
 | e::es,t::E,h=>by
  rw[At5,if_pos (h e (by simp)),Cp2 λ x c=>h x (by simp[c])]
 | [],_ :: _,h=>rfl
 | _ :: _,[],h=>rfl
theorem Bu7 {sn:Array Nat}{b:Nat}: ∀{es:List MapEntry} {E:List Tm},(∀e∈es,e.born≠b)->At5 (sn.push b) es E=At5 sn es E
 | [],[],_=>rfl
 | e::es,t::E,h=>by
  have c:=h e (by simp);have:=Bu7 (sn:=sn) (es:=es) (E:=E) λ x d=>h x (by simp[d]);simp only[At5,this];have f:(sn.push b).contains e.born=sn.contains e.born:=by
   rw[Array.contains_push];simp[c]
  rw[f]
 | [],_ :: _,h=>rfl
 | _ :: _,[],h=>rfl
theorem Ce4 {sn:Array Nat}: ∀{es:List MapEntry} {E:List Tm} {i:Nat} {e:MapEntry} {t:Tm},(es.map (·.born)).Nodup->es[i]?=some e->E[i]?=some t->sn.contains e.born=false->(At5 sn es E).Perm (t::At5 (sn.push e.born) es E)
 | [],_,i,e,t,_,h,_,_=>by simp at h
 | _ :: _,[],i,e,t,_,_,h,_=>by simp at h
 | x::es,u::E,0,e,t,c,h1,d,f=>by
  simp only[List.getElem?_cons_zero,Option.some.injEq] at h1 d;subst h1;subst d;simp only[List.map_cons,List.nodup_cons,List.mem_map,not_exists,not_and] at c;have:=Bu7 (sn:=sn) (b:=x.born) (es:=es) (E:=E) λ y j he=>c.1 y j he;simp only[At5,f,this];simp
 | x::es,u::E,i+1,e,t,c,h1,d,f=>by
  simp only[List.getElem?_cons_succ] at h1 d;simp only[List.map_cons,List.nodup_cons,List.mem_map,not_exists,not_and] at c;have ih:=Ce4 c.2 h1 d f;have n:x.born≠e.born:=λ he=>c.1 e (List.mem_of_getElem? h1) he.symm;have o:(sn.push e.born).contains x.born=sn.contains x.born:=by
   rw[Array.contains_push];simp[n]
  simp only[At5,o];split
  ·exact ih
  ·exact(ih.cons u).trans (.swap ..)
theorem Dp6.add {E':List Tm}{n:Nat}{l:List Tm}{t:Tm}(h:Dp6 D l a E)(c:Du7 E t E')(d:Ak3 D n t.2):Dp6 D (l ++ [t]) (a+n) E':=
 ⟨λ m=>by rw[c.tot,h.tot,Au2];simp only[Aj5,Rat.add_zero],c.fit _ _ _ h.fit d,by have:=c.len;have:=h.len;simp;omega⟩
theorem Dp6.norm {l:List Tm}(h:Dp6 D l a E):Ag2 E=Ag2 l:=Bc1 h.tot
theorem Ai4.new (c:¬W.S g)(d:W.w.heap[g]?=some (.map #[] 0)):Ai4 tu W g #[] 0 []:=⟨c,d,trivial,List.nodup_nil,List.nodup_nil,by simp⟩
theorem PT.new {t:Tm}(h : PT tu W x t)(c : Eo1 n0 W W')(d : W.w.heap.size <= n0): PT tu W' x t := let ⟨f, s, b, s', h1, j⟩ := h; ⟨f, s, b, s', h1, j.new c d⟩
theorem Ab0.new {tt:TypeId}(h:Ab0 tu tt W s p)(c:Eo1 n0 W W')(d:W.w.heap.size<=n0):Ab0 tu tt W' s p:=let⟨xs,h1,f⟩:=h;⟨xs,h1.new c d,f.mono λ _ _ h=>h.new c d⟩
theorem Row.own {f:Nat}{j:List (List Value)}{tt:TypeId}{sz:Nat}(hO:Own W tt sz s xs)(o:Au9 (λ g=>s.v.ownBlock=Option.some g) W W')(r:tu≠tt)(h:Row W tu f s1 j):Row W' tu f s1 j:=
 h.Fi9 o λ b c cs v u=>by
  rcases hO.1.2.2 with⟨d,_⟩ | ⟨g,cap,cur,d,_,n,_⟩
  ·rw[d] at c
   simp[Value.ownBlock] at c
  ·have:s.v.ownBlock=Option.some g:=by rw[d];rfl
   rw[c] at this;cases this;rw[u] at n;cases n;exact absurd rfl r
theorem Ab3.own {s2:Sl}{tt:TypeId}{sz:Nat}(hO:Own W tt sz s xs)(c:Au9 (λ g=>s.v.ownBlock=Option.some g) W W')(d:tu≠tt)(h:Ab3 tu W s1 b s2 q):Ab3 tu W' s1 b s2 q:=
 ⟨⟨Row.own hO c d h.1.1,h.1.2⟩,Row.own hO c d h.2⟩
theorem PT.own {tt:TypeId}{sz:Nat}{t:Tm}(hO:Own W tt sz s xs)(c:Au9 (λ g=>s.v.ownBlock=Option.some g) W W')(d:tu≠tt)(h:PT tu W x t):PT tu W' x t:=
 let⟨f,s,b,s',h1,j⟩:=h;⟨f,s,b,s',h1,j.own hO c d⟩
theorem PT.wr {tt:TypeId}{t:Tm}(h:PT tu W x t)(hw:Wr tt g W W')(c:tu≠tt):PT tu W' x t:=let⟨d,s,b,s',h1,f⟩:=h;⟨d,s,b,s',h1,hw.rat f c⟩
theorem Eq6 {cs:List Value}{p:Nat}(f: ∀i v,x[i]?=some v->cs[p+i]?=some v)(j:off+l.length<=x.length):Aj6 cs (p+off) l=Aj6 cs p (x.take off ++ l ++ x.drop (off+l.length)):=by
 apply List.ext_getElem?;intro k;rw[Ap0,Ap0];have hlen:(x.take off ++ l ++ x.drop (off+l.length)).length=x.length:=by simp;omega
 rw[hlen]
 by_cases h1:p+off<=k/\k<p+off+l.length/\k<cs.length
 ·rw[if_pos h1,if_pos (by omega)]
  rw[List.getElem?_append_left (by simp;omega),List.getElem?_append_right (by simp;omega)];congr 1;simp;omega
 ·rw[if_neg h1]
  by_cases c:p<=k/\k<p+x.length/\k<cs.length
  ·rw[if_pos c]
   have d:=f (k-p) _ (List.getElem?_eq_getElem (by omega));rw[show p+(k-p)=k by omega] at d;rw[d]
   by_cases h:k-p<off
   ·rw[List.append_assoc,List.getElem?_append_left (by simp;omega),List.getElem?_take,if_pos h,List.getElem?_eq_getElem (by omega)]
   ·rw[List.getElem?_append_right (by simp;omega),List.getElem?_drop]
    have e:off+l.length+(k-p-(x.take off ++ l).length)=k-p:=by simp;omega
    rw[e,List.getElem?_eq_getElem (by omega)]
  ·rw[if_neg c]
theorem Dm0 {W0:PW}{j:Nat}{K:PW->Prop}{sz:Nat}(h:Own W t sz s xs)(d:xs[j]?=some x)(Q:off+l.length<=sz)(C: ∀u∈l,u.oneCell'=true)(F: ∀g,s.v.ownBlock=some g->may W0 M g)(G: ∀(c:PW) (g:Nat),s.v.ownBlock=some g->Wr t g W c->Own c t sz s (xs.set j (x.take off ++ l ++ x.drop (off+l.length)))->K c):An9 W0 M s (j*sz+off) l W K:=by
 intro W' n;have H:=(List.getElem?_eq_some_iff.1 d).1;have r:=List.mem_of_getElem? d;have R:x.length=sz:=(h.1.1 x r).1;have w:=(h.1.1 x r).2;obtain⟨g,o,cs,I,y,J,z,L,O,hk⟩:=Ao7 (l:=x.take off ++ l ++ x.drop (off+l.length)) h H (by simp;omega) (λ u hu=>by
  rcases List.mem_append.1 hu with hu | hu
  ·rcases List.mem_append.1 hu with hu | hu
   ·exact w u (List.mem_of_mem_take hu)
   ·exact C u hu
  ·exact w u (List.mem_of_mem_drop hu)) F G W' n
 have hlen:(x.take off ++ l ++ x.drop (off+l.length)).length=sz:=by simp;omega
 rw[hlen] at L;obtain⟨b',o',S,U,V,A,_,B,P⟩:=(h.ext n).row.part d 0 (l:=x) (by simp);rw[y] at A;cases A;rw[z] at B;cases B;refine⟨g,o,cs,I,y,J,z,by omega,O,λ c f=>hk c ⟨f.ext,f.S,?_⟩⟩;have e:=Eq6 (cs:=cs.toList) (x:=x) (l:=l) (p:=o+(j*sz+0)) (off:=off) (λ i v hi=>by
  have:=P i v hi;rw[Array.getElem?_toList];exact this) (by omega)
 rw[<-e,show o+(j*sz+0)+off=o+(j*sz+off) by omega];exact f.heap
theorem Am7.Fr9 {w':World}{w:World}(h:Am7 M w.drew w'):Am7 M w w':=⟨h.os,h.tape,h.output,h.size,h.block,Nat.le_trans (Nat.le_succ _) h.drawn⟩
def Ch2 (tu tt:TypeId) (W:PW) (s:Sl) (p:List Tm):Prop:=∃xs,Own W tt 6 s xs/\An5 (PT tu W) xs p
theorem Ch2.Ft4 {tt:TypeId}(h:Ch2 tu tt W s p):Ab0 tu tt W s p:=let⟨xs,h1,c⟩:=h;⟨xs,h1.row,c⟩
theorem Ch2.ext {tt:TypeId}(h:Ch2 tu tt W s p)(c:Ext W W'):Ch2 tu tt W' s p:=let⟨xs,h1,d⟩:=h;⟨xs,h1.ext c,d.mono λ _ _ h=>h.ext c⟩
end Go.SX
namespace Go.SX
open Go Go.Sort Go.Proofs Go.Shelf Go.RowKit Go.Lib
variable {W:PW}{g k:Nat}{s:Sl}{t:TypeId}
theorem Cw5 {w':World}{w:World}(h:Am7 (λ _=>False) w w'): ∃q c,w'=grow (w.drewN q) c:=by
 refine⟨w'.drawn-w.drawn,w'.heap.extract w.heap.size w'.heap.size,?_⟩;obtain⟨h1,d,f,r,j,u⟩:=h;have n:w'.heap=w.heap ++ w'.heap.extract w.heap.size w'.heap.size:=by
  apply Array.ext_getElem?;intro i;rw[Array.getElem?_append];split
  ·rename_i hi
   exact j i hi id
  ·rename_i hi
   rw[Array.getElem?_extract]
   by_cases v:i<w'.heap.size
   ·rw[if_pos (by omega),show w.heap.size+(i-w.heap.size)=i by omega]
   ·rw[if_neg (by omega),Array.getElem?_eq_none (by omega)]
 have o:w'.drawn=w.drawn+(w'.drawn-w.drawn):=by omega
 cases w;cases w';simp only[grow,World.drewN] at *;subst h1;subst d;subst f;simp only[World.mk.injEq,true_and,and_true];exact⟨n,o⟩
variable {α:Type} [Inhabited α]
theorem Dp5 {j:Nat}(enc:α->List Value)(hk: ∀x,(enc x).length=k)(d:Array α)(c:j<d.size*k):(d.toList.map enc).flatten[j]?=some (flatK enc k d)[j]!:=by
 have n:0<k:=by
  rcases Nat.eq_zero_or_pos k with h | h
  ·subst h;simp at c
  ·exact h
 have hi:j/k<d.size:=(Nat.div_lt_iff_lt_mul n).2 c;have e:j/k*k+j%k=j:=by rw[Nat.mul_comm];exact Nat.div_add_mod j k
 have hm:j%k<k:=Nat.mod_lt _ n;rw[get_flatK _ _ _ _ c];have f:(d.toList.map enc)[j/k]?=some (enc d[j/k]!):=by
  rw[List.getElem?_map,Array.getElem?_toList,Array.getElem?_eq_getElem hi,getElem!_pos d _ hi];rfl
 have:=Ao8 (sz:=k) (xs:=d.toList.map enc) (λ x f=>by obtain⟨y,_,rfl⟩:=List.mem_map.1 f;exact hk y) f (j:=j%k) (v:=(enc d[j/k]!)[j%k]!) (by
  have o:=hk d[j/k]!;generalize enc d[j/k]! = r at o⊢;rw[List.getElem?_eq_getElem (by omega),getElem!_pos r _ (by omega)])
 rw[e] at this;exact this
theorem Do7 {β:Type}(enc:β->List Value)(hk: ∀x,(enc x).length=k)(d:Array β):(d.toList.map enc).flatten.length=d.size*k:=by
 rw[Ac0 (sz:=k) λ x c=>by obtain⟨y,_,rfl⟩:=List.mem_map.1 c;exact hk y];simp
theorem Eh6 (enc:α->List Value)(hk: ∀x,(enc x).length=k)(d:Array α)(hO:Own W t k s (d.toList.map enc))(u:d.size≠0):
  ∃g cur,s.A=some ⟨g,0,none⟩/\s.v.ownBlock=some g/\¬W.S g/\W.w.heap[g]?=some (.cells cur t (0,0))/\d.size*k<=cur.size/\HoldsK enc k W.w g 0 d:=by
 obtain⟨⟨C,hlen,v⟩,w⟩:=hO;rcases v with⟨_,h⟩ | ⟨g,cap,cur,y,_,c,h1,F,z,A⟩
 ·simp at h;exact absurd (by simp[h]) u
 ·have n:s.A=some ⟨g,0,none⟩/\s.n=d.size/\s.c=cap:=by simpa[Sl.v] using y
  have o:s.v.ownBlock=some g:=by simp[Sl.v,Value.ownBlock,n.1]
  have hle:d.size*k<=cur.size:=by
   rw[z];refine Nat.mul_le_mul_right k ?_
   simpa using h1
  refine⟨g,cur,n.1,o,w g o,c,hle,λ j f=>?_⟩;rw[size_flatK] at f;have r:=Dp5 enc hk d f;have B:(d.toList.map enc).length=d.size:=by simp
  rw[<-A,B,List.getElem?_take,if_pos f,Array.getElem?_toList] at r;refine⟨?_,?_⟩
  ·simp only[World.cell?,c,Nat.zero_add]
   simpa using r
  ·simp[World.frozen?,c]
theorem Az2 {cur:Array Value}{f:Nat×Nat}{w:World}(enc:α->List Value)(h:w.heap[g]?=some (.cells cur t f))(n:Nat)(d:Array α)(os:Array Obj):
  (sortWorldK enc k w g 0 n d os).heap[g]?=some (.cells (putCells id 0 (flatK enc k d) cur) t f)/\Am7 (λ b=>b=g) w (sortWorldK enc k w g 0 n d os):=by
 have o:=(Array.getElem?_eq_some_iff.1 h).1;have j: ∀b,b<w.heap.size->(sortWorldK enc k w g 0 n d os).heap[b]?=(w.heap.modify g (onCells (putCells id 0 (flatK enc k d))))[b]?:=by
  intro b c;show((w.heap.modify g (onCells (putCells id 0 (flatK enc k d)))) ++ os)[b]?=_;rw[Array.getElem?_append,if_pos (by simpa using c)]
 refine⟨?_,rfl,rfl,rfl,?_,λ b c r=>?_,?_⟩
 ·rw[j g o,Array.getElem?_modify,if_pos rfl,h]
  rfl
 ·show w.heap.size<=((w.heap.modify g (onCells (putCells id 0 (flatK enc k d)))) ++ os).size
  simp
 ·rw[j b c,Array.getElem?_modify,if_neg (λ e=>r e.symm)]
 ·show w.drawn<=w.drawn+n
  omega
theorem Et6 (enc:α->List Value)(hk: ∀x,(enc x).length=k)(h1: ∀x,∀v∈enc x,v.oneCell'=true){d c:Array α}(hO:Own W t k s (d.toList.map enc))(A:d.size≠0)(f:c.size=d.size)(B:s.v.ownBlock=some g)(n:Nat)(os:Array Obj):
  Own ⟨sortWorldK enc k W.w g 0 n c os,W.S⟩ t k s (c.toList.map enc):=by
 obtain⟨⟨Q,hlen,C⟩,F⟩:=hO;refine⟨⟨λ x G=>?_,?_,?_⟩,F⟩
 ·obtain⟨y,_,rfl⟩:=List.mem_map.1 G
  exact⟨hk y,h1 y⟩
 ·rw[Do7 enc hk,f];simp[f]
 ·rcases C with⟨_,u⟩ | ⟨H,cap,cur,h,I,J,o,K,w,L⟩
  ·simp at u;exact absurd (by simp[u]) A
  ·have z:s.v.ownBlock=some H:=by rw[h];rfl
   rw[B] at z;cases z;have O:(d.toList.map enc).length=d.size:=by simp
   have P:(c.toList.map enc).length=d.size:=by simp[f]
   rw[O] at h o L;rw[P];refine .inr ⟨g,cap,_,h,I,(Az2 enc J n c os).1,o,K,by simp[putCells,w],?_⟩;have hle:d.size*k<=cur.size:=by rw[w];exact Nat.mul_le_mul_right k o
   apply List.ext_getElem?;intro j;rw[List.getElem?_take];split
   ·rename_i r
    rw[Dp5 enc hk c (by rw[f];exact r),Array.getElem?_toList,putCells,Array.getElem?_mapIdx,Array.getElem?_eq_getElem (by omega)];simp[f,r]
   ·rename_i r
    rw[List.getElem?_eq_none];rw[Do7 enc hk,f];omega
theorem Dh2 {d c:Array α}(h:PermIn 0 d.size d c):c.size=d.size/\c.toList.Perm d.toList:=by
 obtain⟨h1,_,f⟩:=h;refine⟨h1,?_⟩;rw[Array.extract_size] at f
 rwa [<-h1,Array.extract_size] at f
theorem Ch4 {lt:α->α->Bool}{n:Nat}{d:Array α}(h:SortedIn lt 0 n d)(o:d.size=n):d.toList.Pairwise λ a b=>lt b a=false:=by
 rw[List.pairwise_iff_getElem];intro i j hi c f;simp only[Array.length_toList] at hi c;have:=h i j (Nat.zero_le _) f (by omega);rw[getElem!_pos d _ c,getElem!_pos d _ hi] at this
 simpa using this
end Go.SX
