/- Polynomials in their text's form: terms rising, no coefficient 0. -/
import Derived.Test.YtjgpenfndnhdnaaGreatLib2
import Derived.Test.YtjgpenfndnhdnaaGreatLib3
import Derived.Test.YtjgpenfndnhdnaaGreatLib1
set_option linter.unusedVariables false
set_option linter.unusedSimpArgs false
set_option linter.unusedVariables false
namespace Go.SX
end Go.SX

/- Sums and products of polynomials: laws. -/
set_option linter.unusedVariables false
namespace Go.SX
def lin (G:Mon→Rat):List Tm→Rat
 | []=>0
 | t :: r=>t.2*G t.1+lin G r
theorem lin_append (G:Mon→Rat) (a b:List Tm):lin G (a ++ b)=lin G a+lin G b:=by
 induction a with
 | nil=>simp[lin,Rat.zero_add]
 | cons t r ih=>simp only[List.cons_append,lin,ih,Rat.add_assoc]
theorem lin_pput (G:Mon→Rat) (p:List Tm) (t:Tm):lin G (pput p t)=lin G p+t.2*G t.1:=by
 induction p with
 | nil=>
  unfold pput
  split
  ·rename_i h
   simp only[lin,h]
   grind
  ·simp only[lin]
   grind
 | cons e r ih=>
  unfold pput
  split
  ·simp only[lin,ih]
   grind
  ·split
   ·rename_i h1 h2
    split
    ·rename_i h3
     simp only[lin,h2]
     grind
    ·simp only[lin,h2]
     grind
   ·split
    ·rename_i h3
     simp only[lin,h3]
     grind
    ·simp only[lin]
     grind
theorem lin_foldl (G:Mon→Rat) (l p:List Tm):lin G (l.foldl pput p)=lin G p+lin G l:=by
 induction l generalizing p with
 | nil=>simp[lin,Rat.add_zero]
 | cons t r ih=>rw[List.foldl_cons,ih,lin_pput,lin,Rat.add_assoc]
theorem lin_pnorm (G:Mon→Rat) (l:List Tm):lin G (pnorm l)=lin G l:=by
 rw[pnorm,lin_foldl]
 simp[lin,Rat.zero_add]
end Go.SX

/- How great the numbers of short texts are. -/
set_option linter.unusedVariables false
namespace Go.SX
end Go.SX

/- Rows of polynomials. -/
set_option linter.unusedVariables false
namespace Go.SX
def PolyX (tu tt:TypeId) (W:PW) (x:List Value) (p:List Tm):Prop:=∃s:Sl,x = [s.v]∧IsPoly tu tt W s p
theorem PolyX.ext {tu tt:TypeId} {W W':PW} {x:List Value} {p:List Tm} (h:PolyX tu tt W x p) (hE:Ext W W'):PolyX tu tt W' x p:=let⟨s,e,h⟩:=h;⟨s,e,h.ext hE⟩
def IsPolys (tu tt:TypeId) (W:PW) (s:Sl) (ps:List (List Tm)):Prop:=∃xs,RowA W 1 s xs∧All2 (PolyX tu tt W) xs ps
theorem IsPolys.ext {tu tt:TypeId} {W W':PW} {s:Sl} {ps:List (List Tm)} (h:IsPolys tu tt W s ps) (hE:Ext W W'):IsPolys tu tt W' s ps:=let⟨xs,h1,h2⟩:=h;⟨xs,h1.ext hE,h2.mono fun _ _ h=>h.ext hE⟩
theorem IsPolys.n {tu tt:TypeId} {W:PW} {s:Sl} {ps:List (List Tm)} (h:IsPolys tu tt W s ps):s.n=ps.length:=let⟨xs,⟨_,h1⟩,h2⟩:=h;h1.1.trans h2.len
theorem IsPolys.inB {tu tt:TypeId} {W:PW} {s:Sl} {ps:List (List Tm)} (h:IsPolys tu tt W s ps) {i:Int} (h0:0≤i) (h1:i<(ps.length:Int)):SX.inB s i:=let⟨xs,⟨_,h2⟩,h3⟩:=h;h2.inB h0 (by rw[h3.len];exact h1)
theorem IsPolys.at {tu tt:TypeId} {W:PW} {s:Sl} {ps:List (List Tm)} (h:IsPolys tu tt W s ps) {i:Nat} (hi:i<ps.length): ∃x:Sl,ElemAt W s 1 i 0 [x.v]∧IsPoly tu tt W x ps[i]:=by
 obtain⟨xs,⟨_,h1⟩,h2⟩:=h
 obtain⟨x,hx,y,rfl,hp⟩:=h2.get (List.getElem?_eq_getElem hi)
 exact⟨y,h1.part hx 0 rfl,hp⟩
end Go.SX

/- A polynomial in normal form has no more terms than there are monomials. -/
set_option linter.unusedVariables false
namespace Go.SX
def Mon.code (m:Mon):Nat:=(m.x*65536+m.y*256+m.z).toNat
theorem Mon.code_lt {m:Mon} (h:m.ok):m.code<16777216:=by unfold Mon.code;unfold Mon.ok at h;omega
theorem Mon.code_inj {a b:Mon} (ha:a.ok) (hb:b.ok) (h:a.code=b.code):a=b:=by
 unfold Mon.code at h
 unfold Mon.ok at ha hb
 exact Mon.ext3 (by omega) (by omega) (by omega)
theorem nodup_bound: ∀{n:Nat} {l:List Nat} (_:l.Nodup) (_: ∀x∈l,x<n),l.length≤n
 | 0,l,_,h=>by
  cases l with
  | nil=>exact Nat.le_refl _
  | cons x r=>exact absurd (h x (by simp)) (Nat.not_lt_zero x)
 | n+1,l,hn,h=>by
  have h1:=nodup_bound (n:=n) (l:=l.filter fun x=>x != n) (hn.sublist List.filter_sublist) fun x hx=>by
   obtain⟨a,b⟩:=List.mem_filter.1 hx
   have:=h x a
   simp at b
   omega
  have h2:l.length≤(l.filter fun x=>x != n).length+1:=by
   clear h1 h
   induction l with
   | nil=>simp
   | cons y r ih=>
    rw[List.nodup_cons] at hn
    by_cases e:y=n
    ·subst e
     have:(r.filter fun x=>x != y)=r:=List.filter_eq_self.2 fun x hx=>by
      have:x≠y:=fun e=>hn.1 (e ▸ hx)
      simpa using this
     simp[this]
    ·have:=ih hn.2
     simp[e]
     omega
  omega
theorem PGood.len {p:List Tm} (h:PGood p) (ho:POk p):p.length≤16777216:=by
 have h1:(p.map fun t=>t.1.code).Nodup:=by
  have:p.Pairwise fun a b=>a.1.code≠b.1.code:=by
   refine List.Pairwise.imp_of_mem ?_ h.srt
   intro a b ha hb hlt e
   exact Mon.lt_ne hlt (Mon.code_inj (ho a ha) (ho b hb) e)
  exact List.pairwise_map.2 this
 have:=nodup_bound h1 fun x hx=>by
  obtain⟨t,ht,rfl⟩:=List.mem_map.1 hx
  exact Mon.code_lt (ho t ht)
 simpa using this
end Go.SX

/- Where no part of a matrix is below 0, no form is. -/
set_option linter.unusedVariables false
namespace Go.SX
theorem lsum_add (f g:Nat→Rat) (n:Nat):lsum (fun j=>f j+g j) n=lsum f n+lsum g n:=by
 induction n with
 | zero=>simp[lsum,Rat.add_zero]
 | succ n ih=>simp only[lsum,ih];grind
theorem lsum_mul (c:Rat) (f:Nat→Rat) (n:Nat):lsum (fun j=>c*f j) n=c*lsum f n:=by
 induction n with
 | zero=>simp[lsum,Rat.mul_zero]
 | succ n ih=>simp only[lsum,ih];grind
theorem lsum_nought (n:Nat):lsum (fun _=>0) n=0:=lsum_zero fun _ _=>rfl
theorem lsum_swap (f:Nat→Nat→Rat) (n m:Nat):lsum (fun i=>lsum (f i) m) n=lsum (fun j=>lsum (fun i=>f i j) n) m:=by
 induction n with
 | zero=>simp only[lsum];rw[lsum_nought]
 | succ n ih=>simp only[lsum,ih];rw[lsum_add]
theorem lsum_nn {f:Nat→Rat} : ∀{n:Nat} (_: ∀j,j<n→0≤f j),0≤lsum f n
 | 0,_=>Rat.le_refl
 | n+1,h=>by
  simp only[lsum]
  exact Rat.add_nonneg (lsum_nn fun j hj=>h j (by omega)) (h n (by omega))
theorem sq_nn (x:Rat):0≤x*x:=by
 rcases Rat.le_total (a:=0) (b:=x) with h | h
 ·exact Rat.mul_nonneg h h
 ·have h':0≤-x:=by grind
  have:=Rat.mul_nonneg h' h'
  grind
def quad (m:Nat→Nat→Rat) (x:Nat→Rat) (n:Nat):Rat:=lsum (fun i=>lsum (fun k=>m i k*(x i*x k)) n) n
theorem Parts.quad {m L:Nat→Nat→Rat} {d:Nat→Rat} {n:Nat} (h:Parts m L d n n) (hs: ∀i k,i<n→k<n→m i k=m k i) (x:Nat→Rat):SX.quad m x n=lsum (fun j=>d j*(lsum (fun i=>L i j*x i) n*lsum (fun i=>L i j*x i) n)) n:=by
 have e1:SX.quad m x n=lsum (fun i=>lsum (fun k=>lsum (fun j=>L i j*d j*L k j*(x i*x k)) n) n) n:=lsum_congr fun i hi=>lsum_congr fun k hk=>by
  rw[←h.back hs hi hk,Rat.mul_comm,←lsum_mul]
  exact lsum_congr fun j _=>by rw[Rat.mul_comm]
 have e2: ∀i,lsum (fun k=>lsum (fun j=>L i j*d j*L k j*(x i*x k)) n) n=lsum (fun j=>L i j*x i*(d j*lsum (fun k=>L k j*x k) n)) n:=fun i=>by
  rw[lsum_swap]
  refine lsum_congr fun j _=>?_
  rw[←Rat.mul_assoc,←lsum_mul]
  exact lsum_congr fun k _=>by grind
 rw[e1]
 simp only[e2]
 rw[lsum_swap]
 refine lsum_congr fun j _=>?_
 have e3:(fun i=>L i j*x i*(d j*lsum (fun k=>L k j*x k) n))=fun i=>(d j*lsum (fun k=>L k j*x k) n)*(L i j*x i):=by
  funext i
  rw[Rat.mul_comm]
 rw[e3,lsum_mul,Rat.mul_assoc]
theorem Parts.psd {m L:Nat→Nat→Rat} {d:Nat→Rat} {n:Nat} (h:Parts m L d n n) (hs: ∀i k,i<n→k<n→m i k=m k i) (hd: ∀k,k<n→0≤d k) (x:Nat→Rat):0≤SX.quad m x n:=by
 rw[h.quad hs]
 exact lsum_nn fun j hj=>Rat.mul_nonneg (hd j hj) (sq_nn _)
end Go.SX
