/- Polynomials in their text's form: terms rising, no coefficient 0. -/
import Derived.Test.YtjkkidjbppphpaaGreatDoorLib2
import Derived.Test.YtjkkidjbppphpaaGreatDoorLib3
import Derived.Test.YtjkkidjbppphpaaGreatDoorSx1
import Derived.Test.YtjkkidjbppphpaaGreatDoorLib1
import Derived.JoinedCond
set_option linter.unusedVariables false
set_option linter.unusedSimpArgs false
namespace Go.SX
def Fg3 (t:Mon×ByteArray) (u:Tm):Prop:=u.1=t.1∧Ab7 t.2=some u.2∧u.2≠0
def Af1 (L:List (Mon×ByteArray)) (p:List Tm):Prop:=An5 Fg3 L p∧p.Pairwise fun a b=>a.1.lt b.1
theorem Af1.nil:Af1 [] []:=⟨trivial,List.Pairwise.nil⟩
theorem Fa5 {α β:Type} {R:α→β→Prop} {xs:List α} {p:List β} (h:An5 R xs p) {t:β} (ht:t∈p): ∃x∈xs,R x t:=by
 obtain⟨i,hi⟩:=List.mem_iff_getElem?.1 ht
 obtain⟨x,hx,hr⟩:=h.get hi
 exact⟨x,List.mem_of_getElem? hx,hr⟩
theorem Af1.Aq3 {L:List (Mon×ByteArray)} {p:List Tm} (h:Af1 L p):Av6 p:=⟨h.2,fun t ht=>let⟨_,_,_,_,h⟩:=Fa5 h.1 ht;h⟩
theorem Af1.len {L:List (Mon×ByteArray)} {p:List Tm} (h:Af1 L p):L.length=p.length:=h.1.len
theorem Ea4 {L:List (Mon×ByteArray)} : ∀{p q:List Tm},An5 Fg3 L p→An5 Fg3 L q→p=q:=by
 induction L with
 | nil=>
  intro p q h k
  cases p with
  | nil=>
   cases q with
   | nil=>rfl
   | cons _ _=>exact k.elim
  | cons _ _=>exact h.elim
 | cons t L ih=>
  intro p q h k
  cases p with
  | nil=>exact h.elim
  | cons u p=>
   cases q with
   | nil=>exact k.elim
   | cons v q=>
    obtain⟨⟨h1,h2,_⟩,h4⟩:=h
    obtain⟨⟨k1,k2,_⟩,k4⟩:=k
    rw[h2] at k2
    have e:u=v:=Prod.ext (h1.trans k1.symm) (Option.some.inj k2)
    rw[e,ih h4 k4]
theorem Af1.uniq {L:List (Mon×ByteArray)} {p q:List Tm} (h:Af1 L p) (k:Af1 L q):p=q:=Ea4 h.1 k.1
noncomputable def Ai8 (L:List (Mon×ByteArray)):Option (List Tm):=by
 classical exact if h: ∃p,Af1 L p then some h.choose else none
theorem Dj3 {L:List (Mon×ByteArray)} {p:List Tm} (h:Af1 L p):Ai8 L=some p:=by
 have hx: ∃p,Af1 L p:=⟨p,h⟩
 unfold Ai8
 rw[dif_pos hx]
 exact congrArg some (hx.choose_spec.uniq h)
theorem Dg4 {L:List (Mon×ByteArray)} (h:¬∃p,Af1 L p):Ai8 L=none:=by
 unfold Ai8
 rw[dif_neg h]
theorem Eg3 {L:List (Mon×ByteArray)} {p:List Tm} (h:Ai8 L=some p):Af1 L p:=by
 unfold Ai8 at h
 split at h
 ·rename_i hx
  cases h
  exact hx.choose_spec
 ·cases h
theorem Af3.new {W W':PW} {s:Sl} {p:List (Mon×ByteArray)} {n0:Nat} (h:Af3 W s p) (hE:Eo1 n0 W W') (hn:W.w.heap.size≤n0):Af3 W' s p:=let⟨xs,h1,h2⟩:=h;⟨xs,h1.new hE hn,h2⟩
theorem Af1.snoc {L:List (Mon×ByteArray)} {p:List Tm} {j:Nat} {q:Rat} (h:Af1 (L.take j) p) (hj:j<L.length) (hq:Ab7 L[j].2=some q) (h0:q≠0) (hl: ∀k (hk:k+1=j),(L[k]'(by omega)).1.lt L[j].1):Af1 (L.take (j+1)) (p ++ [(L[j].1,q)]):=by
 have e:L.take (j+1)=L.take j ++ [L[j]]:=by rw[List.take_add_one,List.getElem?_eq_getElem hj];rfl
 rw[e]
 refine⟨h.1.snoc ⟨rfl,hq,h0⟩,List.pairwise_append.2 ⟨h.2,List.pairwise_singleton _ _,fun a ha b hb=>?_⟩⟩
 simp only[List.mem_singleton] at hb
 subst hb
 have hlen:=h.len
 rw[List.length_take] at hlen
 obtain⟨i,hi⟩:=List.mem_iff_getElem?.1 ha
 have hil:=(List.getElem?_eq_some_iff.1 hi).1
 cases j with
 | zero=>omega
 | succ k=>
  have hlast:=hl k rfl
  obtain⟨x,hx,hr⟩:=h.1.get (i:=k) (t:=p[k]'(by omega)) (List.getElem?_eq_getElem (by omega))
  have hxk:x=L[k]'(by omega):=by
   rw[List.getElem?_take,if_pos (by omega),List.getElem?_eq_getElem (by omega)] at hx
   exact(Option.some.inj hx).symm
  have hpk:(p[k]'(by omega)).1.lt L[k+1].1:=by rw[hr.1,hxk];exact hlast
  by_cases e:i=k
  ·subst e
   rw[List.getElem?_eq_getElem hil] at hi
   cases hi
   exact hpk
  ·have:=(List.pairwise_iff_getElem.1 h.2) i k hil (by omega) (by omega)
   rw[List.getElem?_eq_getElem hil] at hi
   cases hi
   exact Mon.lt_trans this hpk
theorem Af1.bad {L:List (Mon×ByteArray)} {j:Nat} (hj:j<L.length) (h: ∀q,Ab7 L[j].2=some q→q≠0→∃k,∃hk:k+1=j,¬(L[k]'(by omega)).1.lt L[j].1):Ai8 L=none:=by
 refine Dg4 ?_
 rintro⟨p,hp⟩
 have hlen:=hp.len
 obtain⟨x,hx,hr⟩:=hp.1.get (i:=j) (t:=p[j]'(by omega)) (List.getElem?_eq_getElem (by omega))
 rw[List.getElem?_eq_getElem hj] at hx
 cases hx
 obtain⟨k,hk,hn⟩:=h _ hr.2.1 hr.2.2
 obtain⟨y,hy,hs⟩:=hp.1.get (i:=k) (t:=p[k]'(by omega)) (List.getElem?_eq_getElem (by omega))
 rw[List.getElem?_eq_getElem (by omega)] at hy
 cases hy
 have:=(List.pairwise_iff_getElem.1 hp.2) k j (by omega) (by omega) (by omega)
 rw[hr.1,hs.1] at this
 exact hn this
theorem Af1.all {L:List (Mon×ByteArray)} {p:List Tm} (h:Af1 (L.take L.length) p):Ai8 L=some p:=by
 rw[List.take_length] at h
 exact Dj3 h
end Go.SX
/- Sums and products of polynomials: laws. -/
namespace Go.SX
def lin (G:Mon→Rat):List Tm→Rat
 | []=>0
 | t :: r=>t.2*G t.1+lin G r
theorem Gl3 (G:Mon→Rat) (a b:List Tm):lin G (a ++ b)=lin G a+lin G b:=by
 induction a with
 | nil=>simp[lin,Rat.zero_add]
 | cons t r ih=>simp only[List.cons_append,lin,ih,Rat.add_assoc]
theorem Gw4 (G:Mon→Rat) (p:List Tm) (t:Tm):lin G (Bg6 p t)=lin G p+t.2*G t.1:=by
 induction p with
 | nil=>
  unfold Bg6
  split
  ·rename_i h
   simp only[lin,h]
   grind
  ·simp only[lin]
   grind
 | cons e r ih=>
  unfold Bg6
  split
  ·simp only[lin,ih]
   grind
  ·split
   ·rename_i h1 h2
    split
    ·rename_i h3
     simp only[lin,h2]
     grind
    ·simp only[lin,h2]
     grind
   ·split
    ·rename_i h3
     simp only[lin,h3]
     grind
    ·simp only[lin]
     grind
theorem Gu3 (G:Mon→Rat) (l p:List Tm):lin G (l.foldl Bg6 p)=lin G p+lin G l:=by
 induction l generalizing p with
 | nil=>simp[lin,Rat.add_zero]
 | cons t r ih=>rw[List.foldl_cons,ih,Gw4,lin,Rat.add_assoc]
theorem Gi6 (G:Mon→Rat) (l:List Tm):lin G (Ag2 l)=lin G l:=by
 rw[Ag2,Gu3]
 simp[lin,Rat.zero_add]
end Go.SX
/- The greatest weight of a polynomial's monomials: of sums and of products. -/
namespace Go.SX
def Fd0 (w:Mon→Int) (n:Int) (p:List Tm):Int:=p.foldl (fun a t=>mx a (w t.1)) n
theorem Em4 (w:Mon→Int) (n:Int) (l:List Tm) (t:Tm):Fd0 w n (l ++ [t])=mx (Fd0 w n l) (w t.1):=by simp[Fd0]
end Go.SX
/- How great the numbers of short texts are. -/
namespace Go.SX
theorem Bg1 {a:ByteArray} {x m k:Nat} (h:Ad2 a=some x) (hs:a.size≤m) (hm:10^m≤B^k):nl x≤k:=by
 obtain⟨h1,_⟩:=Bq9 h
 exact Bc6 (Nat.lt_of_lt_of_le h1 (Nat.le_trans (Nat.pow_le_pow_right (by decide) hs) hm))
theorem Cf0 {a:ByteArray} {z:Int} {m k:Nat} (h:Ac3 a=some z) (hs:a.size≤m) (hm:10^m≤B^k):nl z.natAbs≤k:=by
 unfold Ac3 at h
 split at h
 ·split at h
  ·rename_i x hx
   split at h
   ·cases h
   ·cases h;rw[Int.natAbs_neg,Int.natAbs_natCast];exact Bg1 hx (by rw[ByteArray.size_extract];omega) hm
  ·cases h
 ·cases hp:Ad2 a with
  | none=>rw[hp] at h;cases h
  | some x=>
   rw[hp] at h
   cases h
   exact Bg1 hp hs hm
theorem Du4 {a:ByteArray} {q:Rat} {m k:Nat} (h:Ab7 a=some q) (hs:a.size≤m) (hm:10^m≤B^k) (hk:1≤k):Sz k q:=by
 unfold Ab7 at h
 split at h
 ·cases hp:Ac3 a with
  | none=>rw[hp] at h;cases h
  | some z=>
   rw[hp] at h
   cases h
   exact⟨by rw[Rat.num_intCast];exact Cf0 hp hs hm,by rw[Rat.den_intCast,Ax0];omega⟩
 ·split at h
  ·rename_i n d hn hd
   split at h
   ·cases h
   ·rename_i i _ hc
    cases h
    have hd0:d≠0:=by omega
    exact Sz.mk (Cf0 hn (by rw[ByteArray.size_extract];omega) hm) (Bg1 hd (by rw[ByteArray.size_extract];omega) hm) hd0
  ·cases h
theorem Ct3 {a:ByteArray} {q:Rat} (h:Ab7 a=some q) (hs:a.size≤30):Sz 4 q:=Du4 h hs (by decide) (by decide)
end Go.SX
/- Rows of polynomials. -/
namespace Go.SX
def Gx4 (tu tt:TypeId) (W:PW) (x:List Value) (p:List Tm):Prop:=∃s:Sl,x = [s.v]∧Ab0 tu tt W s p
theorem Gx4.ext {tu tt:TypeId} {W W':PW} {x:List Value} {p:List Tm} (h:Gx4 tu tt W x p) (hE:Ext W W'):Gx4 tu tt W' x p:=let⟨s,e,h⟩:=h;⟨s,e,h.ext hE⟩
def Gf4 (tu tt:TypeId) (W:PW) (s:Sl) (ps:List (List Tm)):Prop:=∃xs,Bf9 W 1 s xs∧An5 (Gx4 tu tt W) xs ps
theorem Gf4.ext {tu tt:TypeId} {W W':PW} {s:Sl} {ps:List (List Tm)} (h:Gf4 tu tt W s ps) (hE:Ext W W'):Gf4 tu tt W' s ps:=let⟨xs,h1,h2⟩:=h;⟨xs,h1.ext hE,h2.mono fun _ _ h=>h.ext hE⟩
theorem Gf4.n {tu tt:TypeId} {W:PW} {s:Sl} {ps:List (List Tm)} (h:Gf4 tu tt W s ps):s.n=ps.length:=let⟨xs,⟨_,h1⟩,h2⟩:=h;h1.1.trans h2.len
theorem Gf4.inB {tu tt:TypeId} {W:PW} {s:Sl} {ps:List (List Tm)} (h:Gf4 tu tt W s ps) {i:Int} (h0:0≤i) (h1:i<(ps.length:Int)):SX.inB s i:=let⟨xs,⟨_,h2⟩,h3⟩:=h;h2.inB h0 (by rw[h3.len];exact h1)
theorem Gf4.at {tu tt:TypeId} {W:PW} {s:Sl} {ps:List (List Tm)} (h:Gf4 tu tt W s ps) {i:Nat} (hi:i<ps.length): ∃x:Sl,Aa7 W s 1 i 0 [x.v]∧Ab0 tu tt W x ps[i]:=by
 obtain⟨xs,⟨_,h1⟩,h2⟩:=h
 obtain⟨x,hx,y,rfl,hp⟩:=h2.get (List.getElem?_eq_getElem hi)
 exact⟨y,h1.part hx 0 rfl,hp⟩
end Go.SX
/- A polynomial in normal form has no more terms than there are monomials. -/
namespace Go.SX
def Mon.code (m:Mon):Nat:=(m.x*65536+m.y*256+m.z).toNat
theorem Mon.Gy9 {m:Mon} (h:m.ok):m.code<16777216:=by unfold Mon.code;unfold Mon.ok at h;omega
theorem Mon.Gw9 {a b:Mon} (ha:a.ok) (hb:b.ok) (h:a.code=b.code):a=b:=by
 unfold Mon.code at h
 unfold Mon.ok at ha hb
 exact Mon.Fp2 (by omega) (by omega) (by omega)
theorem Gj2: ∀{n:Nat} {l:List Nat} (_:l.Nodup) (_: ∀x∈l,x<n),l.length≤n
 | 0,l,_,h=>by
  cases l with
  | nil=>exact Nat.le_refl _
  | cons x r=>exact absurd (h x (by simp)) (Nat.not_lt_zero x)
 | n+1,l,hn,h=>by
  have h1:=Gj2 (n:=n) (l:=l.filter fun x=>x != n) (hn.sublist List.filter_sublist) fun x hx=>by
   obtain⟨a,b⟩:=List.mem_filter.1 hx
   have:=h x a
   simp at b
   omega
  have h2:l.length≤(l.filter fun x=>x != n).length+1:=by
   clear h1 h
   induction l with
   | nil=>simp
   | cons y r ih=>
    rw[List.nodup_cons] at hn
    by_cases e:y=n
    ·subst e
     have:(r.filter fun x=>x != y)=r:=List.filter_eq_self.2 fun x hx=>by
      have:x≠y:=fun e=>hn.1 (e ▸ hx)
      simpa using this
     simp[this]
    ·have:=ih hn.2
     simp[e]
     omega
  omega
theorem Av6.len {p:List Tm} (h:Av6 p) (ho:POk p):p.length≤16777216:=by
 have h1:(p.map fun t=>t.1.code).Nodup:=by
  have:p.Pairwise fun a b=>a.1.code≠b.1.code:=by
   refine List.Pairwise.imp_of_mem ?_ h.srt
   intro a b ha hb hlt e
   exact Mon.Eg6 hlt (Mon.Gw9 (ho a ha) (ho b hb) e)
  exact List.pairwise_map.2 this
 have:=Gj2 h1 fun x hx=>by
  obtain⟨t,ht,rfl⟩:=List.mem_map.1 hx
  exact Mon.Gy9 (ho t ht)
 simpa using this
end Go.SX
/- Where no part of a matrix is below 0, no form is. -/
namespace Go.SX
end Go.SX
/- Intervals of rational numbers, and what a polynomial's terms come to on them: laws. -/
namespace Go.SX
abbrev Iv:=Rat×Rat
def Az9 (a b:Rat):Rat:=if b<a then b else a
def Au7 (a b:Rat):Rat:=if a<b then b else a
def Ag0 (a b:Rat):Iv:=(Az9 a b,Au7 a b)
def Ai3 (x:Iv) (n:Nat):Iv:=if 0<n∧n%2=0∧x.1≤0∧0≤x.2 then(0,Au7 (x.1^n) (x.2^n)) else Ag0 (x.1^n) (x.2^n)
theorem Dh5 (a b:Rat):Az9 a b≤a∧Az9 a b≤b:=by unfold Az9;split<;>grind
theorem Cl6 (a b:Rat):a≤Au7 a b∧b≤Au7 a b:=by unfold Au7;split<;>grind
theorem Sz.Fe7 {k:Nat} {q:Rat} (h:Sz k q) (n:Nat):Sz (k*n+1) (q^n):=by
 induction n with
 | zero=>rw[Rat.pow_zero];exact Sz.one (by omega)
 | succ n ih=>
  rw[Rat.pow_succ]
  exact(ih.mul h).mono (by rw[Nat.mul_add];omega)
theorem Cf5 (a n:Nat):nl (a^n)≤nl a*n+1:=by
 induction n with
 | zero=>rw[Nat.pow_zero,Ax0];omega
 | succ n ih=>
  rw[Nat.pow_succ]
  have:=Ae5 (a^n) a
  rw[Nat.mul_add,Nat.mul_one]
  omega
theorem Bl8 {n:Nat} (h:0<n):(0:Rat)^n=0:=by
 cases n with
 | zero=>omega
 | succ n=>rw[Rat.pow_succ,Rat.mul_zero]
theorem Fj3 (x:Rat):0≤x*x:=by
 rcases Rat.le_total (a:=0) (b:=x) with h | h
 ·exact Rat.mul_nonneg h h
 ·have:0≤(-x)*(-x):=Rat.mul_nonneg (by grind) (by grind)
  grind
end Go.SX
/- Models: a polynomial and a rest; how great their numbers are: laws. -/
namespace Go.SX
def Fc6 (b:Nat→Iv) (n:Int):Prop:=(b 0).1≤(b 0).2∧(b 1).1≤(b 1).2∧(b 2).1≤(b 2).2∧0≤n∧n≤8
instance (b:Nat→Iv) (n:Int):Decidable (Fc6 b n):=by unfold Fc6;infer_instance
end Go.SX
/- Products of polynomials are bilinear; a form's squares: laws. -/
namespace Go.SX
theorem Gs4 (G:Mon→Rat) (r:Rat): ∀p:List Tm,lin G (p.map fun t=>(t.1,t.2*r))=r*lin G p
 | []=>by simp[lin,Rat.mul_zero]
 | t :: p=>by
  rw[List.map_cons,lin,Gs4 G r p,lin]
  grind
end Go.SX
/- The closed facts that a row asks, in parts: a great program's are asked one part after the other. -/
namespace Go
def Fc7 (P:Program) (f:FuncId) (fn:Func) (s:ChangeSpec) (c:OpenClaim):Bool:=c.wf (OpenSpec.ofChange s) && laidOutB P && mapsRowed P && fn.params.all (P.readableRec ·) && namedTie P c.named s.vars && (c.stops == []) && (P.stops == []) && (c.knobs == []) && (P.stopKnobs == [])
def Fd9 (P:Program) (f:FuncId) (fn:Func) (s:ChangeSpec) (c:OpenClaim):Bool:=(c.inPlace == P.inPlace f) && (c.unfollowed == P.unfollowed f) && (c.recurses == P.recurses f) && (c.named == P.varsNamed f)
def Fe1 (P:Program) (f:FuncId) (fn:Func) (s:ChangeSpec) (c:OpenClaim):Bool:=(c.maps == (fn.params.toList ++ s.plain.varTypes P).any (P.mapsRec ·)) && (c.ifaces == (fn.params.toList ++ s.plain.varTypes P).any (P.ifacesRec ·)) && (c.mapsOut == P.mapsAmong fn.resultTypes.toList) && (c.loops == (fn.params.toList ++ s.plain.varTypes P).any (P.loopsFrom ·)) && (c.wideKeys == (fn.params.toList ++ s.plain.varTypes P ++ fn.resultTypes.toList).any (P.wideKeysFrom ·)) && s.vars.all (P.varReadable ·)
def Fd2 (P:Program) (f:FuncId) (fn:Func) (s:ChangeSpec) (c:OpenClaim):Bool:=fn.resultTypes.all (fun t=>P.readableRec t && decide (t<P.types.size)) && (c.ifacesOut == fn.resultTypes.toList.any (P.ifacesRec ·)) && (c.loopsOut == fn.resultTypes.toList.any (P.loopsFrom ·)) && (c.plainKeys == P.plainKeys) && c.shortTexts.isNone && P.stopsHeard && P.mayEnter
def Fd4 (P:Program) (f:FuncId) (fn:Func) (s:ChangeSpec) (c:OpenClaim):Bool:=(c.lifted == P.liftsFinal) && (P.make == some c.make) && (c.kinds == (if c.domain.isEmpty then[] else fn.params.toList.map fun t=>match P.underlying t with | some (.int k)=>some k | _=>none)) && (c.pinned == c.pinnedBy) && (c.veiled == (fn.params.toList ++ s.plain.varTypes P ++ fn.resultTypes.toList).any (P.veiledRec ·)) && c.veiledFits P fn.params.toList (fn.params.toList ++ s.plain.varTypes P ++ fn.resultTypes.toList)
theorem re1 {x a0 a1 a2 a3:Bool} (h:x=true) (g:(a0 && a1 && a2 && a3)=true):(x && a0 && a1 && a2 && a3)=true:=by rw[h];exact g
theorem re2 {x a0 a1 a2 a3 a4 a5:Bool} (h:x=true) (g:(a0 && a1 && a2 && a3 && a4 && a5)=true):(x && a0 && a1 && a2 && a3 && a4 && a5)=true:=by rw[h];exact g
theorem re3 {x a0 a1 a2 a3 a4 a5 a6:Bool} (h:x=true) (g:(a0 && a1 && a2 && a3 && a4 && a5 && a6)=true):(x && a0 && a1 && a2 && a3 && a4 && a5 && a6)=true:=by rw[h];exact g
theorem re4 {x a0 a1 a2 a3 a4 a5:Bool} (h:x=true) (g:(a0 && a1 && a2 && a3 && a4 && a5)=true):(x && a0 && a1 && a2 && a3 && a4 && a5)=true:=by rw[h];exact g
theorem Eo7 {P:Program} {f:FuncId} {fn:Func} {s:ChangeSpec} {c:OpenClaim} (h0:Fc7 P f fn s c=true) (h1:Fd9 P f fn s c=true) (h2:Fe1 P f fn s c=true) (h3:Fd2 P f fn s c=true) (h4:Fd4 P f fn s c=true):joinedFacts P f fn s c=true:=re4 (re3 (re2 (re1 h0 h1) h2) h3) h4
end Go
