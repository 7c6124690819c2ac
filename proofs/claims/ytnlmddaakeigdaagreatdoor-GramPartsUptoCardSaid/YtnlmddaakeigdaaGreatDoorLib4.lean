/- Polynomials in their text's form: terms rising, no coefficient 0. -/
import Derived.Test.YtnlmddaakeigdaaGreatDoorLib2
import Derived.Test.YtnlmddaakeigdaaGreatDoorLib3
import Derived.Test.YtnlmddaakeigdaaGreatDoorLib1
import Derived.JoinedCond
set_option linter.unusedVariables false
set_option linter.unusedSimpArgs false
set_option linter.unusedVariables false
namespace Go.SX
def PStep (t:Mon×ByteArray) (u:Tm):Prop:=u.1=t.1∧parseQ t.2=some u.2∧u.2≠0
def PParse (L:List (Mon×ByteArray)) (p:List Tm):Prop:=All2 PStep L p∧p.Pairwise fun a b=>a.1.lt b.1
theorem PParse.nil:PParse [] []:=⟨trivial,List.Pairwise.nil⟩
theorem all2_mem {α β:Type} {R:α→β→Prop} {xs:List α} {p:List β} (h:All2 R xs p) {t:β} (ht:t∈p): ∃x∈xs,R x t:=by
 obtain⟨i,hi⟩:=List.mem_iff_getElem?.1 ht
 obtain⟨x,hx,hr⟩:=h.get hi
 exact⟨x,List.mem_of_getElem? hx,hr⟩
theorem PParse.good {L:List (Mon×ByteArray)} {p:List Tm} (h:PParse L p):PGood p:=⟨h.2,fun t ht=>let⟨_,_,_,_,h⟩:=all2_mem h.1 ht;h⟩
theorem PParse.sz {L:List (Mon×ByteArray)} {p:List Tm} (h:PParse L p): ∀t∈p,Sz 4000 t.2:=fun t ht=>let⟨_,_,_,hq,_⟩:=all2_mem h.1 ht;(parseQ_sz hq).1
theorem PParse.len {L:List (Mon×ByteArray)} {p:List Tm} (h:PParse L p):L.length=p.length:=h.1.len
theorem all2_pstep {L:List (Mon×ByteArray)} : ∀{p q:List Tm},All2 PStep L p→All2 PStep L q→p=q:=by
 induction L with
 | nil=>
  intro p q h k
  cases p with
  | nil=>
   cases q with
   | nil=>rfl
   | cons _ _=>exact k.elim
  | cons _ _=>exact h.elim
 | cons t L ih=>
  intro p q h k
  cases p with
  | nil=>exact h.elim
  | cons u p=>
   cases q with
   | nil=>exact k.elim
   | cons v q=>
    obtain⟨⟨h1,h2,_⟩,h4⟩:=h
    obtain⟨⟨k1,k2,_⟩,k4⟩:=k
    rw[h2] at k2
    have e:u=v:=Prod.ext (h1.trans k1.symm) (Option.some.inj k2)
    rw[e,ih h4 k4]
theorem PParse.uniq {L:List (Mon×ByteArray)} {p q:List Tm} (h:PParse L p) (k:PParse L q):p=q:=all2_pstep h.1 k.1
noncomputable def parseP (L:List (Mon×ByteArray)):Option (List Tm):=by
 classical exact if h: ∃p,PParse L p then some h.choose else none
theorem parseP_some {L:List (Mon×ByteArray)} {p:List Tm} (h:PParse L p):parseP L=some p:=by
 have hx: ∃p,PParse L p:=⟨p,h⟩
 unfold parseP
 rw[dif_pos hx]
 exact congrArg some (hx.choose_spec.uniq h)
theorem parseP_none {L:List (Mon×ByteArray)} (h:¬∃p,PParse L p):parseP L=none:=by
 unfold parseP
 rw[dif_neg h]
theorem parseP_is {L:List (Mon×ByteArray)} {p:List Tm} (h:parseP L=some p):PParse L p:=by
 unfold parseP at h
 split at h
 ·rename_i hx
  cases h
  exact hx.choose_spec
 ·cases h
theorem IsAPoly.new {W W':PW} {s:Sl} {p:List (Mon×ByteArray)} {n0:Nat} (h:IsAPoly W s p) (hE:ExtN n0 W W') (hn:W.w.heap.size≤n0):IsAPoly W' s p:=let⟨xs,h1,h2⟩:=h;⟨xs,h1.new hE hn,h2⟩
theorem PParse.snoc {L:List (Mon×ByteArray)} {p:List Tm} {j:Nat} {q:Rat} (h:PParse (L.take j) p) (hj:j<L.length) (hq:parseQ L[j].2=some q) (h0:q≠0) (hl: ∀k (hk:k+1=j),(L[k]'(by omega)).1.lt L[j].1):PParse (L.take (j+1)) (p ++ [(L[j].1,q)]):=by
 have e:L.take (j+1)=L.take j ++ [L[j]]:=by rw[List.take_add_one,List.getElem?_eq_getElem hj];rfl
 rw[e]
 refine⟨h.1.snoc ⟨rfl,hq,h0⟩,List.pairwise_append.2 ⟨h.2,List.pairwise_singleton _ _,fun a ha b hb=>?_⟩⟩
 simp only[List.mem_singleton] at hb
 subst hb
 have hlen:=h.len
 rw[List.length_take] at hlen
 obtain⟨i,hi⟩:=List.mem_iff_getElem?.1 ha
 have hil:=(List.getElem?_eq_some_iff.1 hi).1
 cases j with
 | zero=>omega
 | succ k=>
  have hlast:=hl k rfl
  obtain⟨x,hx,hr⟩:=h.1.get (i:=k) (t:=p[k]'(by omega)) (List.getElem?_eq_getElem (by omega))
  have hxk:x=L[k]'(by omega):=by
   rw[List.getElem?_take,if_pos (by omega),List.getElem?_eq_getElem (by omega)] at hx
   exact(Option.some.inj hx).symm
  have hpk:(p[k]'(by omega)).1.lt L[k+1].1:=by rw[hr.1,hxk];exact hlast
  by_cases e:i=k
  ·subst e
   rw[List.getElem?_eq_getElem hil] at hi
   cases hi
   exact hpk
  ·have:=(List.pairwise_iff_getElem.1 h.2) i k hil (by omega) (by omega)
   rw[List.getElem?_eq_getElem hil] at hi
   cases hi
   exact Mon.lt_trans this hpk
theorem PParse.bad {L:List (Mon×ByteArray)} {j:Nat} (hj:j<L.length) (h: ∀q,parseQ L[j].2=some q→q≠0→∃k,∃hk:k+1=j,¬(L[k]'(by omega)).1.lt L[j].1):parseP L=none:=by
 refine parseP_none ?_
 rintro⟨p,hp⟩
 have hlen:=hp.len
 obtain⟨x,hx,hr⟩:=hp.1.get (i:=j) (t:=p[j]'(by omega)) (List.getElem?_eq_getElem (by omega))
 rw[List.getElem?_eq_getElem hj] at hx
 cases hx
 obtain⟨k,hk,hn⟩:=h _ hr.2.1 hr.2.2
 obtain⟨y,hy,hs⟩:=hp.1.get (i:=k) (t:=p[k]'(by omega)) (List.getElem?_eq_getElem (by omega))
 rw[List.getElem?_eq_getElem (by omega)] at hy
 cases hy
 have:=(List.pairwise_iff_getElem.1 hp.2) k j (by omega) (by omega) (by omega)
 rw[hr.1,hs.1] at this
 exact hn this
theorem PParse.all {L:List (Mon×ByteArray)} {p:List Tm} (h:PParse (L.take L.length) p):parseP L=some p:=by
 rw[List.take_length] at h
 exact parseP_some h
end Go.SX

/- Sums and products of polynomials: laws. -/
set_option linter.unusedVariables false
namespace Go.SX
def lin (G:Mon→Rat):List Tm→Rat
 | []=>0
 | t :: r=>t.2*G t.1+lin G r
theorem lin_append (G:Mon→Rat) (a b:List Tm):lin G (a ++ b)=lin G a+lin G b:=by
 induction a with
 | nil=>simp[lin,Rat.zero_add]
 | cons t r ih=>simp only[List.cons_append,lin,ih,Rat.add_assoc]
theorem lin_pput (G:Mon→Rat) (p:List Tm) (t:Tm):lin G (pput p t)=lin G p+t.2*G t.1:=by
 induction p with
 | nil=>
  unfold pput
  split
  ·rename_i h
   simp only[lin,h]
   grind
  ·simp only[lin]
   grind
 | cons e r ih=>
  unfold pput
  split
  ·simp only[lin,ih]
   grind
  ·split
   ·rename_i h1 h2
    split
    ·rename_i h3
     simp only[lin,h2]
     grind
    ·simp only[lin,h2]
     grind
   ·split
    ·rename_i h3
     simp only[lin,h3]
     grind
    ·simp only[lin]
     grind
theorem lin_foldl (G:Mon→Rat) (l p:List Tm):lin G (l.foldl pput p)=lin G p+lin G l:=by
 induction l generalizing p with
 | nil=>simp[lin,Rat.add_zero]
 | cons t r ih=>rw[List.foldl_cons,ih,lin_pput,lin,Rat.add_assoc]
theorem lin_pnorm (G:Mon→Rat) (l:List Tm):lin G (pnorm l)=lin G l:=by
 rw[pnorm,lin_foldl]
 simp[lin,Rat.zero_add]
end Go.SX

/- How great the numbers of short texts are. -/
set_option linter.unusedVariables false
namespace Go.SX
end Go.SX

/- Rows of polynomials. -/
set_option linter.unusedVariables false
namespace Go.SX
def PolyX (tu tt:TypeId) (W:PW) (x:List Value) (p:List Tm):Prop:=∃s:Sl,x = [s.v]∧IsPoly tu tt W s p
theorem PolyX.ext {tu tt:TypeId} {W W':PW} {x:List Value} {p:List Tm} (h:PolyX tu tt W x p) (hE:Ext W W'):PolyX tu tt W' x p:=let⟨s,e,h⟩:=h;⟨s,e,h.ext hE⟩
def IsPolys (tu tt:TypeId) (W:PW) (s:Sl) (ps:List (List Tm)):Prop:=∃xs,RowA W 1 s xs∧All2 (PolyX tu tt W) xs ps
theorem IsPolys.ext {tu tt:TypeId} {W W':PW} {s:Sl} {ps:List (List Tm)} (h:IsPolys tu tt W s ps) (hE:Ext W W'):IsPolys tu tt W' s ps:=let⟨xs,h1,h2⟩:=h;⟨xs,h1.ext hE,h2.mono fun _ _ h=>h.ext hE⟩
theorem IsPolys.n {tu tt:TypeId} {W:PW} {s:Sl} {ps:List (List Tm)} (h:IsPolys tu tt W s ps):s.n=ps.length:=let⟨xs,⟨_,h1⟩,h2⟩:=h;h1.1.trans h2.len
theorem IsPolys.inB {tu tt:TypeId} {W:PW} {s:Sl} {ps:List (List Tm)} (h:IsPolys tu tt W s ps) {i:Int} (h0:0≤i) (h1:i<(ps.length:Int)):SX.inB s i:=let⟨xs,⟨_,h2⟩,h3⟩:=h;h2.inB h0 (by rw[h3.len];exact h1)
theorem IsPolys.at {tu tt:TypeId} {W:PW} {s:Sl} {ps:List (List Tm)} (h:IsPolys tu tt W s ps) {i:Nat} (hi:i<ps.length): ∃x:Sl,ElemAt W s 1 i 0 [x.v]∧IsPoly tu tt W x ps[i]:=by
 obtain⟨xs,⟨_,h1⟩,h2⟩:=h
 obtain⟨x,hx,y,rfl,hp⟩:=h2.get (List.getElem?_eq_getElem hi)
 exact⟨y,h1.part hx 0 rfl,hp⟩
end Go.SX

/- A polynomial in normal form has no more terms than there are monomials. -/
set_option linter.unusedVariables false
namespace Go.SX
def Mon.code (m:Mon):Nat:=(m.x*65536+m.y*256+m.z).toNat
theorem Mon.code_lt {m:Mon} (h:m.ok):m.code<16777216:=by unfold Mon.code;unfold Mon.ok at h;omega
theorem Mon.code_inj {a b:Mon} (ha:a.ok) (hb:b.ok) (h:a.code=b.code):a=b:=by
 unfold Mon.code at h
 unfold Mon.ok at ha hb
 exact Mon.ext3 (by omega) (by omega) (by omega)
theorem nodup_bound: ∀{n:Nat} {l:List Nat} (_:l.Nodup) (_: ∀x∈l,x<n),l.length≤n
 | 0,l,_,h=>by
  cases l with
  | nil=>exact Nat.le_refl _
  | cons x r=>exact absurd (h x (by simp)) (Nat.not_lt_zero x)
 | n+1,l,hn,h=>by
  have h1:=nodup_bound (n:=n) (l:=l.filter fun x=>x != n) (hn.sublist List.filter_sublist) fun x hx=>by
   obtain⟨a,b⟩:=List.mem_filter.1 hx
   have:=h x a
   simp at b
   omega
  have h2:l.length≤(l.filter fun x=>x != n).length+1:=by
   clear h1 h
   induction l with
   | nil=>simp
   | cons y r ih=>
    rw[List.nodup_cons] at hn
    by_cases e:y=n
    ·subst e
     have:(r.filter fun x=>x != y)=r:=List.filter_eq_self.2 fun x hx=>by
      have:x≠y:=fun e=>hn.1 (e ▸ hx)
      simpa using this
     simp[this]
    ·have:=ih hn.2
     simp[e]
     omega
  omega
theorem PGood.len {p:List Tm} (h:PGood p) (ho:POk p):p.length≤16777216:=by
 have h1:(p.map fun t=>t.1.code).Nodup:=by
  have:p.Pairwise fun a b=>a.1.code≠b.1.code:=by
   refine List.Pairwise.imp_of_mem ?_ h.srt
   intro a b ha hb hlt e
   exact Mon.lt_ne hlt (Mon.code_inj (ho a ha) (ho b hb) e)
  exact List.pairwise_map.2 this
 have:=nodup_bound h1 fun x hx=>by
  obtain⟨t,ht,rfl⟩:=List.mem_map.1 hx
  exact Mon.code_lt (ho t ht)
 simpa using this
end Go.SX

/- Where no part of a matrix is below 0, no form is. -/
set_option linter.unusedVariables false
namespace Go.SX
end Go.SX

/- Intervals of rational numbers, and what a polynomial's terms come to on them: laws. -/
set_option linter.unusedVariables false
namespace Go.SX
abbrev Iv:=Rat×Rat
end Go.SX

/- Models: a polynomial and a rest; how great their numbers are: laws. -/
set_option linter.unusedVariables false
namespace Go.SX
def DRight (b:Nat→Iv) (n:Int):Prop:=(b 0).1≤(b 0).2∧(b 1).1≤(b 1).2∧(b 2).1≤(b 2).2∧0≤n∧n≤8
instance (b:Nat→Iv) (n:Int):Decidable (DRight b n):=by unfold DRight;infer_instance
end Go.SX

/- Products of polynomials are bilinear; a form's squares: laws. -/
set_option linter.unusedVariables false
namespace Go.SX
theorem ptot_lin (p:List Tm) (m:Mon):ptot p m=lin (fun n=>if n=m then 1 else 0) p:=by
 induction p with
 | nil=>rfl
 | cons t r ih=>
  simp only[ptot,lin,ih]
  split<;>grind
theorem lin_pmap (G:Mon→Rat) (r:Rat): ∀p:List Tm,lin G (p.map fun t=>(t.1,t.2*r))=r*lin G p
 | []=>by simp[lin,Rat.mul_zero]
 | t :: p=>by
  rw[List.map_cons,lin,lin_pmap G r p,lin]
  grind
end Go.SX

/- The closed facts that a row asks, in parts: a great program's are asked one part after the other. -/
set_option linter.unusedVariables false
namespace Go
def facts0 (P:Program) (f:FuncId) (fn:Func) (s:ChangeSpec) (c:OpenClaim):Bool:=c.wf (OpenSpec.ofChange s) && laidOutB P && mapsRowed P && fn.params.all (P.readableRec ·) && namedTie P c.named s.vars && (c.stops == []) && (P.stops == []) && (c.knobs == []) && (P.stopKnobs == [])
def facts1 (P:Program) (f:FuncId) (fn:Func) (s:ChangeSpec) (c:OpenClaim):Bool:=(c.inPlace == P.inPlace f) && (c.unfollowed == P.unfollowed f) && (c.recurses == P.recurses f) && (c.named == P.varsNamed f)
def facts2 (P:Program) (f:FuncId) (fn:Func) (s:ChangeSpec) (c:OpenClaim):Bool:=(c.maps == (fn.params.toList ++ s.plain.varTypes P).any (P.mapsRec ·)) && (c.ifaces == (fn.params.toList ++ s.plain.varTypes P).any (P.ifacesRec ·)) && (c.mapsOut == P.mapsAmong fn.resultTypes.toList) && (c.loops == (fn.params.toList ++ s.plain.varTypes P).any (P.loopsFrom ·)) && (c.wideKeys == (fn.params.toList ++ s.plain.varTypes P ++ fn.resultTypes.toList).any (P.wideKeysFrom ·)) && s.vars.all (P.varReadable ·)
def facts3 (P:Program) (f:FuncId) (fn:Func) (s:ChangeSpec) (c:OpenClaim):Bool:=fn.resultTypes.all (fun t=>P.readableRec t && decide (t<P.types.size)) && (c.ifacesOut == fn.resultTypes.toList.any (P.ifacesRec ·)) && (c.loopsOut == fn.resultTypes.toList.any (P.loopsFrom ·)) && (c.plainKeys == P.plainKeys) && c.shortTexts.isNone && P.stopsHeard && P.mayEnter
def facts4 (P:Program) (f:FuncId) (fn:Func) (s:ChangeSpec) (c:OpenClaim):Bool:=(c.lifted == P.liftsFinal) && (P.make == some c.make) && (c.kinds == (if c.domain.isEmpty then[] else fn.params.toList.map fun t=>match P.underlying t with | some (.int k)=>some k | _=>none)) && (c.pinned == c.pinnedBy) && (c.veiled == (fn.params.toList ++ s.plain.varTypes P ++ fn.resultTypes.toList).any (P.veiledRec ·)) && c.veiledFits P fn.params.toList (fn.params.toList ++ s.plain.varTypes P ++ fn.resultTypes.toList)
theorem re1 {x a0 a1 a2 a3:Bool} (h:x=true) (g:(a0 && a1 && a2 && a3)=true):(x && a0 && a1 && a2 && a3)=true:=by rw[h];exact g
theorem re2 {x a0 a1 a2 a3 a4 a5:Bool} (h:x=true) (g:(a0 && a1 && a2 && a3 && a4 && a5)=true):(x && a0 && a1 && a2 && a3 && a4 && a5)=true:=by rw[h];exact g
theorem re3 {x a0 a1 a2 a3 a4 a5 a6:Bool} (h:x=true) (g:(a0 && a1 && a2 && a3 && a4 && a5 && a6)=true):(x && a0 && a1 && a2 && a3 && a4 && a5 && a6)=true:=by rw[h];exact g
theorem re4 {x a0 a1 a2 a3 a4 a5:Bool} (h:x=true) (g:(a0 && a1 && a2 && a3 && a4 && a5)=true):(x && a0 && a1 && a2 && a3 && a4 && a5)=true:=by rw[h];exact g
theorem joined_of {P:Program} {f:FuncId} {fn:Func} {s:ChangeSpec} {c:OpenClaim} (h0:facts0 P f fn s c=true) (h1:facts1 P f fn s c=true) (h2:facts2 P f fn s c=true) (h3:facts3 P f fn s c=true) (h4:facts4 P f fn s c=true):joinedFacts P f fn s c=true:=re4 (re3 (re2 (re1 h0 h1) h2) h3) h4
end Go
