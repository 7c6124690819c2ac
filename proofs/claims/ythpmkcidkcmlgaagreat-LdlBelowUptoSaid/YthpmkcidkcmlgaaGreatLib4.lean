/- Polynomials in their text's form: terms rising, no coefficient 0. -/
import Derived.Test.YthpmkcidkcmlgaaGreatLib2
import Derived.Test.YthpmkcidkcmlgaaGreatLib3
import Derived.Test.YthpmkcidkcmlgaaGreatLib1
import Derived.JoinedCond
set_option linter.unusedVariables false
set_option linter.unusedSimpArgs false
set_option linter.unusedVariables false
namespace Go.SX
end Go.SX

/- Sums and products of polynomials: laws. -/
set_option linter.unusedVariables false
namespace Go.SX
def lin (G:Mon→Rat):List Tm→Rat
 | []=>0
 | t :: r=>t.2*G t.1+lin G r
theorem lin_append (G:Mon→Rat) (a b:List Tm):lin G (a ++ b)=lin G a+lin G b:=by
 induction a with
 | nil=>simp[lin,Rat.zero_add]
 | cons t r ih=>simp only[List.cons_append,lin,ih,Rat.add_assoc]
theorem lin_pput (G:Mon→Rat) (p:List Tm) (t:Tm):lin G (pput p t)=lin G p+t.2*G t.1:=by
 induction p with
 | nil=>
  unfold pput
  split
  ·rename_i h
   simp only[lin,h]
   grind
  ·simp only[lin]
   grind
 | cons e r ih=>
  unfold pput
  split
  ·simp only[lin,ih]
   grind
  ·split
   ·rename_i h1 h2
    split
    ·rename_i h3
     simp only[lin,h2]
     grind
    ·simp only[lin,h2]
     grind
   ·split
    ·rename_i h3
     simp only[lin,h3]
     grind
    ·simp only[lin]
     grind
theorem lin_foldl (G:Mon→Rat) (l p:List Tm):lin G (l.foldl pput p)=lin G p+lin G l:=by
 induction l generalizing p with
 | nil=>simp[lin,Rat.add_zero]
 | cons t r ih=>rw[List.foldl_cons,ih,lin_pput,lin,Rat.add_assoc]
theorem lin_pnorm (G:Mon→Rat) (l:List Tm):lin G (pnorm l)=lin G l:=by
 rw[pnorm,lin_foldl]
 simp[lin,Rat.zero_add]
end Go.SX

/- How great the numbers of short texts are. -/
set_option linter.unusedVariables false
namespace Go.SX
end Go.SX

/- Rows of polynomials. -/
set_option linter.unusedVariables false
namespace Go.SX
def PolyX (tu tt:TypeId) (W:PW) (x:List Value) (p:List Tm):Prop:=∃s:Sl,x = [s.v]∧IsPoly tu tt W s p
theorem PolyX.ext {tu tt:TypeId} {W W':PW} {x:List Value} {p:List Tm} (h:PolyX tu tt W x p) (hE:Ext W W'):PolyX tu tt W' x p:=let⟨s,e,h⟩:=h;⟨s,e,h.ext hE⟩
def IsPolys (tu tt:TypeId) (W:PW) (s:Sl) (ps:List (List Tm)):Prop:=∃xs,RowA W 1 s xs∧All2 (PolyX tu tt W) xs ps
theorem IsPolys.ext {tu tt:TypeId} {W W':PW} {s:Sl} {ps:List (List Tm)} (h:IsPolys tu tt W s ps) (hE:Ext W W'):IsPolys tu tt W' s ps:=let⟨xs,h1,h2⟩:=h;⟨xs,h1.ext hE,h2.mono fun _ _ h=>h.ext hE⟩
theorem IsPolys.n {tu tt:TypeId} {W:PW} {s:Sl} {ps:List (List Tm)} (h:IsPolys tu tt W s ps):s.n=ps.length:=let⟨xs,⟨_,h1⟩,h2⟩:=h;h1.1.trans h2.len
theorem IsPolys.inB {tu tt:TypeId} {W:PW} {s:Sl} {ps:List (List Tm)} (h:IsPolys tu tt W s ps) {i:Int} (h0:0≤i) (h1:i<(ps.length:Int)):SX.inB s i:=let⟨xs,⟨_,h2⟩,h3⟩:=h;h2.inB h0 (by rw[h3.len];exact h1)
theorem IsPolys.at {tu tt:TypeId} {W:PW} {s:Sl} {ps:List (List Tm)} (h:IsPolys tu tt W s ps) {i:Nat} (hi:i<ps.length): ∃x:Sl,ElemAt W s 1 i 0 [x.v]∧IsPoly tu tt W x ps[i]:=by
 obtain⟨xs,⟨_,h1⟩,h2⟩:=h
 obtain⟨x,hx,y,rfl,hp⟩:=h2.get (List.getElem?_eq_getElem hi)
 exact⟨y,h1.part hx 0 rfl,hp⟩
end Go.SX

/- A polynomial in normal form has no more terms than there are monomials. -/
set_option linter.unusedVariables false
namespace Go.SX
def Mon.code (m:Mon):Nat:=(m.x*65536+m.y*256+m.z).toNat
theorem Mon.code_lt {m:Mon} (h:m.ok):m.code<16777216:=by unfold Mon.code;unfold Mon.ok at h;omega
theorem Mon.code_inj {a b:Mon} (ha:a.ok) (hb:b.ok) (h:a.code=b.code):a=b:=by
 unfold Mon.code at h
 unfold Mon.ok at ha hb
 exact Mon.ext3 (by omega) (by omega) (by omega)
theorem nodup_bound: ∀{n:Nat} {l:List Nat} (_:l.Nodup) (_: ∀x∈l,x<n),l.length≤n
 | 0,l,_,h=>by
  cases l with
  | nil=>exact Nat.le_refl _
  | cons x r=>exact absurd (h x (by simp)) (Nat.not_lt_zero x)
 | n+1,l,hn,h=>by
  have h1:=nodup_bound (n:=n) (l:=l.filter fun x=>x != n) (hn.sublist List.filter_sublist) fun x hx=>by
   obtain⟨a,b⟩:=List.mem_filter.1 hx
   have:=h x a
   simp at b
   omega
  have h2:l.length≤(l.filter fun x=>x != n).length+1:=by
   clear h1 h
   induction l with
   | nil=>simp
   | cons y r ih=>
    rw[List.nodup_cons] at hn
    by_cases e:y=n
    ·subst e
     have:(r.filter fun x=>x != y)=r:=List.filter_eq_self.2 fun x hx=>by
      have:x≠y:=fun e=>hn.1 (e ▸ hx)
      simpa using this
     simp[this]
    ·have:=ih hn.2
     simp[e]
     omega
  omega
theorem PGood.len {p:List Tm} (h:PGood p) (ho:POk p):p.length≤16777216:=by
 have h1:(p.map fun t=>t.1.code).Nodup:=by
  have:p.Pairwise fun a b=>a.1.code≠b.1.code:=by
   refine List.Pairwise.imp_of_mem ?_ h.srt
   intro a b ha hb hlt e
   exact Mon.lt_ne hlt (Mon.code_inj (ho a ha) (ho b hb) e)
  exact List.pairwise_map.2 this
 have:=nodup_bound h1 fun x hx=>by
  obtain⟨t,ht,rfl⟩:=List.mem_map.1 hx
  exact Mon.code_lt (ho t ht)
 simpa using this
end Go.SX

/- Where no part of a matrix is below 0, no form is. -/
set_option linter.unusedVariables false
namespace Go.SX
theorem lsum_add (f g:Nat→Rat) (n:Nat):lsum (fun j=>f j+g j) n=lsum f n+lsum g n:=by
 induction n with
 | zero=>simp[lsum,Rat.add_zero]
 | succ n ih=>simp only[lsum,ih];grind
theorem lsum_mul (c:Rat) (f:Nat→Rat) (n:Nat):lsum (fun j=>c*f j) n=c*lsum f n:=by
 induction n with
 | zero=>simp[lsum,Rat.mul_zero]
 | succ n ih=>simp only[lsum,ih];grind
theorem lsum_nought (n:Nat):lsum (fun _=>0) n=0:=lsum_zero fun _ _=>rfl
theorem lsum_swap (f:Nat→Nat→Rat) (n m:Nat):lsum (fun i=>lsum (f i) m) n=lsum (fun j=>lsum (fun i=>f i j) n) m:=by
 induction n with
 | zero=>simp only[lsum];rw[lsum_nought]
 | succ n ih=>simp only[lsum,ih];rw[lsum_add]
end Go.SX

/- Intervals of rational numbers, and what a polynomial's terms come to on them: laws. -/
set_option linter.unusedVariables false
namespace Go.SX
theorem Sz.powq {k:Nat} {q:Rat} (h:Sz k q) (n:Nat):Sz (k*n+1) (q^n):=by
 induction n with
 | zero=>rw[Rat.pow_zero];exact Sz.one (by omega)
 | succ n ih=>
  rw[Rat.pow_succ]
  exact(ih.mul h).mono (by rw[Nat.mul_add];omega)
theorem nl_pow (a n:Nat):nl (a^n)≤nl a*n+1:=by
 induction n with
 | zero=>rw[Nat.pow_zero,nl_one];omega
 | succ n ih=>
  rw[Nat.pow_succ]
  have:=nl_mul (a^n) a
  rw[Nat.mul_add,Nat.mul_one]
  omega
end Go.SX

/- Products of polynomials are bilinear; a form's squares: laws. -/
set_option linter.unusedVariables false
namespace Go.SX
theorem lin_pmap (G:Mon→Rat) (r:Rat): ∀p:List Tm,lin G (p.map fun t=>(t.1,t.2*r))=r*lin G p
 | []=>by simp[lin,Rat.mul_zero]
 | t :: p=>by
  rw[List.map_cons,lin,lin_pmap G r p,lin]
  grind
def quadH (M H:Nat→Nat→Rat) (r:Nat):Rat:=lsum (fun i=>lsum (fun k=>M i k*H i k) r) r
theorem Parts.quadH {m L:Nat→Nat→Rat} {d:Nat→Rat} {n:Nat} (h:Parts m L d n n) (hs: ∀i k,i<n→k<n→m i k=m k i) (H:Nat→Nat→Rat):SX.quadH m H n=lsum (fun j=>d j*lsum (fun i=>L i j*lsum (fun k=>L k j*H i k) n) n) n:=by
 have e1:SX.quadH m H n=lsum (fun i=>lsum (fun k=>lsum (fun j=>L i j*d j*L k j*H i k) n) n) n:=lsum_congr fun i hi=>lsum_congr fun k hk=>by
  rw[←h.back hs hi hk,Rat.mul_comm,←lsum_mul]
  exact lsum_congr fun j _=>by rw[Rat.mul_comm]
 have e2: ∀i,lsum (fun k=>lsum (fun j=>L i j*d j*L k j*H i k) n) n=lsum (fun j=>d j*(L i j*lsum (fun k=>L k j*H i k) n)) n:=fun i=>by
  rw[lsum_swap]
  refine lsum_congr fun j _=>?_
  rw[←Rat.mul_assoc,←lsum_mul]
  exact lsum_congr fun k _=>by grind
 rw[e1]
 simp only[e2]
 rw[lsum_swap]
 exact lsum_congr fun j _=>lsum_mul _ _ _
end Go.SX

/- The closed facts that a row asks, in parts: a great program's are asked one part after the other. -/
set_option linter.unusedVariables false
namespace Go
def facts0 (P:Program) (f:FuncId) (fn:Func) (s:ChangeSpec) (c:OpenClaim):Bool:=c.wf (OpenSpec.ofChange s) && laidOutB P && mapsRowed P && fn.params.all (P.readableRec ·) && namedTie P c.named s.vars && (c.stops == []) && (P.stops == []) && (c.knobs == []) && (P.stopKnobs == [])
def facts1 (P:Program) (f:FuncId) (fn:Func) (s:ChangeSpec) (c:OpenClaim):Bool:=(c.inPlace == P.inPlace f) && (c.unfollowed == P.unfollowed f) && (c.recurses == P.recurses f) && (c.named == P.varsNamed f)
def facts2 (P:Program) (f:FuncId) (fn:Func) (s:ChangeSpec) (c:OpenClaim):Bool:=(c.maps == (fn.params.toList ++ s.plain.varTypes P).any (P.mapsRec ·)) && (c.ifaces == (fn.params.toList ++ s.plain.varTypes P).any (P.ifacesRec ·)) && (c.mapsOut == P.mapsAmong fn.resultTypes.toList) && (c.loops == (fn.params.toList ++ s.plain.varTypes P).any (P.loopsFrom ·)) && (c.wideKeys == (fn.params.toList ++ s.plain.varTypes P ++ fn.resultTypes.toList).any (P.wideKeysFrom ·)) && s.vars.all (P.varReadable ·)
def facts3 (P:Program) (f:FuncId) (fn:Func) (s:ChangeSpec) (c:OpenClaim):Bool:=fn.resultTypes.all (fun t=>P.readableRec t && decide (t<P.types.size)) && (c.ifacesOut == fn.resultTypes.toList.any (P.ifacesRec ·)) && (c.loopsOut == fn.resultTypes.toList.any (P.loopsFrom ·)) && (c.plainKeys == P.plainKeys) && c.shortTexts.isNone && P.stopsHeard && P.mayEnter
def facts4 (P:Program) (f:FuncId) (fn:Func) (s:ChangeSpec) (c:OpenClaim):Bool:=(c.lifted == P.liftsFinal) && (P.make == some c.make) && (c.kinds == (if c.domain.isEmpty then[] else fn.params.toList.map fun t=>match P.underlying t with | some (.int k)=>some k | _=>none)) && (c.pinned == c.pinnedBy) && (c.veiled == (fn.params.toList ++ s.plain.varTypes P ++ fn.resultTypes.toList).any (P.veiledRec ·)) && c.veiledFits P fn.params.toList (fn.params.toList ++ s.plain.varTypes P ++ fn.resultTypes.toList)
theorem re1 {x a0 a1 a2 a3:Bool} (h:x=true) (g:(a0 && a1 && a2 && a3)=true):(x && a0 && a1 && a2 && a3)=true:=by rw[h];exact g
theorem re2 {x a0 a1 a2 a3 a4 a5:Bool} (h:x=true) (g:(a0 && a1 && a2 && a3 && a4 && a5)=true):(x && a0 && a1 && a2 && a3 && a4 && a5)=true:=by rw[h];exact g
theorem re3 {x a0 a1 a2 a3 a4 a5 a6:Bool} (h:x=true) (g:(a0 && a1 && a2 && a3 && a4 && a5 && a6)=true):(x && a0 && a1 && a2 && a3 && a4 && a5 && a6)=true:=by rw[h];exact g
theorem re4 {x a0 a1 a2 a3 a4 a5:Bool} (h:x=true) (g:(a0 && a1 && a2 && a3 && a4 && a5)=true):(x && a0 && a1 && a2 && a3 && a4 && a5)=true:=by rw[h];exact g
theorem joined_of {P:Program} {f:FuncId} {fn:Func} {s:ChangeSpec} {c:OpenClaim} (h0:facts0 P f fn s c=true) (h1:facts1 P f fn s c=true) (h2:facts2 P f fn s c=true) (h3:facts3 P f fn s c=true) (h4:facts4 P f fn s c=true):joinedFacts P f fn s c=true:=re4 (re3 (re2 (re1 h0 h1) h2) h3) h4
end Go

/- A matrix whose rows and whose row of rows are own: elements are read and written. -/
set_option linter.unusedVariables false
namespace Go.SX
def OwM (tu tq ts:TypeId) (W:PW) (s:Sl) (ss:List Sl) (c:Nat) (m:Nat→Nat→Rat):Prop:=
 Own W ts 1 s (ss.map fun x=>[x.v])∧(∀i (h:i<ss.length),∃xs,Own W tq 3 ss[i] xs∧Qs tu W xs c (m i))∧
  ∀i j (hi:i<ss.length) (hj:j<ss.length),i≠j→∀g,ss[i].v.ownBlock=some g→ss[j].v.ownBlock≠some g
theorem OwM.ext {tu tq ts:TypeId} {W W':PW} {s:Sl} {ss:List Sl} {c:Nat} {m:Nat→Nat→Rat} (h:OwM tu tq ts W s ss c m) (hE:Ext W W'):OwM tu tq ts W' s ss c m:=
 ⟨h.1.ext hE,fun i hi=>let⟨xs,k1,k2⟩:=h.2.1 i hi;⟨xs,k1.ext hE,k2.ext hE⟩,h.2.2⟩
theorem OwM.mat {tu tq ts:TypeId} {W:PW} {s:Sl} {ss:List Sl} {c:Nat} {m:Nat→Nat→Rat} (h:OwM tu tq ts W s ss c m):IsMat tu tq ts W s ss.length (fun _=>c) m:=
 ⟨ss,h.1.row,rfl,fun i hi=>let⟨xs,k1,k2⟩:=h.2.1 i hi;⟨xs,k1.row,k2⟩⟩
theorem OwM.congr {tu tq ts:TypeId} {W:PW} {s:Sl} {ss:List Sl} {c:Nat} {m m':Nat→Nat→Rat} (h:OwM tu tq ts W s ss c m) (he: ∀i j,i<ss.length→j<c→m i j=m' i j):OwM tu tq ts W s ss c m':=
 ⟨h.1,fun i hi=>let⟨xs,k1,k2⟩:=h.2.1 i hi;⟨xs,k1,k2.congr fun j hj=>he i j hi hj⟩,h.2.2⟩
theorem OwM.elem {tu tq ts:TypeId} {W:PW} {s:Sl} {ss:List Sl} {c:Nat} {m:Nat→Nat→Rat} (h:OwM tu tq ts W s ss c m) {i:Nat} (hi:i<ss.length):ElemAt W s 1 i 0 [ss[i].v]:=
 Row.elem h.1.row (x:=[ss[i].v]) (by simp[hi]) fun j v hj=>by simpa using hj
theorem OwM.at {tu tq ts:TypeId} {W:PW} {s:Sl} {ss:List Sl} {c:Nat} {m:Nat→Nat→Rat} (h:OwM tu tq ts W s ss c m) {i j:Nat} (hi:i<ss.length) (hj:j<c): ∃(s1:Sl) (b:Bool) (s2:Sl),ElemAt W ss[i] 3 j 0 [s1.v,.bool b,s2.v]∧IsRat tu W s1 b s2 (m i j):=by
 obtain⟨xs,k1,k2⟩:=h.2.1 i hi
 exact IsQs.at (n:=c) (f:=m i) ⟨xs,k1.row,k2⟩ hj
theorem OwM.n {tu tq ts:TypeId} {W:PW} {s:Sl} {ss:List Sl} {c:Nat} {m:Nat→Nat→Rat} (h:OwM tu tq ts W s ss c m):s.n=ss.length:=by rw[h.1.n,List.length_map]
theorem OwM.rn {tu tq ts:TypeId} {W:PW} {s:Sl} {ss:List Sl} {c:Nat} {m:Nat→Nat→Rat} (h:OwM tu tq ts W s ss c m) {i:Nat} (hi:i<ss.length):ss[i].n=c:=by
 obtain⟨xs,k1,k2⟩:=h.2.1 i hi
 rw[k1.n,k2.1]
theorem OwM.inB {tu tq ts:TypeId} {W:PW} {s:Sl} {ss:List Sl} {c:Nat} {m:Nat→Nat→Rat} (h:OwM tu tq ts W s ss c m) {i:Int} (h0:0≤i) (h1:i<(ss.length:Int)):SX.inB s i:=
 Row.inB h.1.row h0 (by rw[List.length_map];exact h1)
theorem OwM.inBr {tu tq ts:TypeId} {W:PW} {s:Sl} {ss:List Sl} {c:Nat} {m:Nat→Nat→Rat} (h:OwM tu tq ts W s ss c m) {i:Nat} (hi:i<ss.length) {j:Int} (h0:0≤j) (h1:j<(c:Int)):SX.inB ss[i] j:=by
 obtain⟨xs,k1,k2⟩:=h.2.1 i hi
 exact Row.inB k1.row h0 (by rw[k2.1];exact h1)
theorem Own.apart {W:PW} {t t':TypeId} {sz sz':Nat} {s s':Sl} {xs ys:List (List Value)} (h:Own W t sz s xs) (k:Own W t' sz' s' ys) (hx:xs≠[]) (hy:ys≠[]) (ht:t≠t') {g:Nat} (hg:s.v.ownBlock=some g):s'.v.ownBlock≠some g:=fun hg'=>by
 obtain⟨g1,c1,_,e1,_,h1,_⟩:=h.at hx
 obtain⟨g2,c2,_,e2,_,h2,_⟩:=k.at hy
 rw[hg] at e1
 rw[hg'] at e2
 cases e1
 cases e2
 rw[h1] at h2
 simp only[Option.some.injEq,Obj.cells.injEq] at h2
 exact ht h2.2.1
theorem OwM.store {tu tq ts:TypeId} {W0 W:PW} {M:Nat→Prop} {s:Sl} {ss:List Sl} {c i j:Nat} {m:Nat→Nat→Rat} {s1 s2:Sl} {b:Bool} {q:Rat} {K:PW→Prop} (h:OwM tu tq ts W s ss c m) (hi:i<ss.length) (hj:j<c) (hq:IsRat tu W s1 b s2 q) (hu:tu≠tq) (hs:ts≠tq) (hM: ∀g,ss[i].v.ownBlock=some g→may W0 M g)
  (kont: ∀W'',ExtM (fun g=>ss[i].v.ownBlock=some g) W W''→Put tq (fun g=>ss[i].v.ownBlock=some g) W W''→OwM tu tq ts W'' s ss c (setM m i j q)→K W''):storeN W0 M ss[i] (j*3+0) [s1.v,.bool b,s2.v] W K:=by
 obtain⟨h1,h3,h4⟩:=h
 obtain⟨xs,k1,k2⟩:=h3 i hi
 have hxs:xs≠[]:=fun e=>by have:=k2.1;rw[e] at this;simp at this;omega
 have hss:(ss.map fun x=>[x.v])≠[]:=fun e=>by
  have:=congrArg List.length e
  simp at this
  subst this
  simp at hi
 refine storeN_own k1 (by rw[k2.1];exact hj) rfl ?_ hM fun W'' g hg hw ho=>kont W'' (hw.extM.mono fun b e=>by rw[show b=g from e];exact hg) ⟨g,hg,hw⟩ ⟨h1.other hw.extM fun g' hg' e=>?_,fun a ha=>?_,h4⟩
 ·intro u hu
  simp only[List.mem_cons,List.not_mem_nil,or_false] at hu
  rcases hu with rfl | rfl | rfl<;>rfl
 ·have e:g'=g:=e
  subst e
  exact Own.apart h1 k1 hss hxs hs hg' hg
 ·by_cases e:a=i
  ·subst e
   refine⟨_,ho,?_⟩
   have:=(hw.qs k2 hu).set hj (hw.rat hq hu)
   refine this.congr fun k hk=>?_
   unfold setM
   by_cases e:k=j<;>simp[e]
  ·obtain⟨ys,y1,y2⟩:=h3 a ha
   refine⟨ys,y1.other hw.extM fun g' hg'=>?_,(hw.qs y2 hu).congr fun k hk=>?_⟩
   ·rintro rfl
    exact h4 a i ha hi e _ hg' hg
   ·unfold setM
    simp[e]
theorem OwM.same {tu tq ts:TypeId} {W0 W:PW} {M:Nat→Prop} {s:Sl} {ss:List Sl} {c i:Nat} {m:Nat→Nat→Rat} {K:PW→Prop} (h:OwM tu tq ts W s ss c m) (hi:i<ss.length) (hc:0<c) (hu:tu≠ts) (hs:tq≠ts) (hM: ∀g,s.v.ownBlock=some g→may W0 M g)
  (kont: ∀W'',ExtM (fun g=>s.v.ownBlock=some g) W W''→OwM tu tq ts W'' s ss c m→K W''):storeN W0 M s (i*1+0) [ss[i].v] W K:=by
 obtain⟨h1,h3,h4⟩:=h
 have hss:(ss.map fun x=>[x.v])≠[]:=fun e=>by
  have:=congrArg List.length e
  simp at this
  subst this
  simp at hi
 refine storeN_own h1 (by simpa using hi) rfl ?_ hM fun W'' g hg hw ho=>kont W'' (hw.extM.mono fun b e=>by rw[show b=g from e];exact hg) ⟨?_,fun a ha=>?_,h4⟩
 ·intro u hu
  simp only[List.mem_cons,List.not_mem_nil,or_false] at hu
  subst hu
  rfl
 ·have:(ss.map fun x=>[x.v]).set i [ss[i].v]=ss.map fun x=>[x.v]:=by
   refine List.ext_getElem? fun k=>?_
   rw[List.getElem?_set]
   split
   ·rename_i e
    subst e
    simp[hi]
   ·rfl
  rwa [this] at ho
 ·obtain⟨ys,y1,y2⟩:=h3 a ha
  have hys:ys≠[]:=fun e=>by have:=y2.1;rw[e] at this;simp at this;omega
  refine⟨ys,y1.other hw.extM fun g' hg' e=>?_,hw.qs y2 hu⟩
  have e:g'=g:=e
  subst e
  exact Own.apart y1 h1 hys hss hs hg' hg
end Go.SX
