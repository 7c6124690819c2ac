/- Rows of polynomials. -/
import Derived.Test.YtjgpenfndnhdnaaGreatLib3
set_option linter.unusedVariables false
set_option linter.unusedSimpArgs false
set_option linter.unusedVariables false
namespace Go.SX
def IsAPolys (W:PW) (s:Sl) (T:List (List (Mon×ByteArray))):Prop:=∃ss:List Sl,RowA W 1 s (ss.map fun x=>[x.v])∧ss.length=T.length∧∀i (h:i<ss.length) (h':i<T.length),IsAPoly W ss[i] T[i]
theorem IsAPolys.ext {W W':PW} {s:Sl} {T:List (List (Mon×ByteArray))} (h:IsAPolys W s T) (hE:Ext W W'):IsAPolys W' s T:=let⟨ss,h1,h2,h3⟩:=h;⟨ss,h1.ext hE,h2,fun i a b=>(h3 i a b).ext hE⟩
theorem IsAPolys.n {W:PW} {s:Sl} {T:List (List (Mon×ByteArray))} (h:IsAPolys W s T):s.n=T.length:=by
 obtain⟨ss,⟨_,h1⟩,h2,_⟩:=h
 have:=h1.1
 rw[List.length_map] at this
 omega
theorem IsAPolys.inB {W:PW} {s:Sl} {T:List (List (Mon×ByteArray))} (h:IsAPolys W s T) {i:Int} (h0:0≤i) (h1:i<(T.length:Int)):SX.inB s i:=by
 obtain⟨ss,⟨_,g1⟩,g2,_⟩:=h
 exact g1.inB h0 (by rw[List.length_map];omega)
theorem IsAPolys.at {W:PW} {s:Sl} {T:List (List (Mon×ByteArray))} (h:IsAPolys W s T) {i:Nat} (hi:i<T.length): ∃x:Sl,ElemAt W s 1 i 0 [x.v]∧IsAPoly W x T[i]:=by
 obtain⟨ss,⟨_,g1⟩,g2,g3⟩:=h
 have hi':i<ss.length:=by omega
 exact⟨ss[i],g1.part (x:=[ss[i].v]) (by rw[List.getElem?_map,List.getElem?_eq_getElem hi'];rfl) 0 rfl,g3 i hi' hi⟩
def PolyX (tu tt:TypeId) (W:PW) (x:List Value) (p:List Tm):Prop:=∃s:Sl,x = [s.v]∧IsPoly tu tt W s p
def RPolyX (tu tt:TypeId) (W:PW) (x:List Value) (p:List Tm):Prop:=∃s:Sl,x = [s.v]∧IsRPoly tu tt W s p
theorem PolyX.ext {tu tt:TypeId} {W W':PW} {x:List Value} {p:List Tm} (h:PolyX tu tt W x p) (hE:Ext W W'):PolyX tu tt W' x p:=let⟨s,e,h⟩:=h;⟨s,e,h.ext hE⟩
theorem RPolyX.ext {tu tt:TypeId} {W W':PW} {x:List Value} {p:List Tm} (h:RPolyX tu tt W x p) (hE:Ext W W'):RPolyX tu tt W' x p:=let⟨s,e,h⟩:=h;⟨s,e,h.ext hE⟩
def IsPolys (tu tt:TypeId) (W:PW) (s:Sl) (ps:List (List Tm)):Prop:=∃xs,RowA W 1 s xs∧All2 (PolyX tu tt W) xs ps
def IsRPolys (tu tt:TypeId) (W:PW) (s:Sl) (ps:List (List Tm)):Prop:=∃xs,RowA W 1 s xs∧All2 (RPolyX tu tt W) xs ps
theorem IsPolys.ext {tu tt:TypeId} {W W':PW} {s:Sl} {ps:List (List Tm)} (h:IsPolys tu tt W s ps) (hE:Ext W W'):IsPolys tu tt W' s ps:=let⟨xs,h1,h2⟩:=h;⟨xs,h1.ext hE,h2.mono fun _ _ h=>h.ext hE⟩
theorem IsRPolys.ext {tu tt:TypeId} {W W':PW} {s:Sl} {ps:List (List Tm)} (h:IsRPolys tu tt W s ps) (hE:Ext W W'):IsRPolys tu tt W' s ps:=let⟨xs,h1,h2⟩:=h;⟨xs,h1.ext hE,h2.mono fun _ _ h=>h.ext hE⟩
theorem IsPolys.n {tu tt:TypeId} {W:PW} {s:Sl} {ps:List (List Tm)} (h:IsPolys tu tt W s ps):s.n=ps.length:=let⟨xs,⟨_,h1⟩,h2⟩:=h;h1.1.trans h2.len
theorem IsRPolys.n {tu tt:TypeId} {W:PW} {s:Sl} {ps:List (List Tm)} (h:IsRPolys tu tt W s ps):s.n=ps.length:=let⟨xs,⟨_,h1⟩,h2⟩:=h;h1.1.trans h2.len
theorem IsPolys.inB {tu tt:TypeId} {W:PW} {s:Sl} {ps:List (List Tm)} (h:IsPolys tu tt W s ps) {i:Int} (h0:0≤i) (h1:i<(ps.length:Int)):SX.inB s i:=let⟨xs,⟨_,h2⟩,h3⟩:=h;h2.inB h0 (by rw[h3.len];exact h1)
theorem IsRPolys.inB {tu tt:TypeId} {W:PW} {s:Sl} {ps:List (List Tm)} (h:IsRPolys tu tt W s ps) {i:Int} (h0:0≤i) (h1:i<(ps.length:Int)):SX.inB s i:=let⟨xs,⟨_,h2⟩,h3⟩:=h;h2.inB h0 (by rw[h3.len];exact h1)
theorem IsPolys.at {tu tt:TypeId} {W:PW} {s:Sl} {ps:List (List Tm)} (h:IsPolys tu tt W s ps) {i:Nat} (hi:i<ps.length): ∃x:Sl,ElemAt W s 1 i 0 [x.v]∧IsPoly tu tt W x ps[i]:=by
 obtain⟨xs,⟨_,h1⟩,h2⟩:=h
 obtain⟨x,hx,y,rfl,hp⟩:=h2.get (List.getElem?_eq_getElem hi)
 exact⟨y,h1.part hx 0 rfl,hp⟩
theorem IsRPolys.at {tu tt:TypeId} {W:PW} {s:Sl} {ps:List (List Tm)} (h:IsRPolys tu tt W s ps) {i:Nat} (hi:i<ps.length): ∃x:Sl,ElemAt W s 1 i 0 [x.v]∧IsRPoly tu tt W x ps[i]:=by
 obtain⟨xs,⟨_,h1⟩,h2⟩:=h
 obtain⟨x,hx,y,rfl,hp⟩:=h2.get (List.getElem?_eq_getElem hi)
 exact⟨y,h1.part hx 0 rfl,hp⟩
end Go.SX

/- A polynomial in normal form has no more terms than there are monomials. -/
set_option linter.unusedVariables false
namespace Go.SX
def Mon.code (m:Mon):Nat:=(m.x*65536+m.y*256+m.z).toNat
theorem Mon.code_lt {m:Mon} (h:m.ok):m.code<16777216:=by unfold Mon.code;unfold Mon.ok at h;omega
theorem Mon.code_inj {a b:Mon} (ha:a.ok) (hb:b.ok) (h:a.code=b.code):a=b:=by
 unfold Mon.code at h
 unfold Mon.ok at ha hb
 exact Mon.ext3 (by omega) (by omega) (by omega)
theorem nodup_bound: ∀{n:Nat} {l:List Nat} (_:l.Nodup) (_: ∀x∈l,x<n),l.length≤n
 | 0,l,_,h=>by
  cases l with
  | nil=>exact Nat.le_refl _
  | cons x r=>exact absurd (h x (by simp)) (Nat.not_lt_zero x)
 | n+1,l,hn,h=>by
  have h1:=nodup_bound (n:=n) (l:=l.filter fun x=>x != n) (hn.sublist List.filter_sublist) fun x hx=>by
   obtain⟨a,b⟩:=List.mem_filter.1 hx
   have:=h x a
   simp at b
   omega
  have h2:l.length≤(l.filter fun x=>x != n).length+1:=by
   clear h1 h
   induction l with
   | nil=>simp
   | cons y r ih=>
    rw[List.nodup_cons] at hn
    by_cases e:y=n
    ·subst e
     have:(r.filter fun x=>x != y)=r:=List.filter_eq_self.2 fun x hx=>by
      have:x≠y:=fun e=>hn.1 (e ▸ hx)
      simpa using this
     simp[this]
    ·have:=ih hn.2
     simp[e]
     omega
  omega
theorem PGood.len {p:List Tm} (h:PGood p) (ho:POk p):p.length≤16777216:=by
 have h1:(p.map fun t=>t.1.code).Nodup:=by
  have:p.Pairwise fun a b=>a.1.code≠b.1.code:=by
   refine List.Pairwise.imp_of_mem ?_ h.srt
   intro a b ha hb hlt e
   exact Mon.lt_ne hlt (Mon.code_inj (ho a ha) (ho b hb) e)
  exact List.pairwise_map.2 this
 have:=nodup_bound h1 fun x hx=>by
  obtain⟨t,ht,rfl⟩:=List.mem_map.1 hx
  exact Mon.code_lt (ho t ht)
 simpa using this
end Go.SX
