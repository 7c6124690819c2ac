/- The program's intervals. -/
import Derived.Test.YthpmkcidkcmlgaaGreatW16
import Derived.Test.YthpmkcidkcmlgaaGreatLib5
import Derived.Test.YthpmkcidkcmlgaaGreatR16
import Derived.Test.YthpmkcidkcmlgaaGreatLib3
import Derived.Test.YthpmkcidkcmlgaaGreatRows
import Derived.WalkKit
import Derived.ProofKit
import Derived.OpenShut
import Derived.JoinedCond
import Derived.Carry
import Derived.Deep.Strs
import Derived.Deep.Slices
set_option linter.unusedVariables false
set_option linter.unusedSimpArgs false
set_option maxRecDepth 100000
set_option linter.unusedVariables false
set_option linter.unusedSimpArgs false
namespace Go.Proofs.YthpmkcidkcmlgaaGreat
open Go Go.SX
theorem spanNew_ok {W0:PW} {M:Nat→Prop} {s t s' t':Sl} {b b':Bool} {p q:Rat} {k:Nat} (h1:IsRat 317 W0 s b t p) (h2:IsRat 317 W0 s' b' t' q) (hp:Sz k p) (hq:Sz k q) (hk:k≤34359738368):
  PCallsM Go.Proofs.Tryz.prog 36 [.agg ⟨[s.v,.bool b,t.v]⟩,.agg ⟨[s'.v,.bool b',t'.v]⟩] W0 M fun v W'=>∃(l:List Value),v = .tuple ⟨[.agg ⟨l⟩,.bool (decide (p≤q))]⟩∧SpV 317 W' l (if p≤q then(p,q) else(0,0)):=by
 apply callspan_New
 refine ratCmp_call h1 h2 hp hq hk hk fun W2 hE2 _=>⟨_,rfl,fun h W4 hE4=>?_,fun h W5 hE5=>?_⟩
 ·have h:=cmpQ_gt.1 h
  have h':¬p≤q:=Rat.not_le.2 h
  rw[if_neg h',decide_eq_false h']
  exact⟨_,rfl,SpV.zero W4⟩
 ·have h':p≤q:=Rat.not_lt.1 fun e=>h (cmpQ_gt.2 e)
  rw[if_pos h',decide_eq_true h']
  exact⟨_,rfl,SpV.mk (x:=(p,q)) (h1.ext (hE2.trans hE5)) (h2.ext (hE2.trans hE5))⟩
theorem spanNew_call {W0 W:PW} {M:Nat→Prop} {s t s' t':Sl} {b b':Bool} {p q:Rat} {k:Nat} {K:Value→PW→Prop} (h1:IsRat 317 W s b t p) (h2:IsRat 317 W s' b' t' q) (hp:Sz k p) (hq:Sz k q) (hk:k≤34359738368) (kont: ∀(l:List Value) (W':PW),Ext W W'→(SpV 317 W' l (if p≤q then(p,q) else(0,0)))→K (.tuple ⟨[.agg ⟨l⟩,.bool (decide (p≤q))]⟩) W'):
  callN Go.Proofs.Tryz.prog W0 M 36 [.agg ⟨[s.v,.bool b,t.v]⟩,.agg ⟨[s'.v,.bool b',t'.v]⟩] W K:=
 callN_of (fun W' hE=>spanNew_ok (M:=fun _=>False) (h1.ext hE) (h2.ext hE) hp hq hk) (fun W' v W'' hE hE' hP=>by
  obtain⟨l,rfl,h⟩:=hP
  exact kont l W'' (hE.trans hE') h)
end Go.Proofs.YthpmkcidkcmlgaaGreat

/- Arguments opened: what every kind of argument needs. -/
set_option maxRecDepth 100000
set_option linter.unusedVariables false
set_option linter.unusedSimpArgs false
namespace Go.Proofs.YthpmkcidkcmlgaaGreat
open Go Go.SX Go.ChangeShapes Go.WideShapes Go.ChangeAt Go.RowKit Go.Deep
theorem ownKnob_none:ownKnob Go.Proofs.Tryz.prog.godebug=none:=by kernel_rfl
theorem laidOut:laidOutB Go.Proofs.Tryz.prog=true:=by kernel_rfl
theorem cells_str:Go.Proofs.Tryz.prog.cellsOf 9=1:=by kernel_rfl
theorem cell_block {W:World} {b o:Nat} {v:Value} (h:W.cell? ⟨b,o,none⟩=some v): ∃cs t fz,W.heap[b]?=some (.cells cs t fz)∧cs[o]?=some v:=by
 unfold World.cell? at h
 cases e:W.heap[b]? with
 | none=>simp[e] at h
 | some ob=>
  cases ob with
  | cells cs t fz=>exact⟨cs,t,fz,rfl,by simpa[e] using h⟩
  | _=>simp[e] at h
theorem bulk_one {H:Type} (d:DataW H):1≤Rows.uptoBulk d:=by
 cases d with
 | lit l=>cases l<;>simp[Rows.uptoBulk]
 | nil=>simp[Rows.uptoBulk]
 | ptr d=>simp[Rows.uptoBulk]
 | slice elems spare=>simp[Rows.uptoBulk]
 | agg parts=>simp[Rows.uptoBulk]
 | iface t d=>simp[Rows.uptoBulk]
 | map entries=>simp[Rows.uptoBulk]
 | held h=>simp[Rows.uptoBulk]
theorem bulk_part {H:Type} {d:DataW H} {l:List (DataW H)} (h:d∈l):Rows.uptoBulk d≤Rows.uptoBulkAll l:=by
 induction l with
 | nil=>cases h
 | cons x r ih=>
  simp only[Rows.uptoBulkAll]
  cases List.mem_cons.1 h with
  | inl e=>subst e;omega
  | inr e=>have:=ih e;omega
theorem bulk_length {H:Type} (l:List (DataW H)):l.length≤Rows.uptoBulkAll l:=by
 induction l with
 | nil=>simp[Rows.uptoBulkAll]
 | cons x r ih=>have:=bulk_one x;simp only[Rows.uptoBulkAll,List.length_cons];omega
theorem rowA_of_cellsN {W:World} {a:Addr} {n c sz:Nat} {V:Nat→List Value} (h: ∀j,j<n→∀i v,(V j)[i]?=some v→W.cell? (a.add (j*sz+i))=some v) (hV: ∀j,j<n→(V j).length=sz) (hsz:0<sz) (hn:n≤c) (hc:c≤maxLen) (h1: ∀j,j<n→∀u∈V j,u.oneCell'=true):
  RowA ⟨W,fun _=>False⟩ sz ⟨some a,n,c⟩ ((List.range n).map V):=by
 have hel: ∀x∈(List.range n).map V,x.length=sz∧∀u∈x,u.oneCell'=true:=by
  intro x hx
  obtain⟨j,hj,rfl⟩:=List.mem_map.1 hx
  exact⟨hV j (List.mem_range.1 hj),h1 j (List.mem_range.1 hj)⟩
 by_cases h0:n=0
 ·subst h0
  exact⟨0,rfl,Nat.zero_le _,hc,hel,.inl rfl⟩
 ·obtain⟨b,off,sp⟩:=a
  have hlen0:=hV 0 (by omega)
  obtain⟨v0,hv0⟩: ∃v,(V 0)[0]?=some v:=⟨_,List.getElem?_eq_getElem (by omega)⟩
  have hc0:=h 0 (by omega) 0 v0 hv0
  have hsp:sp=none:=by simpa[Addr.add] using World.cell?_spot hc0
  subst hsp
  obtain⟨cs,t,fz,hh,_⟩:=cell_block (by rw[←add_plain];exact hc0)
  refine⟨t,by simp,hn,hc,hel,.inr ⟨b,off,cs,fz,rfl,id,hh,fun j v hj=>?_⟩⟩
  have hjl:=(List.getElem?_eq_some_iff.1 hj).1
  rw[flatten_length (sz:=sz) (fun x hx=>(hel x hx).1)] at hjl
  simp only[List.length_map,List.length_range] at hjl
  have hi:j/sz<n:=(Nat.div_lt_iff_lt_mul hsz).2 hjl
  have hm:j%sz<sz:=Nat.mod_lt _ hsz
  have e:j/sz*sz+j%sz=j:=by rw[Nat.mul_comm];exact Nat.div_add_mod j sz
  have hx:((List.range n).map V)[j/sz]?=some (V (j/sz)):=by simp[hi]
  have hl:=hV _ hi
  have hf:=flatten_at (sz:=sz) (fun x hx=>(hel x hx).1) hx (j:=j%sz) (v:=(V (j/sz))[j%sz]'(by omega)) (List.getElem?_eq_getElem (by omega))
  rw[e,hj] at hf
  have hcell:=h _ hi (j%sz) v (by rw[hf];exact List.getElem?_eq_getElem (by omega))
  rw[e,add_plain] at hcell
  obtain⟨cs',t',fz',hh',hv⟩:=cell_block hcell
  rw[hh] at hh'
  cases hh'
  exact hv
theorem rowA_of_cells {W:World} {a:Addr} {n c:Nat} {V:Nat→Value} (h: ∀j,j<n→W.cell? (a.add j)=some (V j)) (hn:n≤c) (hc:c≤maxLen) (h1: ∀j,j<n→(V j).oneCell'=true):RowA ⟨W,fun _=>False⟩ 1 ⟨some a,n,c⟩ ((List.range n).map fun j=>[V j]):=by
 have hel: ∀x∈(List.range n).map (fun j=>[V j]),x.length=1∧∀u∈x,u.oneCell'=true:=by
  intro x hx
  obtain⟨j,hj,rfl⟩:=List.mem_map.1 hx
  exact⟨rfl,fun u hu=>by rw[List.mem_singleton.1 hu];exact h1 j (List.mem_range.1 hj)⟩
 by_cases h0:n=0
 ·subst h0
  exact⟨0,rfl,Nat.zero_le _,hc,hel,.inl rfl⟩
 ·obtain⟨b,off,sp⟩:=a
  have hsp:sp=none:=by simpa[Addr.add] using World.cell?_spot (h 0 (by omega))
  subst hsp
  have h': ∀j,j<n→W.cell? ⟨b,off+j,none⟩=some (V j):=fun j hj=>by rw[←add_plain];exact h j hj
  obtain⟨cs,t,fz,hh,_⟩:=cell_block (h' 0 (by omega))
  refine⟨t,by simp,hn,hc,hel,.inr ⟨b,off,cs,fz,rfl,id,hh,fun j v hj=>?_⟩⟩
  have e:((List.range n).map fun j=>[V j]).flatten=(List.range n).map V:=by
   rw[←List.flatMap_def]
   generalize List.range n=l
   induction l with
   | nil=>rfl
   | cons y r ih=>simp[List.flatMap_cons,ih]
  rw[e] at hj
  have hjn:j<n:=by
   have:=(List.getElem?_eq_some_iff.1 hj).1
   simpa using this
  obtain⟨cs',t',fz',hh',hv⟩:=cell_block (h' j hjn)
  rw[hh] at hh'
  cases hh'
  simp[hjn] at hj
  rw[←hj]
  exact hv
end Go.Proofs.YthpmkcidkcmlgaaGreat

/- An argument that is a slice of terms with texts, opened. -/
set_option maxRecDepth 100000
set_option linter.unusedVariables false
set_option linter.unusedSimpArgs false
namespace Go.Proofs.YthpmkcidkcmlgaaGreat
open Go Go.SX Go.ChangeShapes Go.WideShapes Go.ChangeAt Go.RowKit Go.Deep
instance:Inhabited (Mon×ByteArray):=⟨(⟨0,0,0⟩,⟨#[]⟩)⟩
theorem cells_term:Go.Proofs.Tryz.prog.cellsOf 185=4:=by kernel_rfl
theorem cells_mono:Go.Proofs.Tryz.prog.cellsOf 183=3:=by kernel_rfl
theorem cells_u8:Go.Proofs.Tryz.prog.cellsOf 5=1:=by kernel_rfl
theorem u8_ok {n:Int} (h:(Lit.int .u8 n).wf=true):0≤n∧n≤255:=by
 simp[Lit.wf,IntKind.min,IntKind.max,IntKind.bits,IntKind.signed] at h
 omega
theorem open_term {H:Type} {enc:TypeId×Value→H} {W:World} {fuel:Nat} {cs:List Value} {x:DataW H×List MemPlace} (h:DataW.trod enc Go.Proofs.Tryz.prog W 0 (fun _=>true) true fuel 185 cs=some x):
  ∃t:Mon×ByteArray,AT cs t∧t.2.size≤Rows.uptoBulk x.1:=by
 obtain⟨xs,k,rfl,rfl,hl,hxl,hf⟩:=DataW.trod_struct Go.Proofs.Tryz.underlying185 h
 rw[cells_term] at hl
 have g0:DataW.trod enc Go.Proofs.Tryz.prog W 0 (fun _=>true) true k 183 ((cs.drop 0).take (Go.Proofs.Tryz.prog.cellsOf 183))=xs[0]?:=hf 0 _ rfl
 have g1:DataW.trod enc Go.Proofs.Tryz.prog W 0 (fun _=>true) true k 9 ((cs.drop 3).take (Go.Proofs.Tryz.prog.cellsOf 9))=xs[1]?:=hf 1 _ rfl
 rw[cells_mono] at g0
 rw[cells_str] at g1
 match cs,hl,xs,hxl with
 | [v0,v1,v2,v3],_,[y0,y1],_=>
  have g0:DataW.trod enc Go.Proofs.Tryz.prog W 0 (fun _=>true) true k 183 [v0,v1,v2]=some y0:=g0
  have g1:DataW.trod enc Go.Proofs.Tryz.prog W 0 (fun _=>true) true k 9 [v3]=some y1:=g1
  obtain⟨zs,m,rfl,rfl,_,hzl,hz⟩:=DataW.trod_array Go.Proofs.Tryz.underlying183 g0
  obtain⟨s,hs,rfl,hsz⟩:=DataW.trod_string Go.Proofs.Tryz.underlying9 g1
  have e0:=hz 0 (by omega)
  have e1:=hz 1 (by omega)
  have e2:=hz 2 (by omega)
  rw[cells_u8] at e0 e1 e2
  match zs,hzl with
  | [w0,w1,w2],_=>
   have e0:DataW.trod enc Go.Proofs.Tryz.prog W 0 (fun _=>true) true m 5 [v0]=some w0:=e0
   have e1:DataW.trod enc Go.Proofs.Tryz.prog W 0 (fun _=>true) true m 5 [v1]=some w1:=e1
   have e2:DataW.trod enc Go.Proofs.Tryz.prog W 0 (fun _=>true) true m 5 [v2]=some w2:=e2
   obtain⟨n0,h0,_,k0⟩:=DataW.trod_int Go.Proofs.Tryz.underlying5 e0
   obtain⟨n1,h1,_,k1⟩:=DataW.trod_int Go.Proofs.Tryz.underlying5 e1
   obtain⟨n2,h2,_,k2⟩:=DataW.trod_int Go.Proofs.Tryz.underlying5 e2
   have hs: [v3] = [Value.string s]:=hs
   have h0: [v0] = [Value.int .u8 n0]:=h0
   have h1: [v1] = [Value.int .u8 n1]:=h1
   have h2: [v2] = [Value.int .u8 n2]:=h2
   simp only[List.cons.injEq,and_true] at hs h0 h1 h2
   subst hs h0 h1 h2
   refine⟨(⟨n0,n1,n2⟩,s),⟨⟨u8_ok k0,u8_ok k1,u8_ok k2⟩,rfl⟩,?_⟩
   have e:s.data.toList.length=s.size:=by rw[Array.length_toList];rfl
   simp only[List.map_cons,List.map_nil,Rows.uptoBulk,Rows.uptoBulkAll]
   omega
theorem all2_map {n:Nat} {V:Nat→List Value} {y:Nat→Mon×ByteArray} (h: ∀i,i<n→AT (V i) (y i)):All2 AT ((List.range n).map V) ((List.range n).map y):=by
 induction n with
 | zero=>trivial
 | succ n ih=>
  rw[List.range_succ,List.map_append,List.map_append]
  exact(ih fun i hi=>h i (by omega)).append ⟨h n (by omega),trivial⟩
theorem open_terms {H:Type} {enc:TypeId×Value→H} {W:World} {fuel:Nat} {v:Value} {d:DataW H} {p:List MemPlace} (h:DataW.trod enc Go.Proofs.Tryz.prog W 0 (fun _=>true) true fuel 22 [v]=some (d,p)):
  ∃(s:Sl) (L:List (Mon×ByteArray)),v=s.v∧IsAPoly ⟨W,fun _=>False⟩ s L∧L.length≤Rows.uptoBulk d∧∀t∈L,t.2.size≤Rows.uptoBulk d:=by
 rcases open_slice Go.Proofs.Tryz.underlying22 h with⟨hcs,hx⟩ | ⟨a,len,cap,m,n,D,Pl,hcs,_,hl,hm,hmm,hx,hcell⟩
 ·have hv:v = .slice none 0 0:=by simpa using hcs
  subst hv
  exact⟨⟨none,0,0⟩,[],rfl,⟨[],⟨0,rfl,Nat.le_refl _,Nat.zero_le _,fun x h=>by simp at h,.inl rfl⟩,trivial⟩,Nat.zero_le _,fun l h=>by simp at h⟩
 ·have hv:v = .slice (some a) len cap:=by simpa using hcs
  subst hv
  simp only[if_true] at hmm
  subst hmm
  simp only[Prod.mk.injEq] at hx
  obtain⟨rfl,_⟩:=hx
  rw[cells_term] at hcell
  obtain⟨q,hq⟩: ∃q:Nat→List Value×(Mon×ByteArray),∀i,i<m→W.cells? 0 (a.add (i*4)) 4=some (q i).1∧AT (q i).1 (q i).2∧(q i).2.2.size≤Rows.uptoBulk (D i):=choose_lt (α:=List Value×(Mon×ByteArray)) (p:=fun i q=>W.cells? 0 (a.add (i*4)) 4=some q.1∧AT q.1 q.2∧q.2.2.size≤Rows.uptoBulk (D i)) fun i hi=>by
   obtain⟨cs',h1,h2⟩:=hcell i hi
   obtain⟨t,h3,h4⟩:=open_term h2
   exact⟨(cs',t),h1,h3,h4⟩
  have hr:=rowA_of_cellsN (W:=W) (a:=a) (n:=len) (c:=m) (sz:=4) (V:=fun i=>(q i).1) (fun j hj i v hv=>by
   obtain⟨_,hlen,hc⟩:=World.cells?_some (hq j (by omega)).1
   have hi:i<4:=by have:=(List.getElem?_eq_some_iff.1 hv).1;omega
   have:=hc i hi
   rw[add_add] at this
   rw[this];exact hv) (fun j hj=>(World.cells?_some (hq j (by omega)).1).2.1) (by omega) hl hm (fun j hj u hu=>by
   rw[(hq j (by omega)).2.1.2] at hu
   simp only[List.mem_cons,List.not_mem_nil,or_false] at hu
   rcases hu with rfl | rfl | rfl | rfl<;>rfl)
  have hbulk: ∀i,i<len→Rows.uptoBulk (D i)≤Rows.uptoBulkAll ((List.range len).map D):=fun i hi=>bulk_part (List.mem_map.2 ⟨i,List.mem_range.2 hi,rfl⟩)
  have hlen:=bulk_length ((List.range len).map D)
  simp only[List.length_map,List.length_range] at hlen
  refine⟨⟨some a,len,m⟩,(List.range len).map fun i=>(q i).2,rfl,⟨_,hr,all2_map fun i hi=>(hq i (by omega)).2.1⟩,?_,fun t ht=>?_⟩
  ·simp only[List.length_map,List.length_range,Rows.uptoBulk]
   omega
  ·obtain⟨j,hj,rfl⟩:=List.mem_map.1 ht
   have hj':=List.mem_range.1 hj
   have h1:=hbulk j hj'
   have h2:=(hq j (by omega)).2.2
   simp only[Rows.uptoBulk]
   omega
end Go.Proofs.YthpmkcidkcmlgaaGreat

/- An argument that is a slice of squares' texts, opened. -/
set_option maxRecDepth 100000
set_option linter.unusedVariables false
set_option linter.unusedSimpArgs false
namespace Go.Proofs.YthpmkcidkcmlgaaGreat
open Go Go.SX Go.ChangeShapes Go.WideShapes Go.ChangeAt Go.RowKit Go.Deep
abbrev SqT:=ByteArray×Int×List (Mon×ByteArray)
def SqA (W:PW) (cs:List Value) (t:SqT):Prop:=∃s:Sl,cs = [.string t.1,.int .i64 t.2.1,s.v]∧IsAPoly W s t.2.2
def IsSqs (W:PW) (s:Sl) (L:List SqT):Prop:=∃xs,RowA W 3 s xs∧All2 (SqA W) xs L
end Go.Proofs.YthpmkcidkcmlgaaGreat

/- Arguments of pairs of texts, opened. -/
set_option maxRecDepth 100000
set_option linter.unusedVariables false
set_option linter.unusedSimpArgs false
namespace Go.Proofs.YthpmkcidkcmlgaaGreat
open Go Go.SX Go.ChangeShapes Go.WideShapes Go.ChangeAt Go.RowKit Go.Deep
end Go.Proofs.YthpmkcidkcmlgaaGreat
