/- Arguments opened: what every kind of argument needs. -/
import Derived.Test.YthpmkcidkcmlgaaGreatLib2
import Derived.Test.YthpmkcidkcmlgaaGreatLib3
import Derived.Test.YthpmkcidkcmlgaaGreatRows
import Derived.WalkKit
import Derived.ProofKit
import Derived.OpenShut
import Derived.JoinedCond
import Derived.Carry
import Derived.Deep.Strs
import Derived.Deep.Slices
import Derived.Test.YthpmkcidkcmlgaaGreatW21
import Derived.Test.YthpmkcidkcmlgaaGreatLib4
set_option linter.unusedVariables false
set_option linter.unusedSimpArgs false
set_option maxRecDepth 100000
set_option linter.unusedVariables false
set_option linter.unusedSimpArgs false
namespace Go.Proofs.YthpmkcidkcmlgaaGreat
open Go Go.SX Go.ChangeShapes Go.WideShapes Go.ChangeAt Go.RowKit Go.Deep
theorem ownKnob_none:ownKnob Go.Proofs.Tryz.prog.godebug=none:=by kernel_rfl
theorem laidOut:laidOutB Go.Proofs.Tryz.prog=true:=by kernel_rfl
theorem cells_str:Go.Proofs.Tryz.prog.cellsOf 9=1:=by kernel_rfl
theorem cell_block {W:World} {b o:Nat} {v:Value} (h:W.cell? ⟨b,o,none⟩=some v): ∃cs t fz,W.heap[b]?=some (.cells cs t fz)∧cs[o]?=some v:=by
 unfold World.cell? at h
 cases e:W.heap[b]? with
 | none=>simp[e] at h
 | some ob=>
  cases ob with
  | cells cs t fz=>exact⟨cs,t,fz,rfl,by simpa[e] using h⟩
  | _=>simp[e] at h
theorem bulk_one {H:Type} (d:DataW H):1≤Rows.uptoBulk d:=by
 cases d with
 | lit l=>cases l<;>simp[Rows.uptoBulk]
 | nil=>simp[Rows.uptoBulk]
 | ptr d=>simp[Rows.uptoBulk]
 | slice elems spare=>simp[Rows.uptoBulk]
 | agg parts=>simp[Rows.uptoBulk]
 | iface t d=>simp[Rows.uptoBulk]
 | map entries=>simp[Rows.uptoBulk]
 | held h=>simp[Rows.uptoBulk]
theorem bulk_part {H:Type} {d:DataW H} {l:List (DataW H)} (h:d∈l):Rows.uptoBulk d≤Rows.uptoBulkAll l:=by
 induction l with
 | nil=>cases h
 | cons x r ih=>
  simp only[Rows.uptoBulkAll]
  cases List.mem_cons.1 h with
  | inl e=>subst e;omega
  | inr e=>have:=ih e;omega
theorem bulk_length {H:Type} (l:List (DataW H)):l.length≤Rows.uptoBulkAll l:=by
 induction l with
 | nil=>simp[Rows.uptoBulkAll]
 | cons x r ih=>have:=bulk_one x;simp only[Rows.uptoBulkAll,List.length_cons];omega
theorem rowA_of_cellsN {W:World} {a:Addr} {n c sz:Nat} {V:Nat→List Value} (h: ∀j,j<n→∀i v,(V j)[i]?=some v→W.cell? (a.add (j*sz+i))=some v) (hV: ∀j,j<n→(V j).length=sz) (hsz:0<sz) (hn:n≤c) (hc:c≤maxLen) (h1: ∀j,j<n→∀u∈V j,u.oneCell'=true):
  RowA ⟨W,fun _=>False⟩ sz ⟨some a,n,c⟩ ((List.range n).map V):=by
 have hel: ∀x∈(List.range n).map V,x.length=sz∧∀u∈x,u.oneCell'=true:=by
  intro x hx
  obtain⟨j,hj,rfl⟩:=List.mem_map.1 hx
  exact⟨hV j (List.mem_range.1 hj),h1 j (List.mem_range.1 hj)⟩
 by_cases h0:n=0
 ·subst h0
  exact⟨0,rfl,Nat.zero_le _,hc,hel,.inl rfl⟩
 ·obtain⟨b,off,sp⟩:=a
  have hlen0:=hV 0 (by omega)
  obtain⟨v0,hv0⟩: ∃v,(V 0)[0]?=some v:=⟨_,List.getElem?_eq_getElem (by omega)⟩
  have hc0:=h 0 (by omega) 0 v0 hv0
  have hsp:sp=none:=by simpa[Addr.add] using World.cell?_spot hc0
  subst hsp
  obtain⟨cs,t,fz,hh,_⟩:=cell_block (by rw[←add_plain];exact hc0)
  refine⟨t,by simp,hn,hc,hel,.inr ⟨b,off,cs,fz,rfl,id,hh,fun j v hj=>?_⟩⟩
  have hjl:=(List.getElem?_eq_some_iff.1 hj).1
  rw[flatten_length (sz:=sz) (fun x hx=>(hel x hx).1)] at hjl
  simp only[List.length_map,List.length_range] at hjl
  have hi:j/sz<n:=(Nat.div_lt_iff_lt_mul hsz).2 hjl
  have hm:j%sz<sz:=Nat.mod_lt _ hsz
  have e:j/sz*sz+j%sz=j:=by rw[Nat.mul_comm];exact Nat.div_add_mod j sz
  have hx:((List.range n).map V)[j/sz]?=some (V (j/sz)):=by simp[hi]
  have hl:=hV _ hi
  have hf:=flatten_at (sz:=sz) (fun x hx=>(hel x hx).1) hx (j:=j%sz) (v:=(V (j/sz))[j%sz]'(by omega)) (List.getElem?_eq_getElem (by omega))
  rw[e,hj] at hf
  have hcell:=h _ hi (j%sz) v (by rw[hf];exact List.getElem?_eq_getElem (by omega))
  rw[e,add_plain] at hcell
  obtain⟨cs',t',fz',hh',hv⟩:=cell_block hcell
  rw[hh] at hh'
  cases hh'
  exact hv
end Go.Proofs.YthpmkcidkcmlgaaGreat

/- An argument that is a slice of terms with texts, opened. -/
set_option maxRecDepth 100000
set_option linter.unusedVariables false
set_option linter.unusedSimpArgs false
namespace Go.Proofs.YthpmkcidkcmlgaaGreat
open Go Go.SX Go.ChangeShapes Go.WideShapes Go.ChangeAt Go.RowKit Go.Deep
instance:Inhabited (Mon×ByteArray):=⟨(⟨0,0,0⟩,⟨#[]⟩)⟩
theorem cells_term:Go.Proofs.Tryz.prog.cellsOf 185=4:=by kernel_rfl
theorem cells_mono:Go.Proofs.Tryz.prog.cellsOf 183=3:=by kernel_rfl
theorem cells_u8:Go.Proofs.Tryz.prog.cellsOf 5=1:=by kernel_rfl
theorem u8_ok {n:Int} (h:(Lit.int .u8 n).wf=true):0≤n∧n≤255:=by
 simp[Lit.wf,IntKind.min,IntKind.max,IntKind.bits,IntKind.signed] at h
 omega
theorem open_term {H:Type} {enc:TypeId×Value→H} {W:World} {fuel:Nat} {cs:List Value} {x:DataW H×List MemPlace} (h:DataW.trod enc Go.Proofs.Tryz.prog W 0 (fun _=>true) true fuel 185 cs=some x):
  ∃t:Mon×ByteArray,AT cs t∧t.2.size≤Rows.uptoBulk x.1:=by
 obtain⟨xs,k,rfl,rfl,hl,hxl,hf⟩:=DataW.trod_struct Go.Proofs.Tryz.underlying185 h
 rw[cells_term] at hl
 have g0:DataW.trod enc Go.Proofs.Tryz.prog W 0 (fun _=>true) true k 183 ((cs.drop 0).take (Go.Proofs.Tryz.prog.cellsOf 183))=xs[0]?:=hf 0 _ rfl
 have g1:DataW.trod enc Go.Proofs.Tryz.prog W 0 (fun _=>true) true k 9 ((cs.drop 3).take (Go.Proofs.Tryz.prog.cellsOf 9))=xs[1]?:=hf 1 _ rfl
 rw[cells_mono] at g0
 rw[cells_str] at g1
 match cs,hl,xs,hxl with
 | [v0,v1,v2,v3],_,[y0,y1],_=>
  have g0:DataW.trod enc Go.Proofs.Tryz.prog W 0 (fun _=>true) true k 183 [v0,v1,v2]=some y0:=g0
  have g1:DataW.trod enc Go.Proofs.Tryz.prog W 0 (fun _=>true) true k 9 [v3]=some y1:=g1
  obtain⟨zs,m,rfl,rfl,_,hzl,hz⟩:=DataW.trod_array Go.Proofs.Tryz.underlying183 g0
  obtain⟨s,hs,rfl,hsz⟩:=DataW.trod_string Go.Proofs.Tryz.underlying9 g1
  have e0:=hz 0 (by omega)
  have e1:=hz 1 (by omega)
  have e2:=hz 2 (by omega)
  rw[cells_u8] at e0 e1 e2
  match zs,hzl with
  | [w0,w1,w2],_=>
   have e0:DataW.trod enc Go.Proofs.Tryz.prog W 0 (fun _=>true) true m 5 [v0]=some w0:=e0
   have e1:DataW.trod enc Go.Proofs.Tryz.prog W 0 (fun _=>true) true m 5 [v1]=some w1:=e1
   have e2:DataW.trod enc Go.Proofs.Tryz.prog W 0 (fun _=>true) true m 5 [v2]=some w2:=e2
   obtain⟨n0,h0,_,k0⟩:=DataW.trod_int Go.Proofs.Tryz.underlying5 e0
   obtain⟨n1,h1,_,k1⟩:=DataW.trod_int Go.Proofs.Tryz.underlying5 e1
   obtain⟨n2,h2,_,k2⟩:=DataW.trod_int Go.Proofs.Tryz.underlying5 e2
   have hs: [v3] = [Value.string s]:=hs
   have h0: [v0] = [Value.int .u8 n0]:=h0
   have h1: [v1] = [Value.int .u8 n1]:=h1
   have h2: [v2] = [Value.int .u8 n2]:=h2
   simp only[List.cons.injEq,and_true] at hs h0 h1 h2
   subst hs h0 h1 h2
   refine⟨(⟨n0,n1,n2⟩,s),⟨⟨u8_ok k0,u8_ok k1,u8_ok k2⟩,rfl⟩,?_⟩
   have e:s.data.toList.length=s.size:=by rw[Array.length_toList];rfl
   simp only[List.map_cons,List.map_nil,Rows.uptoBulk,Rows.uptoBulkAll]
   omega
theorem all2_map {n:Nat} {V:Nat→List Value} {y:Nat→Mon×ByteArray} (h: ∀i,i<n→AT (V i) (y i)):All2 AT ((List.range n).map V) ((List.range n).map y):=by
 induction n with
 | zero=>trivial
 | succ n ih=>
  rw[List.range_succ,List.map_append,List.map_append]
  exact(ih fun i hi=>h i (by omega)).append ⟨h n (by omega),trivial⟩
theorem open_terms {H:Type} {enc:TypeId×Value→H} {W:World} {fuel:Nat} {v:Value} {d:DataW H} {p:List MemPlace} (h:DataW.trod enc Go.Proofs.Tryz.prog W 0 (fun _=>true) true fuel 22 [v]=some (d,p)):
  ∃(s:Sl) (L:List (Mon×ByteArray)),v=s.v∧IsAPoly ⟨W,fun _=>False⟩ s L∧L.length≤Rows.uptoBulk d∧∀t∈L,t.2.size≤Rows.uptoBulk d:=by
 rcases open_slice Go.Proofs.Tryz.underlying22 h with⟨hcs,hx⟩ | ⟨a,len,cap,m,n,D,Pl,hcs,_,hl,hm,hmm,hx,hcell⟩
 ·have hv:v = .slice none 0 0:=by simpa using hcs
  subst hv
  exact⟨⟨none,0,0⟩,[],rfl,⟨[],⟨0,rfl,Nat.le_refl _,Nat.zero_le _,fun x h=>by simp at h,.inl rfl⟩,trivial⟩,Nat.zero_le _,fun l h=>by simp at h⟩
 ·have hv:v = .slice (some a) len cap:=by simpa using hcs
  subst hv
  simp only[if_true] at hmm
  subst hmm
  simp only[Prod.mk.injEq] at hx
  obtain⟨rfl,_⟩:=hx
  rw[cells_term] at hcell
  obtain⟨q,hq⟩: ∃q:Nat→List Value×(Mon×ByteArray),∀i,i<m→W.cells? 0 (a.add (i*4)) 4=some (q i).1∧AT (q i).1 (q i).2∧(q i).2.2.size≤Rows.uptoBulk (D i):=choose_lt (α:=List Value×(Mon×ByteArray)) (p:=fun i q=>W.cells? 0 (a.add (i*4)) 4=some q.1∧AT q.1 q.2∧q.2.2.size≤Rows.uptoBulk (D i)) fun i hi=>by
   obtain⟨cs',h1,h2⟩:=hcell i hi
   obtain⟨t,h3,h4⟩:=open_term h2
   exact⟨(cs',t),h1,h3,h4⟩
  have hr:=rowA_of_cellsN (W:=W) (a:=a) (n:=len) (c:=m) (sz:=4) (V:=fun i=>(q i).1) (fun j hj i v hv=>by
   obtain⟨_,hlen,hc⟩:=World.cells?_some (hq j (by omega)).1
   have hi:i<4:=by have:=(List.getElem?_eq_some_iff.1 hv).1;omega
   have:=hc i hi
   rw[add_add] at this
   rw[this];exact hv) (fun j hj=>(World.cells?_some (hq j (by omega)).1).2.1) (by omega) hl hm (fun j hj u hu=>by
   rw[(hq j (by omega)).2.1.2] at hu
   simp only[List.mem_cons,List.not_mem_nil,or_false] at hu
   rcases hu with rfl | rfl | rfl | rfl<;>rfl)
  have hbulk: ∀i,i<len→Rows.uptoBulk (D i)≤Rows.uptoBulkAll ((List.range len).map D):=fun i hi=>bulk_part (List.mem_map.2 ⟨i,List.mem_range.2 hi,rfl⟩)
  have hlen:=bulk_length ((List.range len).map D)
  simp only[List.length_map,List.length_range] at hlen
  refine⟨⟨some a,len,m⟩,(List.range len).map fun i=>(q i).2,rfl,⟨_,hr,all2_map fun i hi=>(hq i (by omega)).2.1⟩,?_,fun t ht=>?_⟩
  ·simp only[List.length_map,List.length_range,Rows.uptoBulk]
   omega
  ·obtain⟨j,hj,rfl⟩:=List.mem_map.1 ht
   have hj':=List.mem_range.1 hj
   have h1:=hbulk j hj'
   have h2:=(hq j (by omega)).2.2
   simp only[Rows.uptoBulk]
   omega
end Go.Proofs.YthpmkcidkcmlgaaGreat

/- Arguments of pairs of texts, opened. -/
set_option maxRecDepth 100000
set_option linter.unusedVariables false
set_option linter.unusedSimpArgs false
namespace Go.Proofs.YthpmkcidkcmlgaaGreat
open Go Go.SX Go.ChangeShapes Go.WideShapes Go.ChangeAt Go.RowKit Go.Deep
theorem cells_pair:Go.Proofs.Tryz.prog.cellsOf 111=2:=by kernel_rfl
theorem open_pair {H:Type} {enc:TypeId×Value→H} {W:World} {fuel:Nat} {cs:List Value} {x:DataW H×List MemPlace} (h:DataW.trod enc Go.Proofs.Tryz.prog W 0 (fun _=>true) true fuel 111 cs=some x):
  ∃a b:ByteArray,cs = [.string a,.string b]∧a.size≤Rows.uptoBulk x.1∧b.size≤Rows.uptoBulk x.1:=by
 obtain⟨xs,k,rfl,rfl,hl,hxl,hf⟩:=DataW.trod_struct Go.Proofs.Tryz.underlying111 h
 rw[cells_pair] at hl
 have g0:DataW.trod enc Go.Proofs.Tryz.prog W 0 (fun _=>true) true k 9 ((cs.drop 0).take (Go.Proofs.Tryz.prog.cellsOf 9))=xs[0]?:=hf 0 _ rfl
 have g1:DataW.trod enc Go.Proofs.Tryz.prog W 0 (fun _=>true) true k 9 ((cs.drop 1).take (Go.Proofs.Tryz.prog.cellsOf 9))=xs[1]?:=hf 1 _ rfl
 rw[cells_str] at g0 g1
 match cs,hl,xs,hxl with
 | [v0,v1],_,[y0,y1],_=>
  have g0:DataW.trod enc Go.Proofs.Tryz.prog W 0 (fun _=>true) true k 9 [v0]=some y0:=g0
  have g1:DataW.trod enc Go.Proofs.Tryz.prog W 0 (fun _=>true) true k 9 [v1]=some y1:=g1
  obtain⟨s0,h0,rfl,_⟩:=DataW.trod_string Go.Proofs.Tryz.underlying9 g0
  obtain⟨s1,h1,rfl,_⟩:=DataW.trod_string Go.Proofs.Tryz.underlying9 g1
  have k0:v0=Value.string s0:=(List.cons.inj (show[v0] = [Value.string s0] from h0)).1
  have k1:v1=Value.string s1:=(List.cons.inj (show[v1] = [Value.string s1] from h1)).1
  subst k0 k1
  refine⟨s0,s1,rfl,?_⟩
  have e0:s0.data.toList.length=s0.size:=by rw[Array.length_toList];rfl
  have e1:s1.data.toList.length=s1.size:=by rw[Array.length_toList];rfl
  simp only[List.map_cons,List.map_nil,Rows.uptoBulk,Rows.uptoBulkAll]
  omega
end Go.Proofs.YthpmkcidkcmlgaaGreat

/- An argument of three pairs of texts, opened. -/
set_option maxRecDepth 100000
set_option linter.unusedVariables false
set_option linter.unusedSimpArgs false
namespace Go.Proofs.YthpmkcidkcmlgaaGreat
open Go Go.SX Go.ChangeShapes Go.WideShapes Go.ChangeAt Go.RowKit Go.Deep
theorem three_pairs_of {r:Reach} {w:World} {base:Nat} {v:Value} (h:Value.okWide Go.Proofs.Tryz.prog w r base 112 v): ∃xs:Array Value,v = .agg xs∧xs.size=6:=by
 simp only[Value.okWide,Go.Proofs.Tryz.underlying112] at h
 obtain⟨cs,h1,h2,_⟩:=h
 exact⟨cs,h1,by rw[h2];kernel_rfl⟩
theorem open_three_pairs {H:Type} {enc:TypeId×Value→H} {W:World} {fuel:Nat} {l:List Value} {d:DataW H} {p:List MemPlace} (h:DataW.trod enc Go.Proofs.Tryz.prog W 0 (fun _=>true) true fuel 112 l=some (d,p)) (hl:l.length=6):
  ∃a b c a' b' c':ByteArray,l = [.string a,.string a',.string b,.string b',.string c,.string c']∧(a.size≤Rows.uptoBulk d∧a'.size≤Rows.uptoBulk d)∧(b.size≤Rows.uptoBulk d∧b'.size≤Rows.uptoBulk d)∧c.size≤Rows.uptoBulk d∧c'.size≤Rows.uptoBulk d:=by
 obtain⟨zs,m,rfl,hx,_,hzl,hz⟩:=DataW.trod_array Go.Proofs.Tryz.underlying112 h
 have e0:=hz 0 (by omega)
 have e1:=hz 1 (by omega)
 have e2:=hz 2 (by omega)
 rw[cells_pair] at e0 e1 e2
 match l,hl,zs,hzl with
 | [v0,v1,v2,v3,v4,v5],_,[w0,w1,w2],_=>
  have e0:DataW.trod enc Go.Proofs.Tryz.prog W 0 (fun _=>true) true m 111 [v0,v1]=some w0:=e0
  have e1:DataW.trod enc Go.Proofs.Tryz.prog W 0 (fun _=>true) true m 111 [v2,v3]=some w1:=e1
  have e2:DataW.trod enc Go.Proofs.Tryz.prog W 0 (fun _=>true) true m 111 [v4,v5]=some w2:=e2
  obtain⟨a,a',h0,k0,k1⟩:=open_pair e0
  obtain⟨b,b',h1,k2,k3⟩:=open_pair e1
  obtain⟨c,c',h2,k4,k5⟩:=open_pair e2
  simp only[List.cons.injEq,and_true] at h0 h1 h2
  obtain⟨rfl,rfl⟩:=h0
  obtain⟨rfl,rfl⟩:=h1
  obtain⟨rfl,rfl⟩:=h2
  simp only[Prod.mk.injEq] at hx
  obtain⟨rfl,_⟩:=hx
  refine⟨a,b,c,a',b',c',rfl,?_⟩
  simp only[List.map_cons,List.map_nil,Rows.uptoBulk,Rows.uptoBulkAll]
  omega
end Go.Proofs.YthpmkcidkcmlgaaGreat

/- cincturelaw15.TmodExact answers true for every input whose bulk is at most 1048576 (the second form), and its arguments read behind the call as they did ahead of it. -/
set_option maxRecDepth 100000
set_option linter.unusedVariables false
set_option linter.unusedSimpArgs false
namespace Go.Proofs.YthpmkcidkcmlgaaGreat
open Go Go.SX Go.ChangeShapes Go.WideShapes Go.ChangeAt Go.RowKit Go.Deep
theorem contract (H:Type) (enc:TypeId×Value→H) (W:World) (base:Nat) (args:Array Value) (ds gs:List (DataW H)) (before:List MemPlace)
  (hval: ∀(j:Nat) t v,Go.Proofs.Tryz.f11.params[j]?=some t→args[j]?=some v→Value.okWide Go.Proofs.Tryz.prog W .any base t v)
  (hW:DataW.Whole enc Go.Proofs.Tryz.prog Go.Proofs.Tryz.f11.params.toList Rows.tmodExactSpec.vars false W args.toList ds gs before) (hk:Rows.uptoSmall H (ds ++ gs)=true):
  Calls Go.Proofs.Tryz.prog 11 args W fun e W'=>∃v,e = .returned v∧Rows.tmodExactSpec.post enc Go.Proofs.Tryz.prog Go.Proofs.Tryz.f11 false true false false W args v W':=by
 have hW':=hW
 obtain⟨p,q,hA0,hV,rfl,hfz,hnd⟩:=hW
 have hA:DataW.TrodAll enc Go.Proofs.Tryz.prog W 0 (fun _=>true) true Go.Proofs.Tryz.f11.params.toList args.toList ds p:=hA0
 rw[Go.Proofs.Tryz.params11] at hA hval
 obtain⟨v0,vs0,d0,ds0,p0,q0,hargs,rfl,rfl,h0,r0⟩:=trodAll_cons hA
 obtain⟨v1,vs1,d1,ds1,p1,q1,rfl,rfl,rfl,h1,r1⟩:=trodAll_cons r0
 obtain⟨v2,vs2,d2,ds2,p2,q2,rfl,rfl,rfl,h2,r2⟩:=trodAll_cons r1
 obtain⟨v3,vs3,d3,ds3,p3,q3,rfl,rfl,rfl,h3,r3⟩:=trodAll_cons r2
 obtain⟨rfl,rfl,rfl⟩:=trodAll_nil r3
 obtain rfl:args = #[v0,v1,v2,v3]:=by cases args;simp_all
 obtain⟨rfl,rfl⟩:=trodVars_none hV
 obtain⟨⟨l0⟩,rfl,hx0⟩:=three_pairs_of (hval 0 112 v0 rfl rfl)
 obtain⟨a1,n1,c1,rfl⟩:=okWide_slice Go.Proofs.Tryz.underlying22 (hval 1 22 v1 rfl rfl)
 obtain⟨a2,n2,c2,rfl⟩:=okWide_slice Go.Proofs.Tryz.underlying22 (hval 2 22 v2 rfl rfl)
 obtain⟨a3,n3,c3,rfl⟩:=okWide_slice Go.Proofs.Tryz.underlying22 (hval 3 22 v3 rfl rfl)
 clear hA0
 simp only[List.append_nil] at hW' hk
 have hlt: ∀x∈p0 ++ (p1 ++ (p2 ++ p3)),x.block<W.heap.size:=fun x hx=>by simpa using hW'.lt x (by simpa using hx)
 have hbulk:Rows.uptoBulkAll [d0,d1,d2,d3]≤1048576:=of_decide_eq_true hk
 simp only[Rows.uptoBulkAll] at hbulk
 have h0k:=h0
 obtain⟨fuel0,hf0⟩:=h0
 have hf0':DataW.trod enc Go.Proofs.Tryz.prog W 0 (fun _=>true) true fuel0 112 l0=some (d0,p0):=by simpa[Value.cells] using hf0
 obtain⟨xa0,xb0,xc0,xd0,xe0,xf0,rfl,hxa0,hxb0,hxc0⟩:=open_three_pairs hf0' hx0
 have h1k:=h1
 obtain⟨fuel1,hf1⟩:=h1
 have hf1':DataW.trod enc Go.Proofs.Tryz.prog W 0 (fun _=>true) true fuel1 22 [.slice a1 n1 c1]=some (d1,p1):=by simpa[Value.cells] using hf1
 obtain⟨s1,L1,hs1,hL1,hb1,hc1⟩:=open_terms hf1'
 have h2k:=h2
 obtain⟨fuel2,hf2⟩:=h2
 have hf2':DataW.trod enc Go.Proofs.Tryz.prog W 0 (fun _=>true) true fuel2 22 [.slice a2 n2 c2]=some (d2,p2):=by simpa[Value.cells] using hf2
 obtain⟨s2,L2,hs2,hL2,hb2,hc2⟩:=open_terms hf2'
 have h3k:=h3
 obtain⟨fuel3,hf3⟩:=h3
 have hf3':DataW.trod enc Go.Proofs.Tryz.prog W 0 (fun _=>true) true fuel3 22 [.slice a3 n3 c3]=some (d3,p3):=by simpa[Value.cells] using hf3
 obtain⟨s3,L3,hs3,hL3,hb3,hc3⟩:=open_terms hf3'
 have hc:=tmodExact_ok (M:=fun _=>False) (q0:=xa0) (q1:=xb0) (q2:=xc0) (r0:=xd0) (r1:=xe0) (r2:=xf0) hL1 hL2 hL3 (by omega) (by omega) (by omega) (by omega) (by omega) (by omega) (by omega) (fun t ht=>by have:=hc1 t ht;omega) (by omega) (fun t ht=>by have:=hc2 t ht;omega) (by omega) (fun t ht=>by have:=hc3 t ht;omega)
 have hcall:=hc.2 (fun b h=>h.elim)
 rw[hs1,hs2,hs3]
 refine hcall.mono fun e W' ⟨v,he,hkeep,hv,_⟩=>⟨v,he,?_⟩
 subst hv
 have hbel:=hkeep.below
 refine⟨[d0,d1,d2,d3],[],_,[],p0 ++ (p1 ++ (p2 ++ p3)),[],(by rw[←hs1,←hs2,←hs3];simpa using hW'),trodAll_mk1 (shut_bool Go.Proofs.Tryz.underlying4 _),(by rw[←hs1,←hs2,←hs3];exact trodAll_cons_mk (Below.trod laidOut (by kernel_rfl) (of_decide_eq_true (by kernel_rfl)) h0k hbel fun x hx=>hlt x (by simp[hx])) (trodAll_mk3 (Below.trod laidOut (by kernel_rfl) (of_decide_eq_true (by kernel_rfl)) h1k hbel fun x hx=>hlt x (by simp[hx])) (Below.trod laidOut (by kernel_rfl) (of_decide_eq_true (by kernel_rfl)) h2k hbel fun x hx=>hlt x (by simp[hx])) (Below.trod laidOut (by kernel_rfl) (of_decide_eq_true (by kernel_rfl)) h3k hbel fun x hx=>hlt x (by simp[hx])))),rfl,hbel.frame _,fun h=>by cases h⟩
theorem lifted (os:Os) (started:os.Started) (H:Type) (enc:TypeId×Value→H) (F:Stop.Interp):
  ReturnsInHanded {} Go.Proofs.Tryz.checked os 11 .any ((Rows.OpenSpec.upto Rows.tmodExactSpec).pre6 enc Go.Proofs.Tryz.prog Go.Proofs.Tryz.f11 Rows.tmodExactUptoRow.domain false) (((Rows.OpenSpec.upto Rows.tmodExactSpec).at F).post enc Go.Proofs.Tryz.prog Go.Proofs.Tryz.f11 false true false false):=by
 refine returnsInHanded_of_cond (C:=Go.Proofs.Tryz.checked) (s:=Rows.OpenSpec.upto Rows.tmodExactSpec) (k:=Rows.uptoSmall) rfl ownKnob_none started (by kernel_rfl) Go.Proofs.Tryz.func11
  (OpenSpec.witness (enc:=enc) (C:=Go.Proofs.Tryz.checked) (s:=Rows.OpenSpec.upto Rows.tmodExactSpec) (k:=Rows.uptoSmall) rfl false ⟨#[],#[.agg ⟨[.string ⟨#[]⟩,.string ⟨#[]⟩,.string ⟨#[]⟩,.string ⟨#[]⟩,.string ⟨#[]⟩,.string ⟨#[]⟩]⟩,.slice none 0 0,.slice none 0 0,.slice none 0 0],[]⟩ 8 (by kernel_rfl) (by kernel_rfl) (by kernel_rfl)
   (x:=([.agg [.agg [.lit (.string []),.lit (.string [])],.agg [.lit (.string []),.lit (.string [])],.agg [.lit (.string []),.lit (.string [])]],.nil,.nil,.nil],[],[])) (by kernel_rfl) rfl (by kernel_rfl)) ?_
 intro W base args ds gs before hval hW _ hk _
 exact contract H enc W base args ds gs before hval hW hk
theorem row_f0:facts0 Go.Proofs.Tryz.checked.prog 11 Go.Proofs.Tryz.f11 (Rows.OpenSpec.upto Rows.tmodExactSpec).bare Rows.tmodExactUptoRow=true:=by kernel_rfl
theorem row_f1:facts1 Go.Proofs.Tryz.checked.prog 11 Go.Proofs.Tryz.f11 (Rows.OpenSpec.upto Rows.tmodExactSpec).bare Rows.tmodExactUptoRow=true:=by kernel_rfl
theorem row_f2:facts2 Go.Proofs.Tryz.checked.prog 11 Go.Proofs.Tryz.f11 (Rows.OpenSpec.upto Rows.tmodExactSpec).bare Rows.tmodExactUptoRow=true:=by kernel_rfl
theorem row_f3:facts3 Go.Proofs.Tryz.checked.prog 11 Go.Proofs.Tryz.f11 (Rows.OpenSpec.upto Rows.tmodExactSpec).bare Rows.tmodExactUptoRow=true:=by kernel_rfl
theorem row_f4:facts4 Go.Proofs.Tryz.checked.prog 11 Go.Proofs.Tryz.f11 (Rows.OpenSpec.upto Rows.tmodExactSpec).bare Rows.tmodExactUptoRow=true:=by kernel_rfl
theorem tmodExact_holds:Rows.TmodExactUptoSaid:=
 OpenClaim.holds_of_cond 11 Go.Proofs.Tryz.f11 rfl rfl rfl rfl rfl rfl rfl ⟨rfl,rfl,rfl,rfl,rfl⟩ rfl rfl rfl rfl rfl (by kernel_rfl) Go.Proofs.Tryz.func11 (joined_of row_f0 row_f1 row_f2 row_f3 row_f4)
  (of_decide_eq_true (by kernel_rfl)) (by unfold Func.isWrapper;first | (rw[if_pos (by decide +kernel)];kernel_rfl) | (rw[if_neg (by decide +kernel)];exact⟨rfl,rfl⟩))
  (fun os started H enc _ F=>lifted os started H enc F)
#print axioms tmodExact_holds
end Go.Proofs.YthpmkcidkcmlgaaGreat
