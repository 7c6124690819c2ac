/- The reference's intervals; cincturelaw5.Is, Of; span.Parse. -/
import Derived.Test.YtnlmddaakeigdaaGreatDoorW14
import Derived.Test.YtnlmddaakeigdaaGreatDoorW10
import Derived.Test.YtnlmddaakeigdaaGreatDoorLib4
import Derived.Test.YtnlmddaakeigdaaGreatDoorW13
import Derived.Test.YtnlmddaakeigdaaGreatDoorLib3
import Derived.Test.YtnlmddaakeigdaaGreatDoorRows
import Derived.WalkKit
import Derived.ProofKit
import Derived.OpenShut
import Derived.JoinedCond
import Derived.Carry
import Derived.Deep.Strs
import Derived.Deep.Slices
set_option linter.unusedVariables false
set_option linter.unusedSimpArgs false
set_option maxRecDepth 100000
set_option linter.unusedVariables false
set_option linter.unusedSimpArgs false
namespace Go.Proofs.YtnlmddaakeigdaaGreatDoor
open Go Go.SX
end Go.Proofs.YtnlmddaakeigdaaGreatDoor

/- span.Parse, cinctureref1.SpanParse; cincturelaw5.Is, Of. -/
set_option maxRecDepth 100000
set_option linter.unusedVariables false
set_option linter.unusedSimpArgs false
namespace Go.Proofs.YtnlmddaakeigdaaGreatDoor
open Go Go.SX
def spP (a b:ByteArray):Option Iv:=match parseQ a,parseQ b with
 | some p,some q=>if p≤q then some (p,q) else none
 | _,_=>none
theorem spP_some {a b:ByteArray} {x:Iv} (h:spP a b=some x):parseQ a=some x.1∧parseQ b=some x.2∧x.1≤x.2:=by
 unfold spP at h
 cases ha:parseQ a with
 | none=>rw[ha] at h;cases h
 | some p=>
  cases hb:parseQ b with
  | none=>rw[ha,hb] at h;cases h
  | some q=>
   rw[ha,hb] at h
   dsimp only at h
   split at h
   ·cases h;exact⟨rfl,rfl,by assumption⟩
   ·cases h
theorem er_zero {α:Type} {o:Option α} :er o=0↔o.isSome=true:=by
 unfold er
 cases o<;>simp
theorem parseQ_4000 {a:ByteArray} :Sz 4000 ((parseQ a).getD 0):=by
 cases h:parseQ a with
 | none=>exact Sz.zero (by omega)
 | some q=>exact(parseQ_sz h).1
theorem spanParse_ok {W0:PW} {M:Nat→Prop} {a b:ByteArray} (ha:a.size≤1099511627776) (hb:b.size≤1099511627776):
  PCallsM Go.Proofs.Tryz.prog 81 [.agg ⟨[.string a,.string b]⟩] W0 M fun v W'=>∃(l:List Value),∃(e:Int),v = .tuple ⟨[.agg ⟨l⟩,.int .i64 e]⟩∧SpV 268 W' l ((spP a b).getD (0,0))∧(e=0↔(spP a b).isSome=true):=by
 apply callspan_Parse
 refine ratParse_call ha fun s3 b4 s5 W2 hE2 h2=>⟨s3,b4,s5,_,rfl,fun hne W7 hE7=>?_,fun heq=>?_⟩
 ·have hn:parseQ a=none:=by
   cases h:parseQ a with
   | none=>rfl
   | some q=>exact absurd (er_zero.2 (by rw[h];rfl)) hne
  have hs:spP a b=none:=by unfold spP;rw[hn]
  refine⟨_,_,rfl,by rw[hs];exact SpV.zero W7,?_⟩
  rw[hs,er_zero,hn];simp
 ·have h1:=er_zero.1 (Decidable.not_not.1 heq)
  obtain⟨p,hp⟩:=Option.isSome_iff_exists.1 h1
  refine ratParse_call hb fun s10 b11 s12 W9 hE9 h9=>⟨s10,b11,s12,_,rfl,fun hne W14 hE14=>?_,fun heq2=>?_⟩
  ·have hn:parseQ b=none:=by
    cases h:parseQ b with
    | none=>rfl
    | some q=>exact absurd (er_zero.2 (by rw[h];rfl)) hne
   have hs:spP a b=none:=by unfold spP;rw[hp,hn]
   refine⟨_,_,rfl,by rw[hs];exact SpV.zero W14,?_⟩
   rw[hs,er_zero,hn];simp
  ·have h3:=er_zero.1 (Decidable.not_not.1 heq2)
   obtain⟨q,hq⟩:=Option.isSome_iff_exists.1 h3
   have z1:=parseQ_4000 (a:=a)
   have z2:=parseQ_4000 (a:=b)
   refine spanNew_call (h2.ext hE9) h9 z1 z2 (by omega) fun l W16 hE16 h16=>?_
   rw[hp,hq] at h16⊢
   simp only[Option.getD_some] at h16⊢
   have hs:spP a b=if p≤q then some (p,q) else none:=by unfold spP;rw[hp,hq]
   obtain⟨s17,b18,s19,s20,b21,s22,rfl,k1,k2⟩:=h16
   refine⟨s17,b18,s19,s20,b21,s22,_,rfl,fun hno W24 hE24=>?_,fun hyes W25 hE25=>?_⟩
   ·have hno:¬p≤q:=by simpa using hno
    rw[hs,if_neg hno]
    exact⟨_,_,rfl,SpV.zero W24,by decide⟩
   ·have hyes:p≤q:=by simpa using hyes
    rw[if_pos hyes] at k1 k2
    rw[hs,if_pos hyes]
    exact⟨_,_,rfl,SpV.mk (x:=(p,q)) (k1.ext hE25) (k2.ext hE25),by simp⟩
theorem spanParse_call {W0 W:PW} {M:Nat→Prop} {a b:ByteArray} {K:Value→PW→Prop} (ha:a.size≤1099511627776) (hb:b.size≤1099511627776) (kont: ∀(l:List Value) (e:Int) (W':PW),Ext W W'→(SpV 268 W' l ((spP a b).getD (0,0))∧(e=0↔(spP a b).isSome=true))→K (.tuple ⟨[.agg ⟨l⟩,.int .i64 e]⟩) W'):
  callN Go.Proofs.Tryz.prog W0 M 81 [.agg ⟨[.string a,.string b]⟩] W K:=
 callN_of (fun W' hE=>spanParse_ok (M:=fun _=>False) ha hb) (fun W' v W'' hE hE' hP=>by
  obtain⟨l,e,rfl,h⟩:=hP
  exact kont l e W'' (hE.trans hE') h)
theorem refSpanParse_ok {W0:PW} {M:Nat→Prop} {a b:ByteArray} (ha:a.size≤1099511627776) (hb:b.size≤1099511627776):
  PCallsM Go.Proofs.Tryz.prog 80 [.agg ⟨[.string a,.string b]⟩] W0 M fun v W'=>∃(l:List Value),∃(e:Int),v = .tuple ⟨[.agg ⟨l⟩,.int .i64 e]⟩∧RSpV 268 W' l ((spP a b).getD (0,0))∧(e=0↔(spP a b).isSome=true):=by
 apply callref1_SpanParse
 refine refRatParse_call ha fun b3 s4 s5 W2 hE2 h2=>⟨b3,s4,s5,_,rfl,refRatParse_call hb fun b9 s10 s11 W8 hE8 h8=>⟨b9,s10,s11,_,rfl,fun hno W13 hE13=>?_,fun hyes=>⟨fun hno W14 hE14=>?_,fun hyes2=>?_⟩⟩⟩
 ·have hn:parseQ a=none:=by simpa using hno
  have hs:spP a b=none:=by unfold spP;rw[hn]
  rw[hs]
  exact⟨_,_,rfl,RSpV.zero W13,by decide⟩
 ·have hn:parseQ b=none:=by simpa using hno
  have hs:spP a b=none:=by unfold spP;cases parseQ a<;>rw[hn]
  rw[hs]
  exact⟨_,_,rfl,RSpV.zero W14,by decide⟩
 ·obtain⟨p,hp⟩:=Option.isSome_iff_exists.1 (show(parseQ a).isSome=true by simpa using hyes)
  obtain⟨q,hq⟩:=Option.isSome_iff_exists.1 (show(parseQ b).isSome=true by simpa using hyes2)
  have z1:=parseQ_4000 (a:=a)
  have z2:=parseQ_4000 (a:=b)
  have hs:spP a b=if p≤q then some (p,q) else none:=by unfold spP;rw[hp,hq]
  rw[hp] at h2 z1
  rw[hq] at h8 z2
  simp only[Option.getD_some] at h2 h8 z1 z2
  refine refQCmp_call (h2.ext hE8) h8 z1 z2 (by omega) (by omega) fun W16 hE16 _=>⟨_,rfl,fun hgt W18 hE18=>?_,fun hle W19 hE19=>?_⟩
  ·have h:¬p≤q:=Rat.not_le.2 (cmpQ_gt.1 hgt)
   rw[hs,if_neg h]
   exact⟨_,_,rfl,RSpV.zero W18,by decide⟩
  ·have h:p≤q:=Rat.not_lt.1 fun e=>hle (cmpQ_gt.2 e)
   rw[hs,if_pos h]
   exact⟨_,_,rfl,RSpV.mk (x:=(p,q)) (h2.ext (hE8.trans (hE16.trans hE19))) (h8.ext (hE16.trans hE19)),by simp⟩
theorem refSpanParse_call {W0 W:PW} {M:Nat→Prop} {a b:ByteArray} {K:Value→PW→Prop} (ha:a.size≤1099511627776) (hb:b.size≤1099511627776) (kont: ∀(l:List Value) (e:Int) (W':PW),Ext W W'→(RSpV 268 W' l ((spP a b).getD (0,0))∧(e=0↔(spP a b).isSome=true))→K (.tuple ⟨[.agg ⟨l⟩,.int .i64 e]⟩) W'):
  callN Go.Proofs.Tryz.prog W0 M 80 [.agg ⟨[.string a,.string b]⟩] W K:=
 callN_of (fun W' hE=>refSpanParse_ok (M:=fun _=>False) ha hb) (fun W' v W'' hE hE' hP=>by
  obtain⟨l,e,rfl,h⟩:=hP
  exact kont l e W'' (hE.trans hE') h)
end Go.Proofs.YtnlmddaakeigdaaGreatDoor

/- Arguments opened: what every kind of argument needs. -/
set_option maxRecDepth 100000
set_option linter.unusedVariables false
set_option linter.unusedSimpArgs false
namespace Go.Proofs.YtnlmddaakeigdaaGreatDoor
open Go Go.SX Go.ChangeShapes Go.WideShapes Go.ChangeAt Go.RowKit Go.Deep
theorem ownKnob_none:ownKnob Go.Proofs.Tryz.prog.godebug=none:=by kernel_rfl
theorem laidOut:laidOutB Go.Proofs.Tryz.prog=true:=by kernel_rfl
theorem cells_str:Go.Proofs.Tryz.prog.cellsOf 9=1:=by kernel_rfl
theorem cell_block {W:World} {b o:Nat} {v:Value} (h:W.cell? ⟨b,o,none⟩=some v): ∃cs t fz,W.heap[b]?=some (.cells cs t fz)∧cs[o]?=some v:=by
 unfold World.cell? at h
 cases e:W.heap[b]? with
 | none=>simp[e] at h
 | some ob=>
  cases ob with
  | cells cs t fz=>exact⟨cs,t,fz,rfl,by simpa[e] using h⟩
  | _=>simp[e] at h
theorem bulk_one {H:Type} (d:DataW H):1≤Rows.uptoBulk d:=by
 cases d with
 | lit l=>cases l<;>simp[Rows.uptoBulk]
 | nil=>simp[Rows.uptoBulk]
 | ptr d=>simp[Rows.uptoBulk]
 | slice elems spare=>simp[Rows.uptoBulk]
 | agg parts=>simp[Rows.uptoBulk]
 | iface t d=>simp[Rows.uptoBulk]
 | map entries=>simp[Rows.uptoBulk]
 | held h=>simp[Rows.uptoBulk]
theorem bulk_part {H:Type} {d:DataW H} {l:List (DataW H)} (h:d∈l):Rows.uptoBulk d≤Rows.uptoBulkAll l:=by
 induction l with
 | nil=>cases h
 | cons x r ih=>
  simp only[Rows.uptoBulkAll]
  cases List.mem_cons.1 h with
  | inl e=>subst e;omega
  | inr e=>have:=ih e;omega
theorem bulk_length {H:Type} (l:List (DataW H)):l.length≤Rows.uptoBulkAll l:=by
 induction l with
 | nil=>simp[Rows.uptoBulkAll]
 | cons x r ih=>have:=bulk_one x;simp only[Rows.uptoBulkAll,List.length_cons];omega
theorem rowA_of_cellsN {W:World} {a:Addr} {n c sz:Nat} {V:Nat→List Value} (h: ∀j,j<n→∀i v,(V j)[i]?=some v→W.cell? (a.add (j*sz+i))=some v) (hV: ∀j,j<n→(V j).length=sz) (hsz:0<sz) (hn:n≤c) (hc:c≤maxLen) (h1: ∀j,j<n→∀u∈V j,u.oneCell'=true):
  RowA ⟨W,fun _=>False⟩ sz ⟨some a,n,c⟩ ((List.range n).map V):=by
 have hel: ∀x∈(List.range n).map V,x.length=sz∧∀u∈x,u.oneCell'=true:=by
  intro x hx
  obtain⟨j,hj,rfl⟩:=List.mem_map.1 hx
  exact⟨hV j (List.mem_range.1 hj),h1 j (List.mem_range.1 hj)⟩
 by_cases h0:n=0
 ·subst h0
  exact⟨0,rfl,Nat.zero_le _,hc,hel,.inl rfl⟩
 ·obtain⟨b,off,sp⟩:=a
  have hlen0:=hV 0 (by omega)
  obtain⟨v0,hv0⟩: ∃v,(V 0)[0]?=some v:=⟨_,List.getElem?_eq_getElem (by omega)⟩
  have hc0:=h 0 (by omega) 0 v0 hv0
  have hsp:sp=none:=by simpa[Addr.add] using World.cell?_spot hc0
  subst hsp
  obtain⟨cs,t,fz,hh,_⟩:=cell_block (by rw[←add_plain];exact hc0)
  refine⟨t,by simp,hn,hc,hel,.inr ⟨b,off,cs,fz,rfl,id,hh,fun j v hj=>?_⟩⟩
  have hjl:=(List.getElem?_eq_some_iff.1 hj).1
  rw[flatten_length (sz:=sz) (fun x hx=>(hel x hx).1)] at hjl
  simp only[List.length_map,List.length_range] at hjl
  have hi:j/sz<n:=(Nat.div_lt_iff_lt_mul hsz).2 hjl
  have hm:j%sz<sz:=Nat.mod_lt _ hsz
  have e:j/sz*sz+j%sz=j:=by rw[Nat.mul_comm];exact Nat.div_add_mod j sz
  have hx:((List.range n).map V)[j/sz]?=some (V (j/sz)):=by simp[hi]
  have hl:=hV _ hi
  have hf:=flatten_at (sz:=sz) (fun x hx=>(hel x hx).1) hx (j:=j%sz) (v:=(V (j/sz))[j%sz]'(by omega)) (List.getElem?_eq_getElem (by omega))
  rw[e,hj] at hf
  have hcell:=h _ hi (j%sz) v (by rw[hf];exact List.getElem?_eq_getElem (by omega))
  rw[e,add_plain] at hcell
  obtain⟨cs',t',fz',hh',hv⟩:=cell_block hcell
  rw[hh] at hh'
  cases hh'
  exact hv
end Go.Proofs.YtnlmddaakeigdaaGreatDoor

/- Arguments of pairs of texts, opened. -/
set_option maxRecDepth 100000
set_option linter.unusedVariables false
set_option linter.unusedSimpArgs false
namespace Go.Proofs.YtnlmddaakeigdaaGreatDoor
open Go Go.SX Go.ChangeShapes Go.WideShapes Go.ChangeAt Go.RowKit Go.Deep
theorem cells_pair:Go.Proofs.Tryz.prog.cellsOf 74=2:=by kernel_rfl
theorem open_pair {H:Type} {enc:TypeId×Value→H} {W:World} {fuel:Nat} {cs:List Value} {x:DataW H×List MemPlace} (h:DataW.trod enc Go.Proofs.Tryz.prog W 0 (fun _=>true) true fuel 74 cs=some x):
  ∃a b:ByteArray,cs = [.string a,.string b]∧a.size≤Rows.uptoBulk x.1∧b.size≤Rows.uptoBulk x.1:=by
 obtain⟨xs,k,rfl,rfl,hl,hxl,hf⟩:=DataW.trod_struct Go.Proofs.Tryz.underlying74 h
 rw[cells_pair] at hl
 have g0:DataW.trod enc Go.Proofs.Tryz.prog W 0 (fun _=>true) true k 9 ((cs.drop 0).take (Go.Proofs.Tryz.prog.cellsOf 9))=xs[0]?:=hf 0 _ rfl
 have g1:DataW.trod enc Go.Proofs.Tryz.prog W 0 (fun _=>true) true k 9 ((cs.drop 1).take (Go.Proofs.Tryz.prog.cellsOf 9))=xs[1]?:=hf 1 _ rfl
 rw[cells_str] at g0 g1
 match cs,hl,xs,hxl with
 | [v0,v1],_,[y0,y1],_=>
  have g0:DataW.trod enc Go.Proofs.Tryz.prog W 0 (fun _=>true) true k 9 [v0]=some y0:=g0
  have g1:DataW.trod enc Go.Proofs.Tryz.prog W 0 (fun _=>true) true k 9 [v1]=some y1:=g1
  obtain⟨s0,h0,rfl,_⟩:=DataW.trod_string Go.Proofs.Tryz.underlying9 g0
  obtain⟨s1,h1,rfl,_⟩:=DataW.trod_string Go.Proofs.Tryz.underlying9 g1
  have k0:v0=Value.string s0:=(List.cons.inj (show[v0] = [Value.string s0] from h0)).1
  have k1:v1=Value.string s1:=(List.cons.inj (show[v1] = [Value.string s1] from h1)).1
  subst k0 k1
  refine⟨s0,s1,rfl,?_⟩
  have e0:s0.data.toList.length=s0.size:=by rw[Array.length_toList];rfl
  have e1:s1.data.toList.length=s1.size:=by rw[Array.length_toList];rfl
  simp only[List.map_cons,List.map_nil,Rows.uptoBulk,Rows.uptoBulkAll]
  omega
def prc (t:ByteArray×ByteArray):List Value:=[.string t.1,.string t.2]
def IsPrs (W:PW) (s:Sl) (L:List (ByteArray×ByteArray)):Prop:=RowA W 2 s (L.map prc)
theorem open_pairs {H:Type} {enc:TypeId×Value→H} {W:World} {fuel:Nat} {v:Value} {d:DataW H} {p:List MemPlace} (h:DataW.trod enc Go.Proofs.Tryz.prog W 0 (fun _=>true) true fuel 23 [v]=some (d,p)):
  ∃(s:Sl) (L:List (ByteArray×ByteArray)),v=s.v∧IsPrs ⟨W,fun _=>False⟩ s L∧L.length≤Rows.uptoBulk d∧∀t∈L,t.1.size≤Rows.uptoBulk d∧t.2.size≤Rows.uptoBulk d:=by
 rcases open_slice Go.Proofs.Tryz.underlying23 h with⟨hcs,hx⟩ | ⟨a,len,cap,m,n,D,Pl,hcs,_,hl,hm,hmm,hx,hcell⟩
 ·have hv:v = .slice none 0 0:=by simpa using hcs
  subst hv
  exact⟨⟨none,0,0⟩,[],rfl,⟨0,rfl,Nat.le_refl _,Nat.zero_le _,fun x h=>by simp at h,.inl rfl⟩,Nat.zero_le _,fun l h=>by simp at h⟩
 ·have hv:v = .slice (some a) len cap:=by simpa using hcs
  subst hv
  simp only[if_true] at hmm
  subst hmm
  simp only[Prod.mk.injEq] at hx
  obtain⟨rfl,_⟩:=hx
  rw[cells_pair] at hcell
  obtain⟨q,hq⟩: ∃q:Nat→ByteArray×ByteArray,∀i,i<m→W.cells? 0 (a.add (i*2)) 2=some (prc (q i))∧(q i).1.size≤Rows.uptoBulk (D i)∧(q i).2.size≤Rows.uptoBulk (D i):=by
   have:Inhabited (ByteArray×ByteArray):=⟨(⟨#[]⟩,⟨#[]⟩)⟩
   refine choose_lt (α:=ByteArray×ByteArray) (p:=fun i q=>W.cells? 0 (a.add (i*2)) 2=some (prc q)∧q.1.size≤Rows.uptoBulk (D i)∧q.2.size≤Rows.uptoBulk (D i)) fun i hi=>?_
   obtain⟨cs',h1,h2⟩:=hcell i hi
   obtain⟨x,y,rfl,h3,h4⟩:=open_pair h2
   exact⟨(x,y),h1,h3,h4⟩
  have hr:=rowA_of_cellsN (W:=W) (a:=a) (n:=len) (c:=m) (sz:=2) (V:=fun i=>prc (q i)) (fun j hj i v hv=>by
   obtain⟨_,hlen,hc⟩:=World.cells?_some (hq j (by omega)).1
   have hi:i<2:=by have:=(List.getElem?_eq_some_iff.1 hv).1;omega
   have:=hc i hi
   rw[add_add] at this
   rw[this];exact hv) (fun j hj=>rfl) (by omega) hl hm (fun j hj u hu=>by
   simp only[prc,List.mem_cons,List.not_mem_nil,or_false] at hu
   rcases hu with rfl | rfl<;>rfl)
  have hbulk: ∀i,i<len→Rows.uptoBulk (D i)≤Rows.uptoBulkAll ((List.range len).map D):=fun i hi=>bulk_part (List.mem_map.2 ⟨i,List.mem_range.2 hi,rfl⟩)
  have hlen:=bulk_length ((List.range len).map D)
  simp only[List.length_map,List.length_range] at hlen
  refine⟨⟨some a,len,m⟩,(List.range len).map q,rfl,?_,?_,fun t ht=>?_⟩
  ·unfold IsPrs
   rw[List.map_map]
   exact hr
  ·simp only[List.length_map,List.length_range,Rows.uptoBulk]
   omega
  ·obtain⟨j,hj,rfl⟩:=List.mem_map.1 ht
   have hj':=List.mem_range.1 hj
   have h1:=hbulk j hj'
   have h2:=(hq j (by omega)).2
   simp only[Rows.uptoBulk]
   omega
end Go.Proofs.YtnlmddaakeigdaaGreatDoor
