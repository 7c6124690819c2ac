/- slices.Backward of bytes; mono.Vars. -/
import Derived.Test.YthpmkcidkcmlgaaGreatW3
import Derived.Test.YthpmkcidkcmlgaaGreatW11
import Derived.Test.YthpmkcidkcmlgaaGreatW12
import Derived.Test.YthpmkcidkcmlgaaGreatR11
import Derived.Test.YthpmkcidkcmlgaaGreatW20
import Derived.Test.YthpmkcidkcmlgaaGreatLib4
import Derived.Test.YthpmkcidkcmlgaaGreatW14
import Derived.Test.YthpmkcidkcmlgaaGreatR16
import Derived.Test.YthpmkcidkcmlgaaGreatLib2
import Derived.Test.YthpmkcidkcmlgaaGreatLib3
import Derived.Test.YthpmkcidkcmlgaaGreatRows
import Derived.WalkKit
import Derived.ProofKit
import Derived.OpenShut
import Derived.JoinedCond
import Derived.Carry
import Derived.Deep.Strs
import Derived.Deep.Slices
set_option linter.unusedVariables false
set_option linter.unusedSimpArgs false
set_option linter.unusedVariables false
set_option linter.unusedSimpArgs false
namespace Go.Proofs.YthpmkcidkcmlgaaGreat
open Go Go.SX Go.RowKit Go.Shelf
attribute [local go_sem] Oper.semAt_some
end Go.Proofs.YthpmkcidkcmlgaaGreat

/- poly.Degree, poly.Top. -/
set_option maxRecDepth 100000
set_option linter.unusedVariables false
set_option linter.unusedSimpArgs false
namespace Go.Proofs.YthpmkcidkcmlgaaGreat
open Go Go.SX
def topw (i:Int) (m:Mon):Int:=if 0≤i∧i<3 then eget m i.toNat else 0
def topI (W0:PW) (p:List Tm) (i:Int) (L:List PL) (W:PW):Prop:=match L with
 | [.val (.int .i64 a),.val (.int .i64 k)]=>∃j:Nat,k=(j:Int)∧j≤p.length∧Ext W0 W∧a=maxf (topw i) 0 (p.take j)
 | _=>False
def topM (p:List Tm) (L:List PL) (_:PW):Nat:=match L with
 | [_,.val (.int .i64 k)]=>p.length-k.toNat
 | _=>0
end Go.Proofs.YthpmkcidkcmlgaaGreat

/- cinctureref1: MonoVars, PolyDegree, PolyVars, Top. -/
set_option maxRecDepth 100000
set_option linter.unusedVariables false
set_option linter.unusedSimpArgs false
namespace Go.Proofs.YthpmkcidkcmlgaaGreat
open Go Go.SX
def mvI (m:Mon) (L:List PL):Prop:=match L with
 | [.val (.int .i64 a),.val (.int .i64 i)]=>∃k:Nat,i=(k:Int)∧k≤3∧a=(if 2<k∧0<m.z then 3 else if 1<k∧0<m.y then 2 else if 0<k∧0<m.x then 1 else 0)
 | _=>False
def rdI (w:Mon→Int) (n:Int) (W0:PW) (p:List Tm) (L:List PL) (W:PW):Prop:=match L with
 | [.val (.int .i64 a),.val (.int .i64 k)]=>∃j:Nat,k=(j:Int)∧j≤p.length∧Ext W0 W∧a=maxf w n (p.take j)
 | _=>False
theorem refPolyDegree_ok {W0:PW} {M:Nat→Prop} {s:Sl} {p:List Tm} (h:IsRPoly 317 195 W0 s p) (hl:p.length≤1099511627776):
  PCallsM Go.Proofs.Tryz.prog 67 [s.v] W0 M fun v W'=>v = .int .i64 (maxf Mon.deg (-1) p)∧True:=by
 apply callref1_PolyDegree
 have hn:=h.n
 refine⟨rdI Mon.deg (-1) W0 p,topM p,⟨0,rfl,by omega,Ext.refl _,rfl⟩,?_⟩
 rintro i3 i4 W5 ⟨j,rfl,hj,hE,rfl⟩
 refine⟨fun hlt=>?_,fun hge W13 _=>⟨?_,trivial⟩⟩
 ·have hjl:j<p.length:=by omega
  have hP:=h.ext hE
  obtain⟨k0,c1,d1,c2,_,e1,_,hr⟩:=hP.at (List.getElem?_eq_getElem hjl)
  have hmu:p.length-Int.toNat ((j:Int)+1)<p.length-Int.toNat (j:Int):=by omega
  exact⟨hP.inB (by omega) (by omega),_,_,_,e1,refDegree_call k0 fun W13 hE13 _=>⟨_,rfl,by unfold I64;omega,⟨j+1,by push_cast;rfl,by omega,hE.trans hE13,by rw[take_snocR hjl,maxf_snoc]⟩,hmu⟩⟩
 ·have:j=p.length:=by omega
  subst this
  rw[List.take_length]
theorem refPolyDegree_call {W0 W:PW} {M:Nat→Prop} {s:Sl} {p:List Tm} {K:Value→PW→Prop} (h:IsRPoly 317 195 W s p) (hl:p.length≤1099511627776) (kont: ∀(W':PW),Ext W W'→(True)→K (.int .i64 (maxf Mon.deg (-1) p)) W'):
  callN Go.Proofs.Tryz.prog W0 M 67 [s.v] W K:=
 callN_of (fun W' hE=>refPolyDegree_ok (M:=fun _=>False) (h.ext hE) hl) (fun W' v W'' hE hE' hP=>by
  obtain⟨rfl,h⟩:=hP
  exact kont W'' (hE.trans hE') h)
end Go.Proofs.YthpmkcidkcmlgaaGreat

/- cincturelaw15.TmodComposes. -/
set_option maxRecDepth 100000
set_option linter.unusedVariables false
set_option linter.unusedSimpArgs false
namespace Go.Proofs.YthpmkcidkcmlgaaGreat
open Go Go.SX
theorem DT.szs3 {t:DT} {k:Nat} (h0:t.a0.size≤k) (h1:t.b0.size≤k) (h2:t.a1.size≤k) (h3:t.b1.size≤k) (h4:t.a2.size≤k) (h5:t.b2.size≤k) (i:Nat):(t.lo i).size≤k∧(t.hi i).size≤k:=by
 unfold DT.lo DT.hi
 (repeat' split)<;>first | exact⟨h0,h1⟩ | exact⟨h2,h3⟩ | exact⟨h4,h5⟩
theorem sex_deg {t:Tm} (h:t.1.ok) (hd:t.1.deg≤4):sex t 3≤4:=by
 unfold Mon.ok at h
 unfold Mon.deg at hd
 show 0+t.1.x.toNat+t.1.y.toNat+t.1.z.toNat≤4
 omega
def y3 (a b c:Mdl) (i:Nat):Mdl:=if i=0 then a else if i=1 then b else c
theorem tmodComposes_ok {W0:PW} {M:Nat→Prop} {q0 q1 q2 r0 r1 r2:ByteArray} {n:Int} {sf s u w:Sl} {Lf L L4 L5:List (Mon×ByteArray)} {x3a x3b x4a x4b x5a x5b:ByteArray} (hF:IsAPoly W0 sf Lf) (h:IsAPoly W0 s L) (h4:IsAPoly W0 u L4) (h5:IsAPoly W0 w L5) (z0:q0.size≤1099511627776) (z1:q1.size≤1099511627776) (z2:q2.size≤1099511627776) (z3:r0.size≤1099511627776) (z4:r1.size≤1099511627776) (z5:r2.size≤1099511627776) (hlf:Lf.length≤1099511627776) (hzf: ∀t∈Lf,t.2.size≤1099511627776) (hl:L.length≤1099511627776) (hz: ∀t∈L,t.2.size≤1099511627776) (hc:x3a.size≤1099511627776) (hd:x3b.size≤1099511627776) (hl4:L4.length≤1099511627776) (hz4: ∀t∈L4,t.2.size≤1099511627776) (hc4:x4a.size≤1099511627776) (hd4:x4b.size≤1099511627776) (hl5:L5.length≤1099511627776) (hz5: ∀t∈L5,t.2.size≤1099511627776) (hc5:x5a.size≤1099511627776) (hd5:x5b.size≤1099511627776):
  PCallsM Go.Proofs.Tryz.prog 9 [.agg ⟨[.string q0,.string r0,.string q1,.string r1,.string q2,.string r2]⟩,.int .i64 n,sf.v,.agg ⟨[s.v,.string x3a,.string x3b]⟩,.agg ⟨[u.v,.string x4a,.string x4b]⟩,.agg ⟨[w.v,.string x5a,.string x5b]⟩] W0 M fun v W'=>v = .bool true∧True:=by
 apply calllaw15_TmodComposes
 have hnf:=hF.n
 have hns:=h.n
 have hnu:=h4.n
 have hnw:=h5.n
 have alv: ∀W,callN Go.Proofs.Tryz.prog W0 M 46 [] W fun v11 W12=>∃b13:Bool,v11 = .bool b13∧∀(W14:PW),Ext W12 W14→Value.bool b13 = .bool true∧True:=fun W=>law15alive_call fun W12 _ _=>⟨true,rfl,fun W14 _=>⟨rfl,trivial⟩⟩
 refine law15Domain_call (t:=⟨q0,r0,q1,r1,q2,r2⟩) (n:=n) (DT.szs3 z0 z3 z1 z4 z2 z5) fun l l' ok b W2 hE2 ⟨hD,hR,hB,_,_⟩=>dom_out hD hR ?_
 intros
 rename_i hD hR
 refine law8Of_call (hF.ext hE2) hlf hzf fun s44 s45 b46 W43 hE43 gf=>⟨s44,s45,b46,rfl,?_⟩
 refine law15Of_call (h.ext (hE2.trans hE43)) hl hz hc hd fun l l' ok2 x W48 hE48 ⟨hm,hrm,hok⟩=>?_
 obtain⟨_,_,_,_,_,_,_,rfl,mp,mr⟩:=MdV.pts hm
 obtain⟨_,_,_,_,_,_,_,rfl,rp,rr⟩:=RMdV.pts hrm
 refine⟨_,_,_,_,_,_,_,_,_,_,_,_,_,_,_,rfl,law15Of_call (h4.ext (hE2.trans (hE43.trans hE48))) hl4 hz4 hc4 hd4 fun l l' ok3 y W65 hE65 ⟨hm,hrm,hok3⟩=>?_⟩
 obtain⟨_,_,_,_,_,_,_,rfl,np,nr⟩:=MdV.pts hm
 obtain⟨_,_,_,_,_,_,_,rfl,op,or⟩:=RMdV.pts hrm
 refine⟨_,_,_,_,_,_,_,_,_,_,_,_,_,_,_,rfl,law15Of_call (h5.ext (hE2.trans (hE43.trans (hE48.trans hE65)))) hl5 hz5 hc5 hd5 fun l l' ok4 z W82 hE82 ⟨hm,hrm,hok4⟩=>?_⟩
 obtain⟨_,_,_,_,_,_,_,rfl,kp,kr⟩:=MdV.pts hm
 obtain⟨_,_,_,_,_,_,_,rfl,jp,jr⟩:=RMdV.pts hrm
 refine⟨_,_,_,_,_,_,_,_,_,_,_,_,_,_,_,rfl,fun _=>alv _,fun _=>⟨fun _=>alv _,fun hkf=>⟨fun _=>alv _,fun hk2=>⟨fun _=>alv _,fun hk3=>⟨fun _=>alv _,fun hk4=>law15alive_call fun W119 hE119 _=>⟨true,rfl,fun _=>alv _,fun _=>⟨fun _=>alv _,fun hf5=>?_⟩⟩⟩⟩⟩⟩⟩
 obtain⟨f,of,fp,fr⟩:=gf (by simpa using hkf)
 have hx:=hok (by simpa using hk2)
 have hy:=hok3 (by simpa using hk3)
 have hzz:=hok4 (by simpa using hk4)
 have lf:=of.1.len
 have ff:=fr.ext (hE48.trans (hE65.trans (hE82.trans hE119)))
 refine refPolyDegree_call ff (by omega) fun W hE130 _=>⟨_,rfl,fun _=>alv _,fun hdeg=>⟨?_,?_,fun _=>alv _,fun _=>?_⟩⟩
 ·unfold I64;omega
 ·unfold I64;omega
 have hdg: ∀t∈f,Sz 4000 t.2∧sex t 3≤4:=fun t ht=>⟨of.1.sz t ht,sex_deg (fp.ok t ht) (by have:=(le_maxf (w:=Mon.deg) (n:=-1) (p:=f)).2 t ht;omega)⟩
 have E82:=hE119.trans hE130
 have E65:=hE82.trans E82
 have E48:=hE65.trans E65
 have hyy: ∀i,MOK 3 (y3 x y z i):=fun i=>by
  unfold y3
  (repeat' split)<;>assumption
 have M1:M3V 317 188 W _ (y3 x y z):=⟨_,_,_,_,_,_,_,_,_,_,_,_,_,_,_,_,_,_,_,_,_,rfl,MdV.mk (x:=x) (mp.ext E48) (mr.ext E48),MdV.mk (x:=y) (np.ext E65) (nr.ext E65),MdV.mk (x:=z) (kp.ext E82) (kr.ext E82)⟩
 have M2:RM3V 317 195 W _ (y3 x y z):=⟨_,_,_,_,_,_,_,_,_,_,_,_,_,_,_,_,_,_,_,_,_,rfl,RMdV.mk (x:=x) (rp.ext E48) (rr.ext E48),RMdV.mk (x:=y) (op.ext E65) (or.ext E65),RMdV.mk (x:=z) (jp.ext E82) (jr.ext E82)⟩
 have E43:=hE43.trans (hE48.trans E48)
 refine tmodCompose_call (hD.ext E43) (fp.ext (hE48.trans E48)) M1 hdg (by omega) hyy hB fun r W141 hE141 h141=>h141.out fun _ _ _ _ _ _ _ h141 _ _=>?_
 refine refModelCompose_call (hR.ext (E43.trans hE141)) (fr.ext ((hE48.trans E48).trans hE141)) (M2.ext hE141) hdg (by omega) hyy hB fun r W151 hE151 h151=>h151.out fun _ _ _ _ _ _ _ h151 _ _=>?_
 have T:(∀t∈(if DRight b n then mdComp b n (y3 x y z) f else mdlZ).1,Sz 10000000 t.2)∧IvS 10000000 (if DRight b n then mdComp b n (y3 x y z) f else mdlZ).2∧(if DRight b n then mdComp b n (y3 x y z) f else mdlZ).1.length≤1073741824:=by
  by_cases hr:DRight b n
  ·rw[if_pos hr]
   obtain⟨c1,c2⟩:=comp_b hdg hyy hB hr f.length (Nat.le_refl _)
   rw[List.take_length] at c1 c2
   exact⟨fun t ht=>(c1.bd.sz t ht).mono (by omega),(c1.rest.mono (by omega)).sz,by omega⟩
  ·rw[if_neg hr]
   exact⟨fun t ht=>(by cases ht),⟨Sz.zero (by omega),Sz.zero (by omega)⟩,by simp[mdlZ]⟩
 exact law15told_call (h141.ext hE151) h151 T.1 T.2.1 (by omega) T.2.2 (fun e=>if_neg (of_decide_eq_false e)) fun W161 _ _=>⟨true,rfl,fun W163 _=>⟨rfl,trivial⟩⟩
end Go.Proofs.YthpmkcidkcmlgaaGreat

/- Arguments opened: what every kind of argument needs. -/
set_option maxRecDepth 100000
set_option linter.unusedVariables false
set_option linter.unusedSimpArgs false
namespace Go.Proofs.YthpmkcidkcmlgaaGreat
open Go Go.SX Go.ChangeShapes Go.WideShapes Go.ChangeAt Go.RowKit Go.Deep
theorem ownKnob_none:ownKnob Go.Proofs.Tryz.prog.godebug=none:=by kernel_rfl
theorem laidOut:laidOutB Go.Proofs.Tryz.prog=true:=by kernel_rfl
theorem cells_str:Go.Proofs.Tryz.prog.cellsOf 9=1:=by kernel_rfl
theorem cell_block {W:World} {b o:Nat} {v:Value} (h:W.cell? ⟨b,o,none⟩=some v): ∃cs t fz,W.heap[b]?=some (.cells cs t fz)∧cs[o]?=some v:=by
 unfold World.cell? at h
 cases e:W.heap[b]? with
 | none=>simp[e] at h
 | some ob=>
  cases ob with
  | cells cs t fz=>exact⟨cs,t,fz,rfl,by simpa[e] using h⟩
  | _=>simp[e] at h
theorem bulk_one {H:Type} (d:DataW H):1≤Rows.uptoBulk d:=by
 cases d with
 | lit l=>cases l<;>simp[Rows.uptoBulk]
 | nil=>simp[Rows.uptoBulk]
 | ptr d=>simp[Rows.uptoBulk]
 | slice elems spare=>simp[Rows.uptoBulk]
 | agg parts=>simp[Rows.uptoBulk]
 | iface t d=>simp[Rows.uptoBulk]
 | map entries=>simp[Rows.uptoBulk]
 | held h=>simp[Rows.uptoBulk]
theorem bulk_part {H:Type} {d:DataW H} {l:List (DataW H)} (h:d∈l):Rows.uptoBulk d≤Rows.uptoBulkAll l:=by
 induction l with
 | nil=>cases h
 | cons x r ih=>
  simp only[Rows.uptoBulkAll]
  cases List.mem_cons.1 h with
  | inl e=>subst e;omega
  | inr e=>have:=ih e;omega
theorem bulk_length {H:Type} (l:List (DataW H)):l.length≤Rows.uptoBulkAll l:=by
 induction l with
 | nil=>simp[Rows.uptoBulkAll]
 | cons x r ih=>have:=bulk_one x;simp only[Rows.uptoBulkAll,List.length_cons];omega
theorem rowA_of_cellsN {W:World} {a:Addr} {n c sz:Nat} {V:Nat→List Value} (h: ∀j,j<n→∀i v,(V j)[i]?=some v→W.cell? (a.add (j*sz+i))=some v) (hV: ∀j,j<n→(V j).length=sz) (hsz:0<sz) (hn:n≤c) (hc:c≤maxLen) (h1: ∀j,j<n→∀u∈V j,u.oneCell'=true):
  RowA ⟨W,fun _=>False⟩ sz ⟨some a,n,c⟩ ((List.range n).map V):=by
 have hel: ∀x∈(List.range n).map V,x.length=sz∧∀u∈x,u.oneCell'=true:=by
  intro x hx
  obtain⟨j,hj,rfl⟩:=List.mem_map.1 hx
  exact⟨hV j (List.mem_range.1 hj),h1 j (List.mem_range.1 hj)⟩
 by_cases h0:n=0
 ·subst h0
  exact⟨0,rfl,Nat.zero_le _,hc,hel,.inl rfl⟩
 ·obtain⟨b,off,sp⟩:=a
  have hlen0:=hV 0 (by omega)
  obtain⟨v0,hv0⟩: ∃v,(V 0)[0]?=some v:=⟨_,List.getElem?_eq_getElem (by omega)⟩
  have hc0:=h 0 (by omega) 0 v0 hv0
  have hsp:sp=none:=by simpa[Addr.add] using World.cell?_spot hc0
  subst hsp
  obtain⟨cs,t,fz,hh,_⟩:=cell_block (by rw[←add_plain];exact hc0)
  refine⟨t,by simp,hn,hc,hel,.inr ⟨b,off,cs,fz,rfl,id,hh,fun j v hj=>?_⟩⟩
  have hjl:=(List.getElem?_eq_some_iff.1 hj).1
  rw[flatten_length (sz:=sz) (fun x hx=>(hel x hx).1)] at hjl
  simp only[List.length_map,List.length_range] at hjl
  have hi:j/sz<n:=(Nat.div_lt_iff_lt_mul hsz).2 hjl
  have hm:j%sz<sz:=Nat.mod_lt _ hsz
  have e:j/sz*sz+j%sz=j:=by rw[Nat.mul_comm];exact Nat.div_add_mod j sz
  have hx:((List.range n).map V)[j/sz]?=some (V (j/sz)):=by simp[hi]
  have hl:=hV _ hi
  have hf:=flatten_at (sz:=sz) (fun x hx=>(hel x hx).1) hx (j:=j%sz) (v:=(V (j/sz))[j%sz]'(by omega)) (List.getElem?_eq_getElem (by omega))
  rw[e,hj] at hf
  have hcell:=h _ hi (j%sz) v (by rw[hf];exact List.getElem?_eq_getElem (by omega))
  rw[e,add_plain] at hcell
  obtain⟨cs',t',fz',hh',hv⟩:=cell_block hcell
  rw[hh] at hh'
  cases hh'
  exact hv
end Go.Proofs.YthpmkcidkcmlgaaGreat
