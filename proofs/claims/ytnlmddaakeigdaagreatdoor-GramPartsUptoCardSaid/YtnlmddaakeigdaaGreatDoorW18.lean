/- An argument that is a slice of squares' texts, opened. -/
import Derived.Test.YtnlmddaakeigdaaGreatDoorW17
import Derived.Test.YtnlmddaakeigdaaGreatDoorW15
import Derived.Test.YtnlmddaakeigdaaGreatDoorW13
import Derived.Test.YtnlmddaakeigdaaGreatDoorW8
import Derived.Test.YtnlmddaakeigdaaGreatDoorW16
import Derived.Test.YtnlmddaakeigdaaGreatDoorLib4
import Derived.Test.YtnlmddaakeigdaaGreatDoorR5
import Derived.Test.YtnlmddaakeigdaaGreatDoorW6
import Derived.Test.YtnlmddaakeigdaaGreatDoorLib2
import Derived.Test.YtnlmddaakeigdaaGreatDoorLib1
import Derived.Test.YtnlmddaakeigdaaGreatDoorW10
import Derived.Test.YtnlmddaakeigdaaGreatDoorR11
set_option linter.unusedVariables false
set_option linter.unusedSimpArgs false
set_option maxRecDepth 100000
set_option linter.unusedVariables false
set_option linter.unusedSimpArgs false
namespace Go.Proofs.YtnlmddaakeigdaaGreatDoor
open Go Go.SX Go.ChangeShapes Go.WideShapes Go.ChangeAt Go.RowKit Go.Deep
theorem cells_square:Go.Proofs.Tryz.prog.cellsOf 145=3:=by kernel_rfl
theorem cells_int2:Go.Proofs.Tryz.prog.cellsOf 3=1:=by kernel_rfl
theorem cells_terms2:Go.Proofs.Tryz.prog.cellsOf 72=1:=by kernel_rfl
abbrev SqT:=ByteArray×Int×List (Mon×ByteArray)
def SqA (W:PW) (cs:List Value) (t:SqT):Prop:=∃s:Sl,cs = [.string t.1,.int .i64 t.2.1,s.v]∧IsAPoly W s t.2.2
def IsSqs (W:PW) (s:Sl) (L:List SqT):Prop:=∃xs,RowA W 3 s xs∧All2 (SqA W) xs L
theorem open_square {H:Type} {enc:TypeId×Value→H} {W:World} {fuel:Nat} {cs:List Value} {x:DataW H×List MemPlace} (h:DataW.trod enc Go.Proofs.Tryz.prog W 0 (fun _=>true) true fuel 145 cs=some x):
  ∃t:SqT,SqA ⟨W,fun _=>False⟩ cs t∧t.1.size≤Rows.uptoBulk x.1∧t.2.2.length≤Rows.uptoBulk x.1∧∀u∈t.2.2,u.2.size≤Rows.uptoBulk x.1:=by
 obtain⟨xs,k,rfl,rfl,hl,hxl,hf⟩:=DataW.trod_struct Go.Proofs.Tryz.underlying145 h
 rw[cells_square] at hl
 have g0:DataW.trod enc Go.Proofs.Tryz.prog W 0 (fun _=>true) true k 9 ((cs.drop 0).take (Go.Proofs.Tryz.prog.cellsOf 9))=xs[0]?:=hf 0 _ rfl
 have g1:DataW.trod enc Go.Proofs.Tryz.prog W 0 (fun _=>true) true k 3 ((cs.drop 1).take (Go.Proofs.Tryz.prog.cellsOf 3))=xs[1]?:=hf 1 _ rfl
 have g2:DataW.trod enc Go.Proofs.Tryz.prog W 0 (fun _=>true) true k 72 ((cs.drop 2).take (Go.Proofs.Tryz.prog.cellsOf 72))=xs[2]?:=hf 2 _ rfl
 rw[cells_str] at g0
 rw[cells_int2] at g1
 rw[cells_terms2] at g2
 match cs,hl,xs,hxl with
 | [v0,v1,v2],_,[y0,y1,y2],_=>
  have g0:DataW.trod enc Go.Proofs.Tryz.prog W 0 (fun _=>true) true k 9 [v0]=some y0:=g0
  have g1:DataW.trod enc Go.Proofs.Tryz.prog W 0 (fun _=>true) true k 3 [v1]=some y1:=g1
  have g2:DataW.trod enc Go.Proofs.Tryz.prog W 0 (fun _=>true) true k 72 [v2]=some (y2.1,y2.2):=g2
  obtain⟨s0,h0,rfl,_⟩:=DataW.trod_string Go.Proofs.Tryz.underlying9 g0
  obtain⟨n1,h1,_⟩:=DataW.trod_int Go.Proofs.Tryz.underlying3 g1
  obtain⟨s,L,rfl,h2,h3,h4⟩:=open_terms g2
  have k0:v0=Value.string s0:=(List.cons.inj (show[v0] = [Value.string s0] from h0)).1
  have k1:v1=Value.int .i64 n1:=(List.cons.inj (show[v1] = [Value.int .i64 n1] from h1)).1
  subst k0 k1
  have e0:s0.data.toList.length=s0.size:=by rw[Array.length_toList];rfl
  refine⟨(s0,n1,L),⟨s,rfl,h2⟩,?_,?_,fun u hu=>?_⟩
  ·simp only[List.map_cons,List.map_nil,Rows.uptoBulk,Rows.uptoBulkAll]
   omega
  ·simp only[List.map_cons,List.map_nil,Rows.uptoBulk,Rows.uptoBulkAll]
   omega
  ·have:=h4 u hu
   simp only[List.map_cons,List.map_nil,Rows.uptoBulk,Rows.uptoBulkAll]
   omega
theorem all2_mapS {W:PW} {n:Nat} {V:Nat→List Value} {y:Nat→SqT} (h: ∀i,i<n→SqA W (V i) (y i)):All2 (SqA W) ((List.range n).map V) ((List.range n).map y):=by
 induction n with
 | zero=>trivial
 | succ n ih=>
  rw[List.range_succ,List.map_append,List.map_append]
  exact(ih fun i hi=>h i (by omega)).append ⟨h n (by omega),trivial⟩
theorem open_squares {H:Type} {enc:TypeId×Value→H} {W:World} {fuel:Nat} {v:Value} {d:DataW H} {p:List MemPlace} (h:DataW.trod enc Go.Proofs.Tryz.prog W 0 (fun _=>true) true fuel 22 [v]=some (d,p)):
  ∃(s:Sl) (L:List SqT),v=s.v∧IsSqs ⟨W,fun _=>False⟩ s L∧L.length≤Rows.uptoBulk d∧∀t∈L,t.1.size≤Rows.uptoBulk d∧t.2.2.length≤Rows.uptoBulk d∧∀u∈t.2.2,u.2.size≤Rows.uptoBulk d:=by
 rcases open_slice Go.Proofs.Tryz.underlying22 h with⟨hcs,hx⟩ | ⟨a,len,cap,m,n,D,Pl,hcs,_,hl,hm,hmm,hx,hcell⟩
 ·have hv:v = .slice none 0 0:=by simpa using hcs
  subst hv
  exact⟨⟨none,0,0⟩,[],rfl,⟨[],⟨0,rfl,Nat.le_refl _,Nat.zero_le _,fun x h=>by simp at h,.inl rfl⟩,trivial⟩,Nat.zero_le _,fun l h=>by simp at h⟩
 ·have hv:v = .slice (some a) len cap:=by simpa using hcs
  subst hv
  simp only[if_true] at hmm
  subst hmm
  simp only[Prod.mk.injEq] at hx
  obtain⟨rfl,_⟩:=hx
  rw[cells_square] at hcell
  have:Inhabited (List Value×SqT):=⟨([],(⟨#[]⟩,0,[]))⟩
  obtain⟨q,hq⟩: ∃q:Nat→List Value×SqT,∀i,i<m→W.cells? 0 (a.add (i*3)) 3=some (q i).1∧SqA ⟨W,fun _=>False⟩ (q i).1 (q i).2∧(q i).2.1.size≤Rows.uptoBulk (D i)∧(q i).2.2.2.length≤Rows.uptoBulk (D i)∧∀u∈(q i).2.2.2,u.2.size≤Rows.uptoBulk (D i):=choose_lt (α:=List Value×SqT) (p:=fun i q=>W.cells? 0 (a.add (i*3)) 3=some q.1∧SqA ⟨W,fun _=>False⟩ q.1 q.2∧q.2.1.size≤Rows.uptoBulk (D i)∧q.2.2.2.length≤Rows.uptoBulk (D i)∧∀u∈q.2.2.2,u.2.size≤Rows.uptoBulk (D i)) fun i hi=>by
   obtain⟨cs',h1,h2⟩:=hcell i hi
   obtain⟨t,h3,h4⟩:=open_square h2
   exact⟨(cs',t),h1,h3,h4⟩
  have hr:=rowA_of_cellsN (W:=W) (a:=a) (n:=len) (c:=m) (sz:=3) (V:=fun i=>(q i).1) (fun j hj i v hv=>by
   obtain⟨_,hlen,hc⟩:=World.cells?_some (hq j (by omega)).1
   have hi:i<3:=by have:=(List.getElem?_eq_some_iff.1 hv).1;omega
   have:=hc i hi
   rw[add_add] at this
   rw[this];exact hv) (fun j hj=>(World.cells?_some (hq j (by omega)).1).2.1) (by omega) hl hm (fun j hj u hu=>by
   obtain⟨s,e,_⟩:=(hq j (by omega)).2.1
   rw[e] at hu
   simp only[List.mem_cons,List.not_mem_nil,or_false] at hu
   rcases hu with rfl | rfl | rfl<;>rfl)
  have hbulk: ∀i,i<len→Rows.uptoBulk (D i)≤Rows.uptoBulkAll ((List.range len).map D):=fun i hi=>bulk_part (List.mem_map.2 ⟨i,List.mem_range.2 hi,rfl⟩)
  have hlen:=bulk_length ((List.range len).map D)
  simp only[List.length_map,List.length_range] at hlen
  refine⟨⟨some a,len,m⟩,(List.range len).map fun i=>(q i).2,rfl,⟨_,hr,all2_mapS fun i hi=>(hq i (by omega)).2.1⟩,?_,fun t ht=>?_⟩
  ·simp only[List.length_map,List.length_range,Rows.uptoBulk]
   omega
  ·obtain⟨j,hj,rfl⟩:=List.mem_map.1 ht
   have hj':=List.mem_range.1 hj
   have h1:=hbulk j hj'
   obtain⟨_,_,h2,h3,h4⟩:=hq j (by omega)
   simp only[Rows.uptoBulk]
   refine⟨by omega,by omega,fun u hu=>?_⟩
   have:=h4 u hu
   omega
end Go.Proofs.YtnlmddaakeigdaaGreatDoor

/- law6.Raw and law13.Squares. -/
set_option maxRecDepth 100000
set_option linter.unusedVariables false
set_option linter.unusedSimpArgs false
namespace Go.Proofs.YtnlmddaakeigdaaGreatDoor
open Go Go.SX
theorem sq_num {a:ByteArray} {q:Rat} (h:numQ a=some q):Sz 4000 q:=by
 unfold numQ at h
 split at h
 ·exact(parseQ_sz h).1
 ·cases h
def SmallIv (x:Iv):Prop:=IvS 4000 x∧x.1≤x.2
def r6I (W0:PW) (n:Nat) (L:List PL) (W:PW):Prop:=match L with
 | [.row l3,.row l4,.val (.int .i64 i)]=>∃(j:Nat) (m:List Iv),i=(j:Int)∧j≤n∧j≤5∧Ext W0 W∧All2 (SpV 268 W) l3 m∧All2 (RSpV 268 W) l4 m∧m.length≤j∧∀x∈m,SmallIv x
 | _=>False
def cn3 (n:Nat) (L:List PL) (_:PW):Nat:=match L with
 | [_,_,.val (.int .i64 i)]=>n-i.toNat
 | _=>0
theorem IsSqs.ext {W W':PW} {s:Sl} {L:List SqT} (h:IsSqs W s L) (hE:Ext W W'):IsSqs W' s L:=let⟨xs,⟨t,h1⟩,h2⟩:=h;⟨xs,⟨t,h1.ext hE⟩,h2.mono fun _ _ ⟨s,e,h⟩=>⟨s,e,h.ext hE⟩⟩
def SqGood (e:Int) (s:SqP):Prop:=Sz 4000 s.w∧∃L,OfOK L e s.q
def sqsI (W0:PW) (n:Nat) (e:Int) (L:List PL) (W:PW):Prop:=match L with
 | [.row l3,.row l4,.val (.int .i64 i)]=>∃(j:Nat) (m:List SqP),i=(j:Int)∧j≤n∧j≤6∧Ext W0 W∧All2 (SqX 268 151 W) l3 m∧All2 (RSqX 268 157 W) l4 m∧m.length≤j∧∀x∈m,SqGood e x
 | _=>False
theorem law13Squares_ok {W0:PW} {M:Nat→Prop} {s:Sl} {L:List SqT} {exp:Int} (h:Go.Proofs.YtnlmddaakeigdaaGreatDoor.IsSqs W0 s L) (hl:L.length≤1099511627776) (hz: ∀t∈L,t.1.size≤1099511627776∧t.2.2.length≤1099511627776∧∀u∈t.2.2,u.2.size≤1099511627776):
  PCallsM Go.Proofs.Tryz.prog 13 [s.v,.int .i64 exp] W0 M fun v W'=>∃(s1:Sl),∃(s2:Sl),∃(l:List SqP),v = .tuple ⟨[Sl.v s1,Sl.v s2]⟩∧SX.IsSqs 268 151 W' s1 l∧SX.RIsSqs 268 157 W' s2 l∧(l.length≤6∧∀x∈l,SqGood exp x):=by
 apply calllaw13_Squares
 obtain⟨xs,⟨ty,hr⟩,ha⟩:=h
 have hn:s.n=L.length:=hr.1.trans ha.len
 have hxl:=ha.len
 refine⟨sqsI W0 L.length exp,cn3 L.length,⟨0,[],rfl,Nat.zero_le _,Nat.zero_le _,Ext.refl _,trivial,trivial,Nat.zero_le _,fun x hx=>(by cases hx)⟩,?_⟩
 rintro l3 l4 i5 W6 ⟨j,m,rfl,hj,hj6,hE6,a3,a4,hm,hs⟩
 have n3:=a3.len
 have n4:=a4.len
 have fin: ∀{y1 y2:TypeId} (s24:Sl) (W25:PW),Ext W6 W25→SX.Own W25 y1 5 s24 l3→Fr W0 W6 s24→∀(s26:Sl) (W27:PW),Ext W25 W27→SX.Own W27 y2 5 s26 l4→Fr W0 W25 s26→∀(W28:PW),Ext W27 W28→∃(s1 s2:Sl) (l:List SqP),Value.tuple ⟨[Sl.v s24,Sl.v s26]⟩ = .tuple ⟨[Sl.v s1,Sl.v s2]⟩∧SX.IsSqs 268 151 W28 s1 l∧SX.RIsSqs 268 157 W28 s2 l∧l.length≤6∧∀x∈l,SqGood exp x:=
  fun {y1 y2} s24 W25 hE25 hO25 _ s26 W27 hE27 hO27 _ W28 hE28=>⟨s24,s26,m,rfl,⟨l3,⟨_,hO25.row.ext (hE27.trans hE28)⟩,a3.mono fun _ _ h=>h.ext (hE25.trans (hE27.trans hE28))⟩,⟨l4,⟨_,hO27.row.ext hE28⟩,a4.mono fun _ _ h=>h.ext (hE25.trans (hE27.trans hE28))⟩,by omega,hs⟩
 refine⟨fun hlt=>⟨fun h6=>?_,fun _=>fin⟩,fun _=>fin⟩
 have hjl:j<L.length:=by omega
 obtain⟨z1,z2,z3⟩:=hz _ (List.getElem_mem hjl)
 obtain⟨x,hx,hX⟩:=ha.get (List.getElem?_eq_getElem hjl)
 obtain⟨sq,rfl,hP⟩:=hX
 have hmu:L.length-Int.toNat ((j:Int)+1)<L.length-Int.toNat (j:Int):=by omega
 have hib:SX.inB s (j:Int):=hr.inB (by omega) (by omega)
 have el: ∀{W:PW},Ext W0 W→∀(off:Nat) {m:List Value},(([.string L[j].1,.int .i64 L[j].2.1,sq.v]:List Value).drop off).take m.length=m→ElemAt W s 3 j off m:=fun hE off m hm=>(hr.ext hE).part hx off hm
 refine⟨hib,L[j].1,el hE6 0 rfl,?_⟩
 refine law3Num_call z1 fun s10 b11 s12 b13 s14 s15 W9 hE9 ⟨n1,n2⟩=>⟨s10,b11,s12,b13,s14,s15,_,rfl,hib,sq,el (hE6.trans hE9) 2 rfl,?_⟩
 refine law8Of_call (hP.ext (hE6.trans hE9)) z2 z3 fun s20 s21 b22 W19 hE19 g=>?_
 have hE:=hE6.trans (hE9.trans hE19)
 have hE2:=hE9.trans hE19
 have skip:I64 ((j:Int)+1)∧stp (sqsI W0 L.length exp) (cn3 L.length) [.row l3,.row l4,.val (.int .i64 ((j:Int)+1))] W19 [.row l3,.row l4,.val (.int .i64 (j:Int))] W6:=⟨by unfold I64;omega,⟨j+1,m,by push_cast;rfl,by omega,by omega,hE,a3.mono fun _ _ h=>h.ext hE2,a4.mono fun _ _ h=>h.ext hE2,by omega,hs⟩,hmu⟩
 refine⟨s20,s21,b22,rfl,fun hq=>⟨fun hb=>⟨hib,sq,el hE 2 rfl,fun hle=>⟨hib,_,el hE 1 rfl,hib,_,el hE 1 rfl,?_⟩,fun _=>skip⟩,fun _=>skip⟩,fun _=>skip⟩
 obtain⟨q,hq2⟩:=Option.isSome_iff_exists.1 hq
 rw[hq2] at n1 n2
 obtain⟨p,op,p1,p2⟩:=g hb
 have r:=Ext.refl W19
 have A:(l3.length+([[]]:List (List Value)).length)*88≤140737488355328:=by simp only[List.length_cons,List.length_nil];omega
 have B:(l4.length+([[]]:List (List Value)).length)*88≤140737488355328:=by simp only[List.length_cons,List.length_nil];omega
 have st:I64 ((j:Int)+1)∧stp (sqsI W0 L.length exp) (cn3 L.length) [.row (l3 ++ [[s10.v,.bool b11,s12.v,.int .i64 L[j].2.1,s20.v]]),.row (l4 ++ [[.bool b13,s14.v,s15.v,.int .i64 L[j].2.1,s21.v]]),.val (.int .i64 ((j:Int)+1))] W19 [.row l3,.row l4,.val (.int .i64 (j:Int))] W6:=by
  refine⟨by unfold I64;omega,⟨j+1,m ++ [⟨q,L[j].2.1,p⟩],by push_cast;rfl,by omega,by omega,hE,(a3.mono fun _ _ h=>h.ext hE2).append ⟨⟨s10,b11,s12,s20,rfl,n1.ext hE19,p1⟩,trivial⟩,(a4.mono fun _ _ h=>h.ext hE2).append ⟨⟨b13,s14,s15,s21,rfl,n2.ext hE19,p2⟩,trivial⟩,by simp only[List.length_append,List.length_cons,List.length_nil];omega,fun y hy=>?_⟩,hmu⟩
  rcases List.mem_append.1 hy with hy | hy
  ·exact hs y hy
  ·rw[List.mem_singleton.1 hy];exact⟨sq_num hq2,_,op⟩
 exact⟨⟨r,⟨A,r,r,B,r,r,st⟩,r,A,r,B,r,r,st⟩,r,r,A,r,B,r,r,st⟩
theorem law13Squares_call {W0 W:PW} {M:Nat→Prop} {s:Sl} {L:List SqT} {exp:Int} {K:Value→PW→Prop} (h:Go.Proofs.YtnlmddaakeigdaaGreatDoor.IsSqs W s L) (hl:L.length≤1099511627776) (hz: ∀t∈L,t.1.size≤1099511627776∧t.2.2.length≤1099511627776∧∀u∈t.2.2,u.2.size≤1099511627776) (kont: ∀(s1:Sl) (s2:Sl) (l:List SqP) (W':PW),Ext W W'→(SX.IsSqs 268 151 W' s1 l∧SX.RIsSqs 268 157 W' s2 l∧(l.length≤6∧∀x∈l,SqGood exp x))→K (.tuple ⟨[Sl.v s1,Sl.v s2]⟩) W'):
  callN Go.Proofs.Tryz.prog W0 M 13 [s.v,.int .i64 exp] W K:=
 callN_of (fun W' hE=>law13Squares_ok (M:=fun _=>False) (h.ext hE) hl hz) (fun W' v W'' hE hE' hP=>by
  obtain⟨s1,s2,l,rfl,h⟩:=hP
  exact kont s1 s2 l W'' (hE.trans hE') h)
end Go.Proofs.YtnlmddaakeigdaaGreatDoor

/- cincturelaw12.System: polynomials of texts. -/
set_option maxRecDepth 100000
set_option linter.unusedVariables false
set_option linter.unusedSimpArgs false
namespace Go.Proofs.YtnlmddaakeigdaaGreatDoor
open Go Go.SX
abbrev Ps (W:PW) (s:Sl) (ps:List (List Tm)):Prop:=IsPolys 268 151 W s ps
end Go.Proofs.YtnlmddaakeigdaaGreatDoor

/- mat: none, even, Right, One, Turn, Same; cincturelaw11.Shaped. -/
set_option maxRecDepth 100000
set_option linter.unusedVariables false
set_option linter.unusedSimpArgs false
namespace Go.Proofs.YtnlmddaakeigdaaGreatDoor
open Go Go.SX
theorem qs_zero {t:TypeId} (W:PW) (c:Nat):Qs t W (List.replicate c [.slice none 0 0,.bool false,.slice none 0 0]) c (fun _=>0):=
 ⟨by simp,fun i hi=>⟨⟨none,0,0⟩,false,⟨none,0,0⟩,by simp[hi],isRat_zero W⟩⟩
def noneI (n0:Nat) (W0:PW) (r c:Nat) (l:List PL) (W:PW):Prop:=
 match l with
 | [.val (.int .i64 i),.row l3]=>Ext W0 W∧∃(k:Nat) (ss:List Sl),i=(k:Int)∧k≤r∧ss.length=k∧l3=(ss.map fun x=>[x.v]) ++ List.replicate (r-k) [.slice none 0 0]∧
   (∀i (h:i<ss.length),∃xs,Go.SX.Own W 56 3 ss[i] xs∧Qs 268 W xs c (fun _=>0)∧∀g,ss[i].v.ownBlock=some g→n0≤g)∧
   ∀i j (hi:i<ss.length) (hj:j<ss.length),i≠j→∀g,ss[i].v.ownBlock=some g→ss[j].v.ownBlock≠some g
 | _=>False
def noneM (r:Nat) (l:List PL) (W:PW):Nat:=
 match l with
 | [.val (.int .i64 i),_]=>r-i.toNat
 | _=>0
theorem matNone_ok {W0:PW} {M:Nat→Prop} {n0 r c:Nat} (hn:NewFrom n0 W0) (hr:r≤1048576) (hc:c≤1048576):
  PCallsM Go.Proofs.Tryz.prog 112 [.int .i64 (r:Int),.int .i64 (c:Int)] W0 M fun v W'=>∃(s':Sl),v=Sl.v s'∧OMat 268 56 65 (n0≤·) W' s' r c (fun _ _=>0):=by
 apply callmat_none
 refine⟨⟨rfl,by omega,by omega⟩,noneI n0 W0 r c,noneM r,⟨Ext.refl _,0,[],rfl,Nat.zero_le _,rfl,by simp,fun i h=>by simp at h,fun i j h=>by simp at h⟩,?_⟩
 rintro l3 i4 W5 ⟨hE5,k,ss,rfl,hk,hl,rfl,h3,h4⟩
 rw[List.length_replicate,show Int.toNat (r:Int)=r from rfl,show Int.toNat (c:Int)=c from rfl,show Int.toNat (k:Int)=k from rfl]
 have hlen:((ss.map fun x=>[x.v]) ++ List.replicate (r-k) [Value.slice none 0 0]).length=r:=by simp;omega
 refine⟨fun hlt=>⟨⟨rfl,by omega,by omega⟩,⟨by omega,by rw[hlen];omega⟩,fun s6 W7 hE7 hO hf=>⟨by rw[hlen];omega,by unfold I64;omega,⟨hE5.trans hE7,k+1,ss ++ [s6],by push_cast;rfl,by omega,by simp[hl],?_,?_,?_⟩,?_⟩⟩,fun hge s9 W10 hE10 hO hf W12 hE12=>⟨s9,rfl,?_⟩⟩
 ·rw[List.set_append_right _ _ (by simp[hl])]
  simp only[List.length_map,hl,Nat.sub_self,List.map_append,List.map_cons,List.map_nil]
  rw[show r-k=(r-(k+1))+1 by omega,List.replicate_succ,List.set_cons_zero]
  simp
 ·intro i h
  by_cases e:i<ss.length
  ·obtain⟨xs,k1,k2,k3⟩:=h3 i e
   rw[List.getElem_append_left e]
   exact⟨xs,k1.ext hE7,k2.ext hE7,k3⟩
  ·have:i=ss.length:=by simp at h;omega
   subst this
   rw[List.getElem_concat_length rfl]
   refine⟨_,hO,qs_zero W7 c,fun g hg=>?_⟩
   exact Nat.le_trans hn (hf g hg).1
 ·have key: ∀i (hi:i<ss.length) g,s6.v.ownBlock=some g→ss[i].v.ownBlock≠some g:=by
   intro i hi g hg hg'
   obtain⟨xs,k1,k2,k3⟩:=h3 i hi
   by_cases hx:xs = []
   ·have hn:=k1.n
    subst hx
    have h6:=hO.n
    rcases k1.1.2.2 with⟨hv,_⟩ | ⟨g1,cap,cur,hv,_,hh,_⟩
    ·rw[hv] at hg'
     simp[Value.ownBlock] at hg'
    ·have hgg:ss[i].v.ownBlock=some g1:=by rw[hv];rfl
     rw[hg'] at hgg
     cases hgg
     exact k1.2 g hg' ((hf g hg).2 (Array.getElem?_eq_some_iff.1 hh).1)
   ·obtain⟨g1,cs,_,hg1,hS,hh,_⟩:=k1.at hx
    rw[hg'] at hg1
    cases hg1
    exact hS ((hf g hg).2 (Array.getElem?_eq_some_iff.1 hh).1)
  intro i j hi hj hne g hg hg'
  simp only[List.length_append,List.length_cons,List.length_nil] at hi hj
  by_cases ei:i<ss.length
  ·rw[List.getElem_append_left ei] at hg
   by_cases ej:j<ss.length
   ·rw[List.getElem_append_left ej] at hg'
    exact h4 i j ei ej hne g hg hg'
   ·have:j=ss.length:=by omega
    subst this
    rw[List.getElem_concat_length rfl] at hg'
    exact key i ei g hg' hg
  ·have:i=ss.length:=by omega
   subst this
   rw[List.getElem_concat_length rfl] at hg
   rw[List.getElem_append_left (by omega)] at hg'
   exact key j (by omega) g hg hg'
 ·show r-Int.toNat ((k:Int)+1)<r-Int.toNat (k:Int)
  omega
 ·have hkr:k=r:=by omega
  subst hkr
  rw[Nat.sub_self,List.replicate_zero,List.append_nil] at hO
  exact⟨ss,hl,(hO.ext hE12).row,fun i hi=>let⟨xs,k1,k2,k3⟩:=h3 i hi;⟨xs,(k1.ext hE10).ext hE12,(k2.ext hE10).ext hE12,k3⟩,h4⟩
theorem matNone_call {W0 W:PW} {M:Nat→Prop} {n0 r c:Nat} {K:Value→PW→Prop} (hn:NewFrom n0 W) (hr:r≤1048576) (hc:c≤1048576) (kont: ∀(s':Sl) (W':PW),Ext W W'→(OMat 268 56 65 (n0≤·) W' s' r c (fun _ _=>0))→K (Sl.v s') W'):
  callN Go.Proofs.Tryz.prog W0 M 112 [.int .i64 (r:Int),.int .i64 (c:Int)] W K:=
 callN_of (fun W' hE=>matNone_ok (M:=fun _=>False) (hn.ext hE) hr hc) (fun W' v W'' hE hE' hP=>by
  obtain⟨s',rfl,h⟩:=hP
  exact kont s' W'' (hE.trans hE') h)
def RightP (r:Nat) (c:Nat→Nat):Prop:=(∀i,i<r→c i=c 0)∧1≤r∧r≤12∧1≤c 0∧c 0≤12
theorem matEven_ok {W0:PW} {M:Nat→Prop} {s:Sl} {r:Nat} {c:Nat→Nat} {m:Nat→Nat→Rat} (h:IsMat 268 56 65 W0 s r c m) (hr:r≤1099511627776):
  PCallsM Go.Proofs.Tryz.prog 165 [s.v] W0 M fun v W'=>∃(b:Bool),v = .bool b∧(b=true↔RightP r c):=by
 apply callmat_even_rat_Rat
 have hn:=h.n
 refine⟨fun l W=>match l with | [.val (.int .i64 i)]=>Ext W0 W∧∃k:Nat,i=(k:Int)∧k≤r∧∀i,i<k→c i=c 0 | _=>False,fun l _=>match l with | [.val (.int .i64 i)]=>r-i.toNat | _=>0,⟨Ext.refl _,0,rfl,Nat.zero_le _,fun i h=>(by omega)⟩,?_⟩
 rintro i3 W4 ⟨hE4,k,rfl,hk,hck⟩
 have h4:=h.ext hE4
 refine⟨fun hlt=>?_,fun hge=>⟨fun h1=>⟨fun h12=>?_,fun h12=>fun W14 _=>⟨false,rfl,?_⟩⟩,fun h1=>fun W21 _=>⟨false,rfl,?_⟩⟩⟩
 ·obtain⟨x,e1,e2⟩:=h4.at (i:=k) (by omega)
  obtain⟨y,f1,f2⟩:=h4.at (i:=0) (by omega)
  have n1:=e2.n
  have n2:=f2.n
  refine⟨h4.inB (by omega) (by omega),x,e1,h4.inB (by omega) (by omega),y,f1,fun hne W7 _=>⟨false,rfl,?_⟩,fun heq=>⟨by unfold I64;omega,⟨hE4,k+1,by push_cast;rfl,by omega,fun i hi=>?_⟩,?_⟩⟩
  ·refine⟨fun h=>(by cases h),fun h=>?_⟩
   have:=h.1 k (by omega)
   omega
  ·by_cases e:i=k
   ·subst e;omega
   ·exact hck i (by omega)
  ·show r-Int.toNat ((k:Int)+1)<r-Int.toNat (k:Int)
   omega
 ·have hkr:k=r:=by omega
  obtain⟨y,f1,f2⟩:=h4.at (i:=0) (by omega)
  have n2:=f2.n
  have ib:=h4.inB (i:=0) (by omega) (by omega)
  refine⟨ib,y,f1,fun hy=>⟨ib,y,f1,fun W10 _=>⟨_,rfl,?_⟩⟩,fun hy W11 _=>⟨false,rfl,?_⟩⟩
  ·rw[decide_eq_true_iff]
   exact⟨fun h=>⟨fun i hi=>hck i (by omega),by omega,by omega,by omega,by omega⟩,fun h=>by have:=h.2.2.2.2;omega⟩
  ·refine⟨fun h=>(by cases h),fun h=>?_⟩
   have:=h.2.2.2.1
   omega
 ·refine⟨fun h=>(by cases h),fun h=>?_⟩
  have:=h.2.2.1
  omega
 ·refine⟨fun h=>(by cases h),fun h=>?_⟩
  have:=h.2.1
  omega
theorem matEven_call {W0 W:PW} {M:Nat→Prop} {s:Sl} {r:Nat} {c:Nat→Nat} {m:Nat→Nat→Rat} {K:Value→PW→Prop} (h:IsMat 268 56 65 W s r c m) (hr:r≤1099511627776) (kont: ∀(b:Bool) (W':PW),Ext W W'→((b=true↔RightP r c))→K (.bool b) W'):
  callN Go.Proofs.Tryz.prog W0 M 165 [s.v] W K:=
 callN_of (fun W' hE=>matEven_ok (M:=fun _=>False) (h.ext hE) hr) (fun W' v W'' hE hE' hP=>by
  obtain⟨b,rfl,h⟩:=hP
  exact kont b W'' (hE.trans hE') h)
theorem matRight_ok {W0:PW} {M:Nat→Prop} {s:Sl} {r:Nat} {c:Nat→Nat} {m:Nat→Nat→Rat} (h:IsMat 268 56 65 W0 s r c m) (hr:r≤1099511627776):
  PCallsM Go.Proofs.Tryz.prog 114 [s.v] W0 M fun v W'=>∃(b:Bool),v = .bool b∧(b=true↔RightP r c):=by
 apply callmat_Right
 exact matEven_call h hr fun b W2 hE2 hb=>⟨b,rfl,fun W4 hE4=>⟨b,rfl,hb⟩⟩
theorem matRight_call {W0 W:PW} {M:Nat→Prop} {s:Sl} {r:Nat} {c:Nat→Nat} {m:Nat→Nat→Rat} {K:Value→PW→Prop} (h:IsMat 268 56 65 W s r c m) (hr:r≤1099511627776) (kont: ∀(b:Bool) (W':PW),Ext W W'→((b=true↔RightP r c))→K (.bool b) W'):
  callN Go.Proofs.Tryz.prog W0 M 114 [s.v] W K:=
 callN_of (fun W' hE=>matRight_ok (M:=fun _=>False) (h.ext hE) hr) (fun W' v W'' hE hE' hP=>by
  obtain⟨b,rfl,h⟩:=hP
  exact kont b W'' (hE.trans hE') h)
end Go.Proofs.YtnlmddaakeigdaaGreatDoor

/- cinctureref1: MatRight, square, rows, One, Ldl, Semi; ldl.Semi. -/
set_option maxRecDepth 100000
set_option linter.unusedVariables false
set_option linter.unusedSimpArgs false
namespace Go.Proofs.YtnlmddaakeigdaaGreatDoor
open Go Go.SX
end Go.Proofs.YtnlmddaakeigdaaGreatDoor

/- gram.Form, cinctureref1.Form. -/
set_option maxRecDepth 100000
set_option linter.unusedVariables false
set_option linter.unusedSimpArgs false
namespace Go.Proofs.YtnlmddaakeigdaaGreatDoor
open Go Go.SX
def stepA (q:Nat→List Tm) (m:Nat→Nat→Rat) (i k:Nat) (a:Option (List Tm)):Option (List Tm):=match a with
 | none=>none
 | some a=>if MulOK (q i) (q k) then some (pnorm (a ++ pnorm (pmap (pnorm (ppairs (q i) (q k))) (m i k)))) else none
def formK (q:Nat→List Tm) (m:Nat→Nat→Rat) (i:Nat) (a:Option (List Tm)):Nat→Option (List Tm)
 | 0=>a
 | k+1=>stepA q m i k (formK q m i a k)
def formI (q:Nat→List Tm) (m:Nat→Nat→Rat) (n:Nat):Nat→Option (List Tm)
 | 0=>some []
 | i+1=>formK q m i (formI q m n i) n
theorem formK_none {q:Nat→List Tm} {m:Nat→Nat→Rat} {i:Nat} {a:Option (List Tm)} {k:Nat} (h:formK q m i a k=none): ∀n,k≤n→formK q m i a n=none
 | 0,hk=>by
  have:k=0:=by omega
  subst this
  exact h
 | n+1,hk=>by
  by_cases e:k=n+1
  ·subst e;exact h
  ·rw[formK,formK_none h n (by omega)]
   rfl
theorem formI_none {q:Nat→List Tm} {m:Nat→Nat→Rat} {n i:Nat} (h:formI q m n i=none): ∀j,i≤j→formI q m n j=none
 | 0,hj=>by
  have:i=0:=by omega
  subst this
  exact h
 | j+1,hj=>by
  by_cases e:i=j+1
  ·subst e;exact h
  ·rw[formI,formI_none h j (by omega)]
   exact formK_none (k:=0) rfl n (Nat.zero_le _)
def qat (ps:List (List Tm)) (i:Nat):List Tm:=ps.getD i []
def FormOK (ps:List (List Tm)) (r:Nat) (c:Nat→Nat):Prop:=RightP r c∧c 0=r∧ps.length=r
noncomputable def formP (ps:List (List Tm)) (r:Nat) (c:Nat→Nat) (m:Nat→Nat→Rat):Option (List Tm):=by
 classical exact if FormOK ps r c then formI (qat ps) m ps.length ps.length else none
theorem formP_bad {ps:List (List Tm)} {r:Nat} {c:Nat→Nat} {m:Nat→Nat→Rat} (h:¬FormOK ps r c):formP ps r c m=none:=by unfold formP;rw[if_neg h]
theorem formP_good {ps:List (List Tm)} {r:Nat} {c:Nat→Nat} {m:Nat→Nat→Rat} (h:FormOK ps r c):formP ps r c m=formI (qat ps) m ps.length ps.length:=by unfold formP;rw[if_pos h]
theorem qat_at {ps:List (List Tm)} {i:Nat} (h:i<ps.length):qat ps i=ps[i]:=by unfold qat;rw[List.getD_eq_getElem?_getD,List.getElem?_eq_getElem h];rfl
def cmb:Nat→Nat:=fun t=>1+t*116070
theorem cmb_succ (t:Nat):cmb (t+1)=cmb t+116070:=by unfold cmb;omega
theorem cmb_le {n i k:Nat} (hn:n≤5) (hi:i<n) (hk:k≤n):cmb (i*n+k)≤3000000:=by
 unfold cmb
 have h1:i*n≤4*5:=Nat.mul_le_mul (by omega) hn
 have h2:=Nat.mul_le_mul_right 116070 (show i*n+k≤25 by omega)
 omega
def foO (W0:PW) (ps:List (List Tm)) (m:Nat→Nat→Rat) (L:List PL) (W:PW):Prop:=match L with
 | [.val (.int .i64 i),_,.cells [.slice A n c]]=>∃(j:Nat) (a:List Tm),i=(j:Int)∧j≤ps.length∧Ext W0 W∧formI (qat ps) m ps.length j=some a∧IsPoly 268 151 W ⟨A,n,c⟩ a∧Bd (cmb (j*ps.length)) a∧PGood a
 | _=>False
def foI (W0:PW) (ps:List (List Tm)) (m:Nat→Nat→Rat) (j:Nat) (a0:List Tm) (L:List PL) (W:PW):Prop:=match L with
 | [.val (.int .i64 i),_,.cells [.slice A n c]]=>∃(k:Nat) (a:List Tm),i=(k:Int)∧k≤ps.length∧Ext W0 W∧formK (qat ps) m j (some a0) k=some a∧IsPoly 268 151 W ⟨A,n,c⟩ a∧Bd (cmb (j*ps.length+k)) a∧PGood a
 | _=>False
structure SysOK (ps:List (List Tm)):Prop where
 bd: ∀q∈ps,Bd 56029 q∧q.length≤14
 len:ps.length≤5
theorem gramForm_ok {W0:PW} {M:Nat→Prop} {s sm:Sl} {ps:List (List Tm)} {r:Nat} {c:Nat→Nat} {m:Nat→Nat→Rat} (h:Ps W0 s ps) (hm:IsMat 268 56 65 W0 sm r c m) (hp:SysOK ps) (hr:r≤1099511627776) (hz: ∀i j,Sz 4001 (m i j)):
  PCallsM Go.Proofs.Tryz.prog 55 [s.v,sm.v] W0 M fun v W'=>∃(s':Sl),v = .tuple ⟨[.agg ⟨[Sl.v s']⟩,.bool (formP ps r c m).isSome]⟩∧IsPoly 268 151 W' s' ((formP ps r c m).getD []):=by
 apply callgram_Form
 have hn:=h.n
 have hmn:=hm.n
 have h4:=hp.len
 have bad:formP ps r c m=none→∀W':PW,∃s':Sl,(Value.tuple ⟨[.agg ⟨[.slice none 0 0]⟩,.bool false]⟩) = .tuple ⟨[.agg ⟨[Sl.v s']⟩,.bool (formP ps r c m).isSome]⟩∧IsPoly 268 151 W' s' ((formP ps r c m).getD []):=fun hb W'=>by rw[hb];exact⟨⟨none,0,0⟩,rfl,IsPoly.nil W'⟩
 refine matRight_call hm hr fun b3 W2 hE2 hR=>⟨b3,rfl,fun hno W4 _=>bad (formP_bad fun hF=>?_) W4,fun hyes=>?_⟩
 ·have:=hR.2 hF.1
  rw[this] at hno
  cases hno
 have hRP:RightP r c:=hR.1 (by simpa using hyes)
 have hr1:=hRP.2.1
 obtain⟨x0,hx0,hq0⟩:=(hm.ext hE2).at (i:=0) (by omega)
 have hn0:=hq0.n
 refine⟨(hm.ext hE2).inB (by omega) (by omega),x0,hx0,fun hne W6 _=>bad (formP_bad fun hF=>?_) W6,fun hsq=>⟨fun hne W7 _=>bad (formP_bad fun hF=>?_) W7,fun hlen=>?_⟩⟩
 ·have:=hF.2.1
  omega
 ·have:=hF.2.2
  omega
 have hF:FormOK ps r c:=⟨hRP,by omega,by omega⟩
 refine⟨foO W0 ps m,fun L _=>match L with | [.val (.int .i64 i),_,_]=>ps.length-i.toNat | _=>0,⟨0,[],rfl,Nat.zero_le _,hE2,rfl,IsPoly.nil W2,⟨1,0,trivial,by decide,by rw[nl_one];simp[cmb],by rw[nl_zero];exact Nat.zero_le _⟩,PGood.nil⟩,?_⟩
 rintro s10 s11 i12 W13 ⟨j,a0,rfl,hj,hE13,ha0,hP0,hB0,hG0⟩
 refine⟨fun hlt=>?_,fun hge W37 hE37=>⟨s11,?_,?_⟩⟩
 ·have hjl:j<ps.length:=by omega
  obtain⟨x,hx,hxp⟩:=(h.ext hE13).at hjl
  refine⟨(h.ext hE13).inB (by omega) (by omega),x,hx,?_⟩
  refine⟨foI W13 ps m j a0,fun L _=>match L with | [.val (.int .i64 i),_,_]=>ps.length-i.toNat | _=>0,⟨0,a0,rfl,Nat.zero_le _,Ext.refl _,rfl,hP0,hB0,hG0⟩,?_⟩
  rintro s17 s18 i19 W20 ⟨k,a,rfl,hk,hE20,ha,hP,hB,hG⟩
  have hP:IsPoly 268 151 W20 s18 a:=hP
  refine⟨fun hltk=>?_,fun hgek=>⟨by unfold I64;omega,⟨j+1,a,by push_cast;rfl,by omega,hE13.trans hE20,?_,hP,?_,hG⟩,?_⟩⟩
  ·have hkl:k<ps.length:=by omega
   have hE0:=hE13.trans hE20
   obtain⟨y,hy,hyp⟩:=(h.ext hE0).at hkl
   have m1:=hp.bd _ (List.getElem_mem hjl)
   have m2:=hp.bd _ (List.getElem_mem hkl)
   refine⟨(h.ext hE0).inB (by omega) (by omega),y,hy,polyMul_call (hxp.ext hE20) hyp m1.1 m2.1 (by omega) (by omega) (by omega) (by have:=Nat.mul_le_mul m1.2 m2.2;omega) fun s24 W23 hE23 h23=>⟨s24,_,rfl,fun hno W26 _=>bad ?_ W26,fun hyes=>?_⟩⟩
   ·have hM:¬MulOK ps[j] ps[k]:=by simpa using hno
    rw[formP_good hF]
    refine formI_none (i:=j+1) ?_ _ hjl
    rw[formI,ha0]
    refine formK_none (k:=k+1) ?_ _ hkl
    rw[formK,ha,stepA,qat_at hjl,qat_at hkl]
    rw[if_neg hM]
   ·have hM:MulOK ps[j] ps[k]:=by simpa using hyes
    rw[mulP_of hM] at h23
    have hpl:(pnorm (ppairs ps[j] ps[k])).length≤196:=by have:=pnorm_len (ppairs ps[j] ps[k]);rw[ppairs_len] at this;have:=Nat.mul_le_mul m1.2 m2.2;omega
    have hpb:=(m1.1.pairs m2.1).norm
    have hmE:=hm.ext (hE0.trans hE23)
    obtain⟨z,hz1,hz2⟩:=hmE.at (i:=j) (by omega)
    have hck:k<c j:=by rw[hRP.1 j (by omega)];omega
    obtain⟨s1,b1,s2,e1,e2⟩:=hz2.at hck
    have hzb:Bd (56029+56029+4001) (pmap (pnorm (ppairs ps[j] ps[k])) (m j k)):=Bd.pmap hpb (hz j k)
    have hzl:=pmap_len (pnorm (ppairs ps[j] ps[k])) (m j k)
    have hzl2:=pnorm_len (pmap (pnorm (ppairs ps[j] ps[k])) (m j k))
    have hal:=PGood.len hG hP.ok
    have hcm:=cmb_le h4 hjl (Nat.le_of_lt hkl)
    refine⟨hmE.inB (by omega) (by omega),z,hz1,hz2.inB (by omega) (by omega),s1,b1,s2,e1,polyScale_call h23 e2 hpb (hz j k) (by omega) (by omega) (by omega) fun s33 W32 hE32 h32=>⟨s33,rfl,hE32,?_⟩⟩
    refine polyAdd_call (k:=3000000) (hP.ext (hE23.trans hE32)) h32 (hB.mono hcm) (hzb.norm.mono (by omega)) (by omega) (by omega) (by omega) fun s36 W35 hE35 h35=>⟨s36,rfl,hE35,by unfold I64;omega,⟨k+1,pnorm (a ++ pnorm (pmap (pnorm (ppairs ps[j] ps[k])) (m j k))),by push_cast;rfl,by omega,hE20.trans (hE23.trans (hE32.trans hE35)),?_,h35,?_,pnorm_good _⟩,?_⟩
    ·rw[formK,ha,stepA,qat_at hjl,qat_at hkl]
     rw[if_pos hM]
    ·refine(hB.append hzb.norm).norm.mono ?_
     rw[show j*ps.length+(k+1)=(j*ps.length+k)+1 by omega,cmb_succ]
     omega
    ·show ps.length-Int.toNat ((k:Int)+1)<ps.length-Int.toNat (k:Int)
     omega
  ·have:k=ps.length:=by omega
   subst this
   rw[formI,ha0]
   exact ha
  ·have:k=ps.length:=by omega
   subst this
   rw[Nat.add_mul,Nat.one_mul]
   exact hB
  ·show ps.length-Int.toNat ((j:Int)+1)<ps.length-Int.toNat (j:Int)
   omega
 ·have:j=ps.length:=by omega
  subst this
  rw[formP_good hF,ha0]
  rfl
 ·have:j=ps.length:=by omega
  subst this
  rw[formP_good hF,ha0]
  exact IsPoly.ext hP0 hE37
theorem gramForm_call {W0 W:PW} {M:Nat→Prop} {s sm:Sl} {ps:List (List Tm)} {r:Nat} {c:Nat→Nat} {m:Nat→Nat→Rat} {K:Value→PW→Prop} (h:Ps W s ps) (hm:IsMat 268 56 65 W sm r c m) (hp:SysOK ps) (hr:r≤1099511627776) (hz: ∀i j,Sz 4001 (m i j)) (kont: ∀(s':Sl) (W':PW),Ext W W'→(IsPoly 268 151 W' s' ((formP ps r c m).getD []))→K (.tuple ⟨[.agg ⟨[Sl.v s']⟩,.bool (formP ps r c m).isSome]⟩) W'):
  callN Go.Proofs.Tryz.prog W0 M 55 [s.v,sm.v] W K:=
 callN_of (fun W' hE=>gramForm_ok (M:=fun _=>False) (h.ext hE) (hm.ext hE) hp hr hz) (fun W' v W'' hE hE' hP=>by
  obtain⟨s',rfl,h⟩:=hP
  exact kont s' W'' (hE.trans hE') h)
end Go.Proofs.YtnlmddaakeigdaaGreatDoor
