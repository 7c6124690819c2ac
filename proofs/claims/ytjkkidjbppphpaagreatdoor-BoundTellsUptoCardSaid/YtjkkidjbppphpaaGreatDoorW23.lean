/- cincturelaw9.alive, Inside. -/
import Derived.Test.YtjkkidjbppphpaaGreatDoorW20
import Derived.Test.YtjkkidjbppphpaaGreatDoorW22
import Derived.Test.YtjkkidjbppphpaaGreatDoorW13
import Derived.Test.YtjkkidjbppphpaaGreatDoorW16
import Derived.Test.YtjkkidjbppphpaaGreatDoorR19
import Derived.Test.YtjkkidjbppphpaaGreatDoorW21
set_option linter.unusedVariables false
set_option linter.unusedSimpArgs false
set_option maxRecDepth 100000
namespace Go.Proofs.YtjkkidjbppphpaaGreatDoor
open Go Go.SX
def b9a:ByteArray:=⟨⟨[48]⟩⟩
def b9b:ByteArray:=⟨⟨[49]⟩⟩
theorem Er6:Ab7 b9a=some 0:=by
 have h1:Ak5 b9a=none:=by decide
 have h2:Ac3 b9a=some 0:=by decide
 unfold Ab7
 rw[h1,h2];rfl
theorem Ed8:Ab7 b9b=some 1:=by
 have h1:Ak5 b9b=none:=by decide
 have h2:Ac3 b9b=some 1:=by decide
 unfold Ab7
 rw[h1,h2];rfl
theorem Fn4:spP b9a b9b=some (0,1):=by
 unfold spP
 rw[Er6,Ed8]
 rfl
def pr9:List (ByteArray×ByteArray):=[(b9a,b9b)]
theorem Ev3:Br9 pr9:=⟨by decide,by decide,fun t ht=>by
 rw[List.mem_singleton.1 ht]
 exact⟨(0,1),Fn4,by decide +kernel,by decide +kernel,by decide +kernel⟩⟩
def al9:List Tm:=[(⟨1,0,0⟩,-1),(⟨2,0,0⟩,1)]
theorem Fj2:Ct4 (Dc6 0) (Dc6 0):=by decide +kernel
theorem Fj1:Ag2 ([(⟨2,0,0⟩,1)] ++ pmap (Dc6 0) (-1))=al9:=by decide +kernel
theorem Da2:An3 al9 [(0,1)]:=by decide +kernel
theorem Ex6:Aq8 (Bm3 [(0,1)]) al9=(((-1:Int):Rat),((1:Int):Rat)):=by decide +kernel
theorem Fm7:Bd 7 al9:=by
 refine(Bd.Co7 (k:=1) ?_).mono (by decide)
 intro t ht
 simp only[al9,List.mem_cons,List.not_mem_nil,or_false] at ht
 rcases ht with rfl | rfl
 ·exact Fn8
 ·exact Fl0
theorem Fh8:Fm8 (Dc6 0) (Dc6 0) = [(⟨2,0,0⟩,1)]:=by decide +kernel
theorem Fg2:Bd 7 [(⟨2,0,0⟩,1)]:=(Cq4 (m:=⟨2,0,0⟩) Fl0).mono (by decide)
theorem Fj8:BxN 7 1 al9 [(0,1)] where
 bd:=Fm7
 sd x hx:=by rw[List.mem_singleton.1 hx];exact⟨Sz.zero (Nat.le_refl 1),Fl0⟩
 ok t ht:=by
  simp only[al9,List.mem_cons,List.not_mem_nil,or_false] at ht
  rcases ht with rfl | rfl<;>decide
 len:=by decide
 k1:=by decide
 m1:=by decide
 bl:=by decide
theorem Db9 {W0:PW} {M:Nat→Prop} (hT:Ac6 W0):
  Aa0 Tryz.prog 16 [] W0 M fun v W'=>v = .bool true∧True:=by
 apply Ca5
 intro s1 W2 hE2 hO1 _
 refine Cg0 (Lt:=pr9) (hT.ext hE2) ⟨_,hO1.row⟩ (by decide) (by decide) fun s5 i6 bs W4 hE4 ⟨q1,q2,_,q4⟩=>⟨s5,i6,rfl,?_⟩
 have hi:=q4 Ev3
 obtain⟨k1,k2,k3⟩:=q2 hi
 have hbs:bs = [(0,1)]:=by
  refine Eu1 k2 rfl k3 fun i h1 h2=>?_
  have:i=0:=by have:i<1:=h1;omega
  subst this
  exact Fn4
 subst hbs
 refine Cr4 (i:=0) fun s9 W8 hE8 h8=>⟨s9,rfl,?_⟩
 refine Ct0 h8 h8 En2 En2 (by omega) (by decide) (by decide) (by decide) fun s12 W11 hE11 h11=>⟨s12,_,rfl,?_⟩
 rw[Fh8] at h11
 refine Db2 h11 (h8.ext hE11) Fg2 En2 (by omega) (by decide) (by decide) fun s16 W15 hE15 h15=>⟨s16,rfl,?_⟩
 rw[Fj1] at h15
 refine Bi4 h15 (q1.ext (hE8.trans (hE11.trans hE15))) Fj8 fun l W18 hE18 h18=>?_
 rw[if_pos Da2,Ex6] at h18
 obtain⟨s19,b20,s21,s22,b23,s24,rfl,u1,u2⟩:=h18
 refine⟨s19,b20,s21,s22,b23,s24,_,rfl,fun _=>⟨fun _=>⟨fun _=>?_,fun e=>absurd e (by rw[decide_eq_true Da2];decide)⟩,fun e=>absurd e (by rw[decide_eq_true Fj2];decide)⟩,fun e=>absurd hi e⟩
 refine Ak1 (z:=-1) (by unfold I64;omega) fun b28 s29 s30 W27 hE27 h27=>⟨b28,s29,s30,rfl,?_⟩
 refine Ak1 (z:=1) (by unfold I64;omega) fun b33 s34 s35 W32 hE32 h32=>⟨b33,s34,s35,rfl,?_⟩
 exact Bt3 (x:=(((-1:Int):Rat),((1:Int):Rat))) (k:=1) (SpV.mk (u1.ext (hE27.trans hE32)) (u2.ext (hE27.trans hE32))) (Ah6.mk (h27.ext hE32) h32) ⟨Fn8,Fl0⟩ (by omega) fun W37 hE37 _=>⟨true,rfl,fun W39 _=>⟨rfl,trivial⟩⟩
theorem Ba2 {W0 W:PW} {M:Nat→Prop} {K:Value→PW→Prop} (hT:Ac6 W) (kont: ∀(W':PW),Ext W W'→(True)→K (.bool true) W'):
  Aa1 Tryz.prog W0 M 16 [] W K:=
 Aa2 (fun W' hE=>Db9 (M:=fun _=>False) (hT.ext hE)) (fun W' v W'' hE hE' hP=>by
  obtain⟨rfl,h⟩:=hP
  exact kont W'' (hE.trans hE') h)
end Go.Proofs.YtjkkidjbppphpaaGreatDoor
/- cincturelaw9.BoundHas. -/
namespace Go.Proofs.YtjkkidjbppphpaaGreatDoor
open Go Go.SX
theorem Ge7 {L:List (Mon×ByteArray)} {e:Int} {p:List Tm} {bs:List Iv} (h:Ff1 L e p) (ho:POk p) (hk: ∀x∈bs,IvS 4 x) (hl:bs.length≤5):BxB 56029 4 p bs where
 n:=⟨h.bd,hk,ho,by have:=h.len;omega,by omega,by omega,by omega⟩
 len:=by have:=h.len;omega
 k1:=by omega
 bl:=by omega
theorem Hq7 {p:List Tm} {bs:List Iv} (h:Au7 (Aq8 (Bm3 bs) p).1 (Hc0 p bs bs.length).1≤Az9 (Aq8 (Bm3 bs) p).2 (Hc0 p bs bs.length).2):Hm5 p bs=(Au7 (Aq8 (Bm3 bs) p).1 (Hc0 p bs bs.length).1,Az9 (Aq8 (Bm3 bs) p).2 (Hc0 p bs bs.length).2):=if_pos h
end Go.Proofs.YtjkkidjbppphpaaGreatDoor
/- An argument that is a slice of terms with texts, opened. -/
namespace Go.Proofs.YtjkkidjbppphpaaGreatDoor
open Go Go.SX Go.ChangeShapes Go.WideShapes Go.ChangeAt Go.RowKit Go.Deep
instance:Inhabited (Mon×ByteArray):=⟨(⟨0,0,0⟩,⟨#[]⟩)⟩
theorem Cd6:Tryz.prog.cellsOf 194=4:=by kernel_rfl
theorem Dv1:Tryz.prog.cellsOf 163=3:=by kernel_rfl
theorem Ew8:Tryz.prog.cellsOf 5=1:=by kernel_rfl
theorem Fg4 {n:Int} (h:(Lit.int .u8 n).wf=true):0≤n∧n≤255:=by
 simp[Lit.wf,IntKind.min,IntKind.max,IntKind.bits,IntKind.signed] at h
 omega
theorem Er8 {H:Type} {enc:TypeId×Value→H} {W:World} {fuel:Nat} {cs:List Value} {x:DataW H×List MemPlace} (h:DataW.trod enc Tryz.prog W 0 (fun _=>true) true fuel 194 cs=some x):
  ∃t:Mon×ByteArray,AT cs t∧t.2.size≤Rows.uptoBulk x.1:=by
 obtain⟨xs,k,rfl,rfl,hl,hxl,hf⟩:=DataW.trod_struct Tryz.underlying194 h
 rw[Cd6] at hl
 have g0:DataW.trod enc Tryz.prog W 0 (fun _=>true) true k 163 ((cs.drop 0).take (Tryz.prog.cellsOf 163))=xs[0]?:=hf 0 _ rfl
 have g1:DataW.trod enc Tryz.prog W 0 (fun _=>true) true k 9 ((cs.drop 3).take (Tryz.prog.cellsOf 9))=xs[1]?:=hf 1 _ rfl
 rw[Dv1] at g0
 rw[Ct5] at g1
 match cs,hl,xs,hxl with
 | [v0,v1,v2,v3],_,[y0,y1],_=>
  have g0:DataW.trod enc Tryz.prog W 0 (fun _=>true) true k 163 [v0,v1,v2]=some y0:=g0
  have g1:DataW.trod enc Tryz.prog W 0 (fun _=>true) true k 9 [v3]=some y1:=g1
  obtain⟨zs,m,rfl,rfl,_,hzl,hz⟩:=DataW.trod_array Tryz.underlying163 g0
  obtain⟨s,hs,rfl,hsz⟩:=DataW.trod_string Tryz.underlying9 g1
  have e0:=hz 0 (by omega)
  have e1:=hz 1 (by omega)
  have e2:=hz 2 (by omega)
  rw[Ew8] at e0 e1 e2
  match zs,hzl with
  | [w0,w1,w2],_=>
   have e0:DataW.trod enc Tryz.prog W 0 (fun _=>true) true m 5 [v0]=some w0:=e0
   have e1:DataW.trod enc Tryz.prog W 0 (fun _=>true) true m 5 [v1]=some w1:=e1
   have e2:DataW.trod enc Tryz.prog W 0 (fun _=>true) true m 5 [v2]=some w2:=e2
   obtain⟨n0,h0,_,k0⟩:=DataW.trod_int Tryz.underlying5 e0
   obtain⟨n1,h1,_,k1⟩:=DataW.trod_int Tryz.underlying5 e1
   obtain⟨n2,h2,_,k2⟩:=DataW.trod_int Tryz.underlying5 e2
   have hs: [v3] = [Value.string s]:=hs
   have h0: [v0] = [Value.int .u8 n0]:=h0
   have h1: [v1] = [Value.int .u8 n1]:=h1
   have h2: [v2] = [Value.int .u8 n2]:=h2
   simp only[List.cons.injEq,and_true] at hs h0 h1 h2
   subst hs h0 h1 h2
   refine⟨(⟨n0,n1,n2⟩,s),⟨⟨Fg4 k0,Fg4 k1,Fg4 k2⟩,rfl⟩,?_⟩
   have e:s.data.toList.length=s.size:=by rw[Array.length_toList];rfl
   simp only[List.map_cons,List.map_nil,Rows.uptoBulk,Rows.uptoBulkAll]
   omega
theorem Et3 {n:Nat} {V:Nat→List Value} {y:Nat→Mon×ByteArray} (h: ∀i,i<n→AT (V i) (y i)):An5 AT ((List.range n).map V) ((List.range n).map y):=by
 induction n with
 | zero=>trivial
 | succ n ih=>
  rw[List.range_succ,List.map_append,List.map_append]
  exact(ih fun i hi=>h i (by omega)).append ⟨h n (by omega),trivial⟩
theorem Dt5 {H:Type} {enc:TypeId×Value→H} {W:World} {fuel:Nat} {v:Value} {d:DataW H} {p:List MemPlace} (h:DataW.trod enc Tryz.prog W 0 (fun _=>true) true fuel 22 [v]=some (d,p)):
  ∃(s:Sl) (L:List (Mon×ByteArray)),v=s.v∧Af3 ⟨W,fun _=>False⟩ s L∧L.length≤Rows.uptoBulk d∧∀t∈L,t.2.size≤Rows.uptoBulk d:=by
 rcases open_slice Tryz.underlying22 h with⟨hcs,hx⟩ | ⟨a,len,cap,m,n,D,Pl,hcs,_,hl,hm,hmm,hx,hcell⟩
 ·have hv:v = .slice none 0 0:=by simpa using hcs
  subst hv
  exact⟨⟨none,0,0⟩,[],rfl,⟨[],⟨0,rfl,Nat.le_refl _,Nat.zero_le _,fun x h=>by simp at h,.inl rfl⟩,trivial⟩,Nat.zero_le _,fun l h=>by simp at h⟩
 ·have hv:v = .slice (some a) len cap:=by simpa using hcs
  subst hv
  simp only[if_true] at hmm
  subst hmm
  simp only[Prod.mk.injEq] at hx
  obtain⟨rfl,_⟩:=hx
  rw[Cd6] at hcell
  obtain⟨q,hq⟩: ∃q:Nat→List Value×(Mon×ByteArray),∀i,i<m→W.cells? 0 (a.add (i*4)) 4=some (q i).1∧AT (q i).1 (q i).2∧(q i).2.2.size≤Rows.uptoBulk (D i):=choose_lt (α:=List Value×(Mon×ByteArray)) (p:=fun i q=>W.cells? 0 (a.add (i*4)) 4=some q.1∧AT q.1 q.2∧q.2.2.size≤Rows.uptoBulk (D i)) fun i hi=>by
   obtain⟨cs',h1,h2⟩:=hcell i hi
   obtain⟨t,h3,h4⟩:=Er8 h2
   exact⟨(cs',t),h1,h3,h4⟩
  have hr:=Bz7 (W:=W) (a:=a) (n:=len) (c:=m) (sz:=4) (V:=fun i=>(q i).1) (fun j hj i v hv=>by
   obtain⟨_,hlen,hc⟩:=World.cells?_some (hq j (by omega)).1
   have hi:i<4:=by have:=(List.getElem?_eq_some_iff.1 hv).1;omega
   have:=hc i hi
   rw[add_add] at this
   rw[this];exact hv) (fun j hj=>(World.cells?_some (hq j (by omega)).1).2.1) (by omega) hl hm (fun j hj u hu=>by
   rw[(hq j (by omega)).2.1.2] at hu
   simp only[List.mem_cons,List.not_mem_nil,or_false] at hu
   rcases hu with rfl | rfl | rfl | rfl<;>rfl)
  have hbulk: ∀i,i<len→Rows.uptoBulk (D i)≤Rows.uptoBulkAll ((List.range len).map D):=fun i hi=>Eo6 (List.mem_map.2 ⟨i,List.mem_range.2 hi,rfl⟩)
  have hlen:=Dj1 ((List.range len).map D)
  simp only[List.length_map,List.length_range] at hlen
  refine⟨⟨some a,len,m⟩,(List.range len).map fun i=>(q i).2,rfl,⟨_,hr,Et3 fun i hi=>(hq i (by omega)).2.1⟩,?_,fun t ht=>?_⟩
  ·simp only[List.length_map,List.length_range,Rows.uptoBulk]
   omega
  ·obtain⟨j,hj,rfl⟩:=List.mem_map.1 ht
   have hj':=List.mem_range.1 hj
   have h1:=hbulk j hj'
   have h2:=(hq j (by omega)).2.2
   simp only[Rows.uptoBulk]
   omega
end Go.Proofs.YtjkkidjbppphpaaGreatDoor
/- An argument that is a slice of squares' texts, opened. -/
namespace Go.Proofs.YtjkkidjbppphpaaGreatDoor
open Go Go.SX Go.ChangeShapes Go.WideShapes Go.ChangeAt Go.RowKit Go.Deep
end Go.Proofs.YtjkkidjbppphpaaGreatDoor
