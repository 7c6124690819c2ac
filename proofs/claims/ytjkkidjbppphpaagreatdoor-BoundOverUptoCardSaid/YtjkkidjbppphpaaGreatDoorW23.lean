/- cincturelaw9.alive, Inside. -/
import Derived.Test.YtjkkidjbppphpaaGreatDoorW20
import Derived.Test.YtjkkidjbppphpaaGreatDoorW22
import Derived.Test.YtjkkidjbppphpaaGreatDoorW13
import Derived.Test.YtjkkidjbppphpaaGreatDoorW16
import Derived.Test.YtjkkidjbppphpaaGreatDoorR19
import Derived.Test.YtjkkidjbppphpaaGreatDoorW21
import Derived.Test.YtjkkidjbppphpaaGreatDoorCards
import Derived.Test.YtjkkidjbppphpaaGreatDoorTie
import Derived.Deep.DeepHandedRow
import Derived.Lib.LaidTab
import Derived.Test.YtjkkidjbppphpaaGreatDoorLib4
set_option linter.unusedVariables false
set_option linter.unusedSimpArgs false
set_option maxRecDepth 100000
namespace Go.Proofs.YtjkkidjbppphpaaGreatDoor
open Go Go.SX
def b9a:ByteArray:=⟨⟨[48]⟩⟩
def b9b:ByteArray:=⟨⟨[49]⟩⟩
theorem Er6:Ab7 b9a=some 0:=by
 have h1:Ak5 b9a=none:=by decide
 have h2:Ac3 b9a=some 0:=by decide
 unfold Ab7
 rw[h1,h2];rfl
theorem Ed8:Ab7 b9b=some 1:=by
 have h1:Ak5 b9b=none:=by decide
 have h2:Ac3 b9b=some 1:=by decide
 unfold Ab7
 rw[h1,h2];rfl
theorem Fn4:spP b9a b9b=some (0,1):=by
 unfold spP
 rw[Er6,Ed8]
 rfl
def pr9:List (ByteArray×ByteArray):=[(b9a,b9b)]
theorem Ev3:Br9 pr9:=⟨by decide,by decide,fun t ht=>by
 rw[List.mem_singleton.1 ht]
 exact⟨(0,1),Fn4,by decide +kernel,by decide +kernel,by decide +kernel⟩⟩
def al9:List Tm:=[(⟨1,0,0⟩,-1),(⟨2,0,0⟩,1)]
theorem Fj2:Ct4 (Dc6 0) (Dc6 0):=by decide +kernel
theorem Fj1:Ag2 ([(⟨2,0,0⟩,1)] ++ pmap (Dc6 0) (-1))=al9:=by decide +kernel
theorem Da2:An3 al9 [(0,1)]:=by decide +kernel
theorem Ex6:Aq8 (Bm3 [(0,1)]) al9=(((-1:Int):Rat),((1:Int):Rat)):=by decide +kernel
theorem Fm7:Bd 7 al9:=by
 refine(Bd.Co7 (k:=1) ?_).mono (by decide)
 intro t ht
 simp only[al9,List.mem_cons,List.not_mem_nil,or_false] at ht
 rcases ht with rfl | rfl
 ·exact Fn8
 ·exact Fl0
theorem Fh8:Fm8 (Dc6 0) (Dc6 0) = [(⟨2,0,0⟩,1)]:=by decide +kernel
theorem Fg2:Bd 7 [(⟨2,0,0⟩,1)]:=(Cq4 (m:=⟨2,0,0⟩) Fl0).mono (by decide)
theorem Fj8:BxN 7 1 al9 [(0,1)] where
 bd:=Fm7
 sd x hx:=by rw[List.mem_singleton.1 hx];exact⟨Sz.zero (Nat.le_refl 1),Fl0⟩
 ok t ht:=by
  simp only[al9,List.mem_cons,List.not_mem_nil,or_false] at ht
  rcases ht with rfl | rfl<;>decide
 len:=by decide
 k1:=by decide
 m1:=by decide
 bl:=by decide
theorem Db9 {W0:PW} {M:Nat→Prop} (hT:Ac6 W0):
  Aa0 Tryz.prog 16 [] W0 M fun v W'=>v = .bool true∧True:=by
 apply Ca5
 intro s1 W2 hE2 hO1 _
 refine Cg0 (Lt:=pr9) (hT.ext hE2) ⟨_,hO1.row⟩ (by decide) (by decide) fun s5 i6 bs W4 hE4 ⟨q1,q2,_,q4⟩=>⟨s5,i6,rfl,?_⟩
 have hi:=q4 Ev3
 obtain⟨k1,k2,k3⟩:=q2 hi
 have hbs:bs = [(0,1)]:=by
  refine Eu1 k2 rfl k3 fun i h1 h2=>?_
  have:i=0:=by have:i<1:=h1;omega
  subst this
  exact Fn4
 subst hbs
 refine Cr4 (i:=0) fun s9 W8 hE8 h8=>⟨s9,rfl,?_⟩
 refine Ct0 h8 h8 En2 En2 (by omega) (by decide) (by decide) (by decide) fun s12 W11 hE11 h11=>⟨s12,_,rfl,?_⟩
 rw[Fh8] at h11
 refine Db2 h11 (h8.ext hE11) Fg2 En2 (by omega) (by decide) (by decide) fun s16 W15 hE15 h15=>⟨s16,rfl,?_⟩
 rw[Fj1] at h15
 refine Bi4 h15 (q1.ext (hE8.trans (hE11.trans hE15))) Fj8 fun l W18 hE18 h18=>?_
 rw[if_pos Da2,Ex6] at h18
 obtain⟨s19,b20,s21,s22,b23,s24,rfl,u1,u2⟩:=h18
 refine⟨s19,b20,s21,s22,b23,s24,_,rfl,fun _=>⟨fun _=>⟨fun _=>?_,fun e=>absurd e (by rw[decide_eq_true Da2];decide)⟩,fun e=>absurd e (by rw[decide_eq_true Fj2];decide)⟩,fun e=>absurd hi e⟩
 refine Ak1 (z:=-1) (by unfold I64;omega) fun b28 s29 s30 W27 hE27 h27=>⟨b28,s29,s30,rfl,?_⟩
 refine Ak1 (z:=1) (by unfold I64;omega) fun b33 s34 s35 W32 hE32 h32=>⟨b33,s34,s35,rfl,?_⟩
 exact Bt3 (x:=(((-1:Int):Rat),((1:Int):Rat))) (k:=1) (SpV.mk (u1.ext (hE27.trans hE32)) (u2.ext (hE27.trans hE32))) (Ah6.mk (h27.ext hE32) h32) ⟨Fn8,Fl0⟩ (by omega) fun W37 hE37 _=>⟨true,rfl,fun W39 _=>⟨rfl,trivial⟩⟩
theorem Ba2 {W0 W:PW} {M:Nat→Prop} {K:Value→PW→Prop} (hT:Ac6 W) (kont: ∀(W':PW),Ext W W'→(True)→K (.bool true) W'):
  Aa1 Tryz.prog W0 M 16 [] W K:=
 Aa2 (fun W' hE=>Db9 (M:=fun _=>False) (hT.ext hE)) (fun W' v W'' hE hE' hP=>by
  obtain⟨rfl,h⟩:=hP
  exact kont W'' (hE.trans hE') h)
end Go.Proofs.YtjkkidjbppphpaaGreatDoor
/- cincturelaw9.BoundOver. -/
namespace Go.Proofs.YtjkkidjbppphpaaGreatDoor
open Go Go.SX
def obI (W0:PW) (L:List PL) (W:PW):Prop:=match L with
 | [.val (.int .i64 i),.cells c,.cells d]=>∃(j:Nat) (l:List Iv),i=(j:Int)∧j≤3∧Ext W0 W∧l.length=j∧DmV 284 W c (Bm3 l)∧Cf1 284 W d (Bm3 l)∧∀x∈l,IvS 4 x∧x.1≤x.2
 | _=>False
theorem Fm9 (a b c d e f:ByteArray) {j:Nat} (hj:j<3): ∃x y:ByteArray,(x=a∧y=b∨x=c∧y=d∨x=e∧y=f)∧As9 [.string a,.string b,.string c,.string d,.string e,.string f] (0+Int.toNat (j:Int)*2+0) [.string x,.string y]∧
  As9 [.string a,.string b,.string c,.string d,.string e,.string f] (0+Int.toNat (j:Int)*2+0) [.string x]∧As9 [.string a,.string b,.string c,.string d,.string e,.string f] (0+Int.toNat (j:Int)*2+1) [.string y]:=by
 rcases(by omega:j=0∨j=1∨j=2) with rfl | rfl | rfl
 ·exact⟨a,b,.inl ⟨rfl,rfl⟩,⟨by simp,rfl⟩,⟨by simp,rfl⟩,⟨by simp,rfl⟩⟩
 ·exact⟨c,d,.inr (.inl ⟨rfl,rfl⟩),⟨by simp,rfl⟩,⟨by simp,rfl⟩,⟨by simp,rfl⟩⟩
 ·exact⟨e,f,.inr (.inr ⟨rfl,rfl⟩),⟨by simp,rfl⟩,⟨by simp,rfl⟩,⟨by simp,rfl⟩⟩
theorem Dt1 {W0:PW} {M:Nat→Prop} {s:Sl} {L:List (Mon×ByteArray)} {q0 q1 q2 r0 r1 r2:ByteArray} (hT:Ac6 W0) (h:Af3 W0 s L) (hl:L.length≤1099511627776) (hz: ∀t∈L,t.2.size≤1099511627776) (z0:q0.size≤1099511627776) (z1:q1.size≤1099511627776) (z2:q2.size≤1099511627776) (z3:r0.size≤1099511627776) (z4:r1.size≤1099511627776) (z5:r2.size≤1099511627776):
  Aa0 Tryz.prog 3 [s.v,.agg ⟨[.string q0,.string r0,.string q1,.string r1,.string q2,.string r2]⟩] W0 M fun v W'=>v = .bool true∧True:=by
 apply Be2
 have alv: ∀{W:PW},Ac6 W→Aa1 Tryz.prog W0 M 16 [] W fun v11 W12=>∃b13:Bool,v11 = .bool b13∧∀(W14:PW),Ext W12 W14→Value.bool b13 = .bool true∧True:=fun hT=>Ba2 hT fun W12 _ _=>⟨true,rfl,fun W14 _=>⟨rfl,trivial⟩⟩
 refine Dn6 h hl hz fun s3 s4 b5 W2 hE2 hp=>⟨s3,s4,b5,rfl,fun _=>alv (hT.ext hE2),fun h5=>Ba2 (hT.ext hE2) fun W11 hE11 _=>⟨true,rfl,fun e=>(by cases e),fun _=>?_⟩⟩
 obtain⟨p,op,q1',r1'⟩:=hp (by simpa using h5)
 have z:IvS 4 ((0:Rat),(0:Rat)):=⟨Sz.zero (by omega),Sz.zero (by omega)⟩
 have nilD:DmV 284 W11 z18 (Bm3 []):=Br4 (ys:=[]) (bs:=[]) trivial
 have nilR:Cf1 284 W11 [.bool false,.slice none 0 0,.slice none 0 0,.bool false,.slice none 0 0,.slice none 0 0,.bool false,.slice none 0 0,.slice none 0 0,.bool false,.slice none 0 0,.slice none 0 0,.bool false,.slice none 0 0,.slice none 0 0,.bool false,.slice none 0 0,.slice none 0 0] (Bm3 []):=
  Cf1.mk (s0:=⟨none,0,0⟩) (t0:=⟨none,0,0⟩) (s1:=⟨none,0,0⟩) (t1:=⟨none,0,0⟩) (s2:=⟨none,0,0⟩) (t2:=⟨none,0,0⟩) (s3:=⟨none,0,0⟩) (t3:=⟨none,0,0⟩) (s4:=⟨none,0,0⟩) (t4:=⟨none,0,0⟩) (s5:=⟨none,0,0⟩) (t5:=⟨none,0,0⟩) (Ah6.zero W11) (Ah6.zero W11) (Ah6.zero W11)
 refine⟨obI W11,fun L _=>match L with | [.val (.int .i64 i),_,_]=>3-i.toNat | _=>0,⟨0,[],rfl,Nat.zero_le _,Ext.refl _,rfl,nilD,nilR,fun x hx=>(by cases hx)⟩,?_⟩
 rintro s19 b20 s21 s22 b23 s24 s25 b26 s27 s28 b29 s30 s31 b32 s33 s34 b35 s36 b37 s38 s39 b40 s41 s42 b43 s44 s45 b46 s47 s48 b49 s50 s51 b52 s53 s54 i55 W56 ⟨j,l,rfl,hj,hE56,hlj,hD,hR,hl'⟩
 obtain⟨d0,d1,d2⟩:=hD.three
 obtain⟨e0,e1,e2⟩:=hR.three
 refine⟨fun hlt=>?_,fun hge=>?_⟩
 ·have hj3:j<3:=by omega
  obtain⟨x,y,hxy,bx1,bx2,bx3⟩:=Fm9 q0 r0 q1 r1 q2 r2 hj3
  have hx:x.size≤1099511627776:=by rcases hxy with⟨rfl,rfl⟩ | ⟨rfl,rfl⟩ | ⟨rfl,rfl⟩<;>assumption
  have hy:y.size≤1099511627776:=by rcases hxy with⟨rfl,rfl⟩ | ⟨rfl,rfl⟩ | ⟨rfl,rfl⟩<;>assumption
  have rng:(0:Int)≤(j:Int)∧(j:Int)<3:=⟨by omega,by omega⟩
  refine⟨rng,x,y,bx1,?_⟩
  refine Dd8 hx hy fun m m' ok v W60 hE60 ⟨k1,k2,k3,k4⟩=>?_
  obtain⟨s61,b62,s63,s64,b65,s66,rfl,u1,u2⟩:=k1
  obtain⟨b67,s68,s69,b70,s71,s72,rfl,v1,v2⟩:=k2
  refine⟨s61,b62,s63,s64,b65,s66,b67,s68,s69,b70,s71,s72,ok,rfl,fun _ W74 _=>⟨rfl,trivial⟩,fun hok=>⟨rng,x,bx2,fun _ W76 _=>⟨rfl,trivial⟩,fun hx16=>⟨rng,y,bx3,fun _ W78 _=>⟨rfl,trivial⟩,fun hy16=>?_⟩⟩⟩
  obtain⟨hsp,_,_⟩:=k3 (by simpa using hok)
  obtain⟨p1,p2,p3⟩:=Dp3 hsp
  have hv:IvS 4 v∧v.1≤v.2:=⟨⟨Ct3 p1 (by omega),Ct3 p2 (by omega)⟩,p3⟩
  have hmu:3-Int.toNat ((j:Int)+1)<3-Int.toNat (j:Int):=by omega
  have hi:I64 ((j:Int)+1):=by unfold I64;omega
  have sp:=SpV.mk (x:=v) u1 u2
  have rp:=Ah6.mk (x:=v) v1 v2
  have bs:=Ef3 l v
  rw[hlj] at bs
  have fin: ∀{c d:List Value},DmV 284 W60 c (Bm3 (l ++ [v]))→Cf1 284 W60 d (Bm3 (l ++ [v]))→obI W11 [.val (.int .i64 ((j:Int)+1)),.cells c,.cells d] W60:=fun {c d} hc hd=>⟨j+1,l ++ [v],by push_cast;rfl,by omega,hE56.trans hE60,by simp[hlj],hc,hd,fun w hw=>by
   rcases List.mem_append.1 hw with hw | hw
   ·exact hl' w hw
   ·rw[List.mem_singleton.1 hw];exact hv⟩
  have d0:=d0.ext hE60
  have d1:=d1.ext hE60
  have d2:=d2.ext hE60
  have e0:=e0.ext hE60
  have e1:=e1.ext hE60
  have e2:=e2.ext hE60
  refine⟨rng,by omega,⟨⟨trivial,fun e=>⟨rng,by omega,⟨⟨trivial,fun _=>?_⟩,fun e'=>by omega⟩,fun e'=>by omega⟩⟩,fun e=>⟨rng,by omega,⟨⟨trivial,fun e'=>by omega⟩,fun _=>?_⟩,fun e'=>by omega⟩⟩,fun e=>⟨rng,by omega,⟨⟨trivial,fun e'=>by omega⟩,fun e'=>by omega⟩,fun _=>?_⟩⟩
  ·have:j=0:=by omega
   subst this
   exact⟨hi,fin (DmV.mk (by rw[bs,if_pos rfl];exact sp) (by rw[bs,if_neg (by omega)];exact d1) (by rw[bs,if_neg (by omega)];exact d2)) (Cf1.mk (by rw[bs,if_pos rfl];exact rp) (by rw[bs,if_neg (by omega)];exact e1) (by rw[bs,if_neg (by omega)];exact e2)),hmu⟩
  ·have:j=1:=by omega
   subst this
   exact⟨hi,fin (DmV.mk (by rw[bs,if_neg (by omega)];exact d0) (by rw[bs,if_pos rfl];exact sp) (by rw[bs,if_neg (by omega)];exact d2)) (Cf1.mk (by rw[bs,if_neg (by omega)];exact e0) (by rw[bs,if_pos rfl];exact rp) (by rw[bs,if_neg (by omega)];exact e2)),hmu⟩
  ·have:j=2:=by omega
   subst this
   exact⟨hi,fin (DmV.mk (by rw[bs,if_neg (by omega)];exact d0) (by rw[bs,if_neg (by omega)];exact d1) (by rw[bs,if_pos rfl];exact sp)) (Cf1.mk (by rw[bs,if_neg (by omega)];exact e0) (by rw[bs,if_neg (by omega)];exact e1) (by rw[bs,if_pos rfl];exact rp)),hmu⟩
 ·have q1':=q1'.ext (hE11.trans hE56)
  have r1':=r1'.ext (hE11.trans hE56)
  have ho:=q1'.ok
  have hlen:=op.len
  have hb: ∀i,BdI 9 (Bm3 l i):=Ep8 (k:=4) fun x hx=>(hl' x hx).1
  have hov:=((Cv6 op.bd hb (Cl1 ho)).mono (show _≤100000 by omega)).sz
  refine Az5 q1' hD op.bd hb (Cl1 ho) (Nat.le_refl 255) (by omega) (by omega) (by omega) fun r W80 hE80 h80=>h80.out fun s81 b82 s83 s84 b85 s86 h80=>?_
  refine Cs3 (r1'.ext hE80) (hR.ext hE80) op.bd hb (Ey5 fun x hx=>(hl' x hx).2) (Cl1 ho) (Nat.le_refl 255) (by omega) (by omega) (by omega) fun r W88 hE88 h88=>h88.out fun b89 s90 s91 b92 s93 s94 h88=>?_
  exact Bt3 (h80.ext hE88) h88 hov (by omega) fun W96 hE96 _=>⟨true,rfl,fun W98 _=>⟨rfl,trivial⟩⟩
end Go.Proofs.YtjkkidjbppphpaaGreatDoor
/- An argument that is a slice of terms with texts, opened. -/
namespace Go.Proofs.YtjkkidjbppphpaaGreatDoor
open Go Go.SX Go.ChangeShapes Go.WideShapes Go.ChangeAt Go.RowKit Go.Deep
instance:Inhabited (Mon×ByteArray):=⟨(⟨0,0,0⟩,⟨#[]⟩)⟩
theorem Cd6:Tryz.prog.cellsOf 194=4:=by kernel_rfl
theorem Dv1:Tryz.prog.cellsOf 163=3:=by kernel_rfl
theorem Ew8:Tryz.prog.cellsOf 5=1:=by kernel_rfl
theorem Fg4 {n:Int} (h:(Lit.int .u8 n).wf=true):0≤n∧n≤255:=by
 simp[Lit.wf,IntKind.min,IntKind.max,IntKind.bits,IntKind.signed] at h
 omega
theorem Er8 {H:Type} {enc:TypeId×Value→H} {W:World} {fuel:Nat} {cs:List Value} {x:DataW H×List MemPlace} (h:DataW.trod enc Tryz.prog W 0 (fun _=>true) true fuel 194 cs=some x):
  ∃t:Mon×ByteArray,AT cs t∧t.2.size≤Rows.uptoBulk x.1:=by
 obtain⟨xs,k,rfl,rfl,hl,hxl,hf⟩:=DataW.trod_struct Tryz.underlying194 h
 rw[Cd6] at hl
 have g0:DataW.trod enc Tryz.prog W 0 (fun _=>true) true k 163 ((cs.drop 0).take (Tryz.prog.cellsOf 163))=xs[0]?:=hf 0 _ rfl
 have g1:DataW.trod enc Tryz.prog W 0 (fun _=>true) true k 9 ((cs.drop 3).take (Tryz.prog.cellsOf 9))=xs[1]?:=hf 1 _ rfl
 rw[Dv1] at g0
 rw[Ct5] at g1
 match cs,hl,xs,hxl with
 | [v0,v1,v2,v3],_,[y0,y1],_=>
  have g0:DataW.trod enc Tryz.prog W 0 (fun _=>true) true k 163 [v0,v1,v2]=some y0:=g0
  have g1:DataW.trod enc Tryz.prog W 0 (fun _=>true) true k 9 [v3]=some y1:=g1
  obtain⟨zs,m,rfl,rfl,_,hzl,hz⟩:=DataW.trod_array Tryz.underlying163 g0
  obtain⟨s,hs,rfl,hsz⟩:=DataW.trod_string Tryz.underlying9 g1
  have e0:=hz 0 (by omega)
  have e1:=hz 1 (by omega)
  have e2:=hz 2 (by omega)
  rw[Ew8] at e0 e1 e2
  match zs,hzl with
  | [w0,w1,w2],_=>
   have e0:DataW.trod enc Tryz.prog W 0 (fun _=>true) true m 5 [v0]=some w0:=e0
   have e1:DataW.trod enc Tryz.prog W 0 (fun _=>true) true m 5 [v1]=some w1:=e1
   have e2:DataW.trod enc Tryz.prog W 0 (fun _=>true) true m 5 [v2]=some w2:=e2
   obtain⟨n0,h0,_,k0⟩:=DataW.trod_int Tryz.underlying5 e0
   obtain⟨n1,h1,_,k1⟩:=DataW.trod_int Tryz.underlying5 e1
   obtain⟨n2,h2,_,k2⟩:=DataW.trod_int Tryz.underlying5 e2
   have hs: [v3] = [Value.string s]:=hs
   have h0: [v0] = [Value.int .u8 n0]:=h0
   have h1: [v1] = [Value.int .u8 n1]:=h1
   have h2: [v2] = [Value.int .u8 n2]:=h2
   simp only[List.cons.injEq,and_true] at hs h0 h1 h2
   subst hs h0 h1 h2
   refine⟨(⟨n0,n1,n2⟩,s),⟨⟨Fg4 k0,Fg4 k1,Fg4 k2⟩,rfl⟩,?_⟩
   have e:s.data.toList.length=s.size:=by rw[Array.length_toList];rfl
   simp only[List.map_cons,List.map_nil,Rows.uptoBulk,Rows.uptoBulkAll]
   omega
theorem Et3 {n:Nat} {V:Nat→List Value} {y:Nat→Mon×ByteArray} (h: ∀i,i<n→AT (V i) (y i)):An5 AT ((List.range n).map V) ((List.range n).map y):=by
 induction n with
 | zero=>trivial
 | succ n ih=>
  rw[List.range_succ,List.map_append,List.map_append]
  exact(ih fun i hi=>h i (by omega)).append ⟨h n (by omega),trivial⟩
theorem Dt5 {H:Type} {enc:TypeId×Value→H} {W:World} {fuel:Nat} {v:Value} {d:DataW H} {p:List MemPlace} (h:DataW.trod enc Tryz.prog W 0 (fun _=>true) true fuel 22 [v]=some (d,p)):
  ∃(s:Sl) (L:List (Mon×ByteArray)),v=s.v∧Af3 ⟨W,fun _=>False⟩ s L∧L.length≤Rows.uptoBulk d∧∀t∈L,t.2.size≤Rows.uptoBulk d:=by
 rcases open_slice Tryz.underlying22 h with⟨hcs,hx⟩ | ⟨a,len,cap,m,n,D,Pl,hcs,_,hl,hm,hmm,hx,hcell⟩
 ·have hv:v = .slice none 0 0:=by simpa using hcs
  subst hv
  exact⟨⟨none,0,0⟩,[],rfl,⟨[],⟨0,rfl,Nat.le_refl _,Nat.zero_le _,fun x h=>by simp at h,.inl rfl⟩,trivial⟩,Nat.zero_le _,fun l h=>by simp at h⟩
 ·have hv:v = .slice (some a) len cap:=by simpa using hcs
  subst hv
  simp only[if_true] at hmm
  subst hmm
  simp only[Prod.mk.injEq] at hx
  obtain⟨rfl,_⟩:=hx
  rw[Cd6] at hcell
  obtain⟨q,hq⟩: ∃q:Nat→List Value×(Mon×ByteArray),∀i,i<m→W.cells? 0 (a.add (i*4)) 4=some (q i).1∧AT (q i).1 (q i).2∧(q i).2.2.size≤Rows.uptoBulk (D i):=choose_lt (α:=List Value×(Mon×ByteArray)) (p:=fun i q=>W.cells? 0 (a.add (i*4)) 4=some q.1∧AT q.1 q.2∧q.2.2.size≤Rows.uptoBulk (D i)) fun i hi=>by
   obtain⟨cs',h1,h2⟩:=hcell i hi
   obtain⟨t,h3,h4⟩:=Er8 h2
   exact⟨(cs',t),h1,h3,h4⟩
  have hr:=Bz7 (W:=W) (a:=a) (n:=len) (c:=m) (sz:=4) (V:=fun i=>(q i).1) (fun j hj i v hv=>by
   obtain⟨_,hlen,hc⟩:=World.cells?_some (hq j (by omega)).1
   have hi:i<4:=by have:=(List.getElem?_eq_some_iff.1 hv).1;omega
   have:=hc i hi
   rw[add_add] at this
   rw[this];exact hv) (fun j hj=>(World.cells?_some (hq j (by omega)).1).2.1) (by omega) hl hm (fun j hj u hu=>by
   rw[(hq j (by omega)).2.1.2] at hu
   simp only[List.mem_cons,List.not_mem_nil,or_false] at hu
   rcases hu with rfl | rfl | rfl | rfl<;>rfl)
  have hbulk: ∀i,i<len→Rows.uptoBulk (D i)≤Rows.uptoBulkAll ((List.range len).map D):=fun i hi=>Eo6 (List.mem_map.2 ⟨i,List.mem_range.2 hi,rfl⟩)
  have hlen:=Dj1 ((List.range len).map D)
  simp only[List.length_map,List.length_range] at hlen
  refine⟨⟨some a,len,m⟩,(List.range len).map fun i=>(q i).2,rfl,⟨_,hr,Et3 fun i hi=>(hq i (by omega)).2.1⟩,?_,fun t ht=>?_⟩
  ·simp only[List.length_map,List.length_range,Rows.uptoBulk]
   omega
  ·obtain⟨j,hj,rfl⟩:=List.mem_map.1 ht
   have hj':=List.mem_range.1 hj
   have h1:=hbulk j hj'
   have h2:=(hq j (by omega)).2.2
   simp only[Rows.uptoBulk]
   omega
end Go.Proofs.YtjkkidjbppphpaaGreatDoor
/- An argument of three pairs of texts, opened. -/
namespace Go.Proofs.YtjkkidjbppphpaaGreatDoor
open Go Go.SX Go.ChangeShapes Go.WideShapes Go.ChangeAt Go.RowKit Go.Deep
theorem Cc2 {r:Reach} {w:World} {base:Nat} {v:Value} (h:Value.okWide Tryz.prog w r base 25 v): ∃xs:Array Value,v = .agg xs∧xs.size=6:=by
 simp only[Value.okWide,Tryz.underlying25] at h
 obtain⟨cs,h1,h2,_⟩:=h
 exact⟨cs,h1,by rw[h2];kernel_rfl⟩
theorem Bm1 {H:Type} {enc:TypeId×Value→H} {W:World} {fuel:Nat} {l:List Value} {d:DataW H} {p:List MemPlace} (h:DataW.trod enc Tryz.prog W 0 (fun _=>true) true fuel 25 l=some (d,p)) (hl:l.length=6):
  ∃a b c a' b' c':ByteArray,l = [.string a,.string a',.string b,.string b',.string c,.string c']∧(a.size≤Rows.uptoBulk d∧a'.size≤Rows.uptoBulk d)∧(b.size≤Rows.uptoBulk d∧b'.size≤Rows.uptoBulk d)∧c.size≤Rows.uptoBulk d∧c'.size≤Rows.uptoBulk d:=by
 obtain⟨zs,m,rfl,hx,_,hzl,hz⟩:=DataW.trod_array Tryz.underlying25 h
 have e0:=hz 0 (by omega)
 have e1:=hz 1 (by omega)
 have e2:=hz 2 (by omega)
 rw[Cf7] at e0 e1 e2
 match l,hl,zs,hzl with
 | [v0,v1,v2,v3,v4,v5],_,[w0,w1,w2],_=>
  have e0:DataW.trod enc Tryz.prog W 0 (fun _=>true) true m 24 [v0,v1]=some w0:=e0
  have e1:DataW.trod enc Tryz.prog W 0 (fun _=>true) true m 24 [v2,v3]=some w1:=e1
  have e2:DataW.trod enc Tryz.prog W 0 (fun _=>true) true m 24 [v4,v5]=some w2:=e2
  obtain⟨a,a',h0,k0,k1⟩:=open_pair e0
  obtain⟨b,b',h1,k2,k3⟩:=open_pair e1
  obtain⟨c,c',h2,k4,k5⟩:=open_pair e2
  simp only[List.cons.injEq,and_true] at h0 h1 h2
  obtain⟨rfl,rfl⟩:=h0
  obtain⟨rfl,rfl⟩:=h1
  obtain⟨rfl,rfl⟩:=h2
  simp only[Prod.mk.injEq] at hx
  obtain⟨rfl,_⟩:=hx
  refine⟨a,b,c,a',b',c',rfl,?_⟩
  simp only[List.map_cons,List.map_nil,Rows.uptoBulk,Rows.uptoBulkAll]
  omega
end Go.Proofs.YtjkkidjbppphpaaGreatDoor
/- cincturelaw9.BoundOver answers true for every input whose bulk is at most 1048576 (the second form), and its arguments read behind the call as they did ahead of it. -/
namespace Go.Proofs.YtjkkidjbppphpaaGreatDoor
open Go Go.SX Go.ChangeShapes Go.WideShapes Go.ChangeAt Go.RowKit Go.Deep
theorem Fs9:Tryz.prog.globalNamed "math/bits.deBruijn32tab" = some 1:=by kernel_rfl
theorem Ew9:(Tryz.prog.globals[1]?).map (·.type)=some 347:=by kernel_rfl
theorem Ev1:Tryz.prog.cellsOf 347=32:=by kernel_rfl
theorem Fh1:Tryz.prog.cellsOf 5=1:=by kernel_rfl
theorem Fr5 {W:World} (h:laidMetH Tryz.prog Rows.boundOverUptoRow.laid W):Ac6 ⟨W,fun _=>False⟩:=by
 have ht:Go.Lib.TabIs Tryz.prog W "math/bits.deBruijn32tab" .u8 (Go.Lib.deBruijn32tab.map fun n:Nat=>(n:Int)):=Go.Lib.tabIs_of_head (rest:=[]) Fs9 Ew9 Tryz.underlying347 Tryz.underlying5 Fh1 Ev1 h
 have hc: ∀j,j<32→W.cell? ⟨1,j,none⟩=some (.int .u8 ((Go.Lib.deBruijn32tab.getD j 0:Nat):Int)):=fun j hj=>by
  rw[ht.cell Fs9 j (by simpa[Go.Lib.deBruijn32tab] using hj)]
  have hall: ∀j,j<32→(Go.Lib.deBruijn32tab.map fun n:Nat=>(n:Int)).getD j 0=((Go.Lib.deBruijn32tab.getD j 0:Nat):Int):=by decide
  rw[hall j hj]
 refine⟨hc,?_,fun h=>h⟩
 have:=hc 0 (by omega)
 unfold World.cell? at this
 split at this
 ·rename_i e
  exact(Array.getElem?_eq_some_iff.1 e).1
 ·cases this
theorem Fa3 (H:Type) (enc:TypeId×Value→H) (W:World) (base:Nat) (args:Array Value) (ds gs:List (DataW H)) (before:List MemPlace)
  (hval: ∀(j:Nat) t v,Tryz.f3.params[j]?=some t→args[j]?=some v→Value.okWide Tryz.prog W .any base t v)
  (hW:DataW.Whole enc Tryz.prog Tryz.f3.params.toList Rows.boundOverSpec.vars false W args.toList ds gs before) (hk:Rows.uptoSmall H (ds ++ gs)=true) (hL:laidMetH Tryz.prog Rows.boundOverUptoRow.laid W):
  Calls Tryz.prog 3 args W fun e W'=>∃v,e = .returned v∧Rows.boundOverSpec.post enc Tryz.prog Tryz.f3 false true false false W args v W':=by
 have hW':=hW
 obtain⟨p,q,hA0,hV,rfl,hfz,hnd⟩:=hW
 have hA:DataW.TrodAll enc Tryz.prog W 0 (fun _=>true) true Tryz.f3.params.toList args.toList ds p:=hA0
 rw[Tryz.params3] at hA hval
 obtain⟨v0,vs0,d0,ds0,p0,q0,hargs,rfl,rfl,h0,r0⟩:=trodAll_cons hA
 obtain⟨v1,vs1,d1,ds1,p1,q1,rfl,rfl,rfl,h1,r1⟩:=trodAll_cons r0
 obtain⟨rfl,rfl,rfl⟩:=trodAll_nil r1
 obtain rfl:args = #[v0,v1]:=by cases args;simp_all
 obtain⟨rfl,rfl⟩:=trodVars_none hV
 obtain⟨a0,n0,c0,rfl⟩:=okWide_slice Tryz.underlying22 (hval 0 22 v0 rfl rfl)
 obtain⟨⟨l1⟩,rfl,hx1⟩:=Cc2 (hval 1 25 v1 rfl rfl)
 clear hA0
 simp only[List.append_nil] at hW' hk
 have hlt: ∀x∈p0 ++ p1,x.block<W.heap.size:=fun x hx=>by simpa using hW'.lt x (by simpa using hx)
 have hbulk:Rows.uptoBulkAll [d0,d1]≤1048576:=of_decide_eq_true hk
 simp only[Rows.uptoBulkAll] at hbulk
 have h0k:=h0
 obtain⟨fuel0,hf0⟩:=h0
 have hf0':DataW.trod enc Tryz.prog W 0 (fun _=>true) true fuel0 22 [.slice a0 n0 c0]=some (d0,p0):=by simpa[Value.cells] using hf0
 obtain⟨s0,L0,hs0,hL0,hb0,hc0⟩:=Dt5 hf0'
 have h1k:=h1
 obtain⟨fuel1,hf1⟩:=h1
 have hf1':DataW.trod enc Tryz.prog W 0 (fun _=>true) true fuel1 25 l1=some (d1,p1):=by simpa[Value.cells] using hf1
 obtain⟨xa1,xb1,xc1,xd1,xe1,xf1,rfl,hxa1,hxb1,hxc1⟩:=Bm1 hf1' hx1
 have hc:=Dt1 (M:=fun _=>False) (q0:=xa1) (q1:=xb1) (q2:=xc1) (r0:=xd1) (r1:=xe1) (r2:=xf1) (Fr5 hL) hL0 (by omega) (fun t ht=>by have:=hc0 t ht;omega) (by omega) (by omega) (by omega) (by omega) (by omega) (by omega)
 have hcall:=hc.2 (fun b h=>h.elim)
 rw[hs0]
 refine hcall.mono fun e W' ⟨v,he,hkeep,hv,_⟩=>⟨v,he,?_⟩
 subst hv
 have hbel:=hkeep.below
 refine⟨[d0,d1],[],_,[],p0 ++ p1,[],(by rw[←hs0];simpa using hW'),trodAll_mk1 (shut_bool Tryz.underlying4 _),(by rw[←hs0];exact trodAll_mk2 (Below.trod laidOut (by kernel_rfl) (of_decide_eq_true (by kernel_rfl)) h0k hbel fun x hx=>hlt x (by simp[hx])) (Below.trod laidOut (by kernel_rfl) (of_decide_eq_true (by kernel_rfl)) h1k hbel fun x hx=>hlt x (by simp[hx]))),rfl,hbel.frame _,fun h=>by cases h⟩
noncomputable def Bu8 (os:Os):World:=
 {World.holding Tryz.prog os ⟨#[],#[],[]⟩ with heap:=(World.holding Tryz.prog os ⟨#[],#[],[]⟩).heap.modify 1 fun
   | .cells _ t frozen=>.cells #[.int .u8 0,.int .u8 1,.int .u8 28,.int .u8 2,.int .u8 29,.int .u8 14,.int .u8 24,.int .u8 3,.int .u8 30,.int .u8 22,.int .u8 20,.int .u8 15,.int .u8 25,.int .u8 17,.int .u8 4,.int .u8 8,.int .u8 31,.int .u8 27,.int .u8 13,.int .u8 23,.int .u8 21,.int .u8 19,.int .u8 16,.int .u8 7,.int .u8 26,.int .u8 12,.int .u8 18,.int .u8 6,.int .u8 11,.int .u8 5,.int .u8 10,.int .u8 9] t frozen
   | o=>o }
theorem Fa2 (os:Os):laidMet Tryz.prog Rows.boundOverUptoRow.laid ((Bu8 os).forCall (fun _ _=>0) ⟨#[],#[.slice none 0 0,.agg ⟨[.string ⟨#[]⟩,.string ⟨#[]⟩,.string ⟨#[]⟩,.string ⟨#[]⟩,.string ⟨#[]⟩,.string ⟨#[]⟩]⟩],[]⟩).memory:=
 laidMet_of_run' 8 (by kernel_rfl) (by kernel_rfl)
theorem reads (os:Os) {H:Type} (enc:TypeId×Value→H): ∃places,DataW.whole enc Tryz.prog ((Bu8 os).forCall (fun _ _=>0) ⟨#[],#[.slice none 0 0,.agg ⟨[.string ⟨#[]⟩,.string ⟨#[]⟩,.string ⟨#[]⟩,.string ⟨#[]⟩,.string ⟨#[]⟩,.string ⟨#[]⟩]⟩],[]⟩).memory Tryz.f3.params.toList Rows.boundOverSpec.vars false (#[.slice none 0 0,.agg ⟨[.string ⟨#[]⟩,.string ⟨#[]⟩,.string ⟨#[]⟩,.string ⟨#[]⟩,.string ⟨#[]⟩,.string ⟨#[]⟩]⟩]:Array Value).toList 8=some ([.nil,.agg [.agg [.lit (.string []),.lit (.string [])],.agg [.lit (.string []),.lit (.string [])],.agg [.lit (.string []),.lit (.string [])]]],[],places):=
 ⟨[],by kernel_rfl⟩
theorem lifted (os:Os) (started:os.Started) (H:Type) (enc:TypeId×Value→H) (F:Stop.Interp):
  ReturnsInHanded {} Tryz.checked os 3 .any ((Rows.OpenSpec.upto Rows.boundOverSpec).preRow enc Tryz.prog Tryz.f3 Rows.boundOverUptoRow.domain false Rows.boundOverUptoRow.laid) (((Rows.OpenSpec.upto Rows.boundOverSpec).at F).post enc Tryz.prog Tryz.f3 false true false false):=by
 obtain⟨places,hx⟩:=reads os enc
 refine returnsInHanded_of_row (C:=Tryz.checked) (s:=Rows.OpenSpec.upto Rows.boundOverSpec) Cp9 started (by kernel_rfl) Tryz.func3
  (witness_row_at (enc:=enc) (C:=Tryz.checked) false (Bu8 os) #[.slice none 0 0,.agg ⟨[.string ⟨#[]⟩,.string ⟨#[]⟩,.string ⟨#[]⟩,.string ⟨#[]⟩,.string ⟨#[]⟩,.string ⟨#[]⟩]⟩] rfl (by kernel_rfl) (by kernel_rfl) (by kernel_rfl)
   (OpenSpec.preRow_of_cond 8 hx (by kernel_rfl) (fun k hk=>by cases hk;kernel_rfl) (by kernel_rfl) (Fa2 os))) ?_
 intro W base args ds gs before hval hW _ hcond _ hL _ _
 exact Fa3 H enc W base args ds gs before hval hW (hcond _ rfl) hL
theorem Fj9:Fc7 Tryz.checked.prog 3 Tryz.f3 (Rows.OpenSpec.upto Rows.boundOverSpec).bare Rows.boundOverUptoRow=true:=by kernel_rfl
theorem Fl9:Fd9 Tryz.checked.prog 3 Tryz.f3 (Rows.OpenSpec.upto Rows.boundOverSpec).bare Rows.boundOverUptoRow=true:=by kernel_rfl
theorem Fl2:Fe1 Tryz.checked.prog 3 Tryz.f3 (Rows.OpenSpec.upto Rows.boundOverSpec).bare Rows.boundOverUptoRow=true:=by kernel_rfl
theorem Fn7:Fd2 Tryz.checked.prog 3 Tryz.f3 (Rows.OpenSpec.upto Rows.boundOverSpec).bare Rows.boundOverUptoRow=true:=by kernel_rfl
theorem Fj6:Fd4 Tryz.checked.prog 3 Tryz.f3 (Rows.OpenSpec.upto Rows.boundOverSpec).bare Rows.boundOverUptoRow=true:=by kernel_rfl
theorem Et8:Rows.BoundOverUptoSaid:=
 OpenClaim.holds_of_cond 3 Tryz.f3 rfl rfl rfl rfl rfl rfl rfl ⟨rfl,rfl,rfl,rfl,rfl⟩ rfl rfl rfl rfl rfl (by kernel_rfl) Tryz.func3 (Eo7 Fj9 Fl9 Fl2 Fn7 Fj6)
  (of_decide_eq_true (by kernel_rfl)) (by unfold Func.isWrapper;first | (rw[if_pos (by decide +kernel)];kernel_rfl) | (rw[if_neg (by decide +kernel)];exact⟨rfl,rfl⟩))
  (fun os started H enc _ F=>by rw[OpenClaim.pre_eq_preRow];exact lifted os started H enc F)
theorem plain (f:FuncId) (fn:Func) (hf:Tryz.pinned.checked.prog.funcNamed "cincture/cincturelaw9.BoundOver" = some f) (hfn:Tryz.pinned.checked.prog.funcs[f]?=some fn):
  false=Tryz.pinned.checked.prog.looks []∧∀(j:Nat) t,fn.params[j]?=some t→Tryz.pinned.checked.prog.wantsStandIn t=false:=by
 obtain rfl:f=3:=Option.some.inj ((show Tryz.prog.funcNamed "cincture/cincturelaw9.BoundOver" = some 3 by kernel_rfl).symm.trans hf) |>.symm
 obtain rfl:fn=Tryz.f3:=(Option.some.inj (Tryz.func3.symm.trans hfn)).symm
 refine⟨by kernel_rfl,fun j t ht=>?_⟩
 rw[Tryz.params3] at ht
 have hm:t∈[22,25]:=by simpa using Array.mem_of_getElem? ht
 have hall:([22,25].all fun u=>!Tryz.prog.wantsStandIn u)=true:=by kernel_rfl
 exact(show Tryz.prog.wantsStandIn t=false by simpa using List.all_eq_true.1 hall t hm)
theorem boundOver_card:Rows.BoundOverUptoCardSaid:=
 Claim7.holds_tied_plain_at .later [] _ _ _ _ Et8 (fun _ h=>by cases h) (by kernel_rfl) (fun _ h=>by cases h) boundOverUpto_row_tie rfl ⟨rfl,rfl⟩ (by kernel_rfl) rfl plain (by kernel_rfl)
#print axioms boundOver_card
end Go.Proofs.YtjkkidjbppphpaaGreatDoor
