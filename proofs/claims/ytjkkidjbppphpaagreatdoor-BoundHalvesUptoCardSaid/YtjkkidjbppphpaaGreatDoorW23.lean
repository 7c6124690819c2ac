/- cincturelaw9.alive, Inside. -/
import Derived.Test.YtjkkidjbppphpaaGreatDoorW20
import Derived.Test.YtjkkidjbppphpaaGreatDoorW22
import Derived.Test.YtjkkidjbppphpaaGreatDoorW13
import Derived.Test.YtjkkidjbppphpaaGreatDoorW16
import Derived.Test.YtjkkidjbppphpaaGreatDoorR19
import Derived.Test.YtjkkidjbppphpaaGreatDoorW19
import Derived.Test.YtjkkidjbppphpaaGreatDoorW21
set_option linter.unusedVariables false
set_option linter.unusedSimpArgs false
set_option maxRecDepth 100000
namespace Go.Proofs.YtjkkidjbppphpaaGreatDoor
open Go Go.SX
def b9a:ByteArray:=⟨⟨[48]⟩⟩
def b9b:ByteArray:=⟨⟨[49]⟩⟩
theorem Er6:Ab7 b9a=some 0:=by
 have h1:Ak5 b9a=none:=by decide
 have h2:Ac3 b9a=some 0:=by decide
 unfold Ab7
 rw[h1,h2];rfl
theorem Ed8:Ab7 b9b=some 1:=by
 have h1:Ak5 b9b=none:=by decide
 have h2:Ac3 b9b=some 1:=by decide
 unfold Ab7
 rw[h1,h2];rfl
theorem Fn4:spP b9a b9b=some (0,1):=by
 unfold spP
 rw[Er6,Ed8]
 rfl
def pr9:List (ByteArray×ByteArray):=[(b9a,b9b)]
theorem Ev3:Br9 pr9:=⟨by decide,by decide,fun t ht=>by
 rw[List.mem_singleton.1 ht]
 exact⟨(0,1),Fn4,by decide +kernel,by decide +kernel,by decide +kernel⟩⟩
def al9:List Tm:=[(⟨1,0,0⟩,-1),(⟨2,0,0⟩,1)]
theorem Fj2:Ct4 (Dc6 0) (Dc6 0):=by decide +kernel
theorem Fj1:Ag2 ([(⟨2,0,0⟩,1)] ++ pmap (Dc6 0) (-1))=al9:=by decide +kernel
theorem Da2:An3 al9 [(0,1)]:=by decide +kernel
theorem Ex6:Aq8 (Bm3 [(0,1)]) al9=(((-1:Int):Rat),((1:Int):Rat)):=by decide +kernel
theorem Fm7:Bd 7 al9:=by
 refine(Bd.Co7 (k:=1) ?_).mono (by decide)
 intro t ht
 simp only[al9,List.mem_cons,List.not_mem_nil,or_false] at ht
 rcases ht with rfl | rfl
 ·exact Fn8
 ·exact Fl0
theorem Fh8:Fm8 (Dc6 0) (Dc6 0) = [(⟨2,0,0⟩,1)]:=by decide +kernel
theorem Fg2:Bd 7 [(⟨2,0,0⟩,1)]:=(Cq4 (m:=⟨2,0,0⟩) Fl0).mono (by decide)
theorem Fj8:BxN 7 1 al9 [(0,1)] where
 bd:=Fm7
 sd x hx:=by rw[List.mem_singleton.1 hx];exact⟨Sz.zero (Nat.le_refl 1),Fl0⟩
 ok t ht:=by
  simp only[al9,List.mem_cons,List.not_mem_nil,or_false] at ht
  rcases ht with rfl | rfl<;>decide
 len:=by decide
 k1:=by decide
 m1:=by decide
 bl:=by decide
theorem Db9 {W0:PW} {M:Nat→Prop} (hT:Ac6 W0):
  Aa0 Tryz.prog 16 [] W0 M fun v W'=>v = .bool true∧True:=by
 apply Ca5
 intro s1 W2 hE2 hO1 _
 refine Cg0 (Lt:=pr9) (hT.ext hE2) ⟨_,hO1.row⟩ (by decide) (by decide) fun s5 i6 bs W4 hE4 ⟨q1,q2,_,q4⟩=>⟨s5,i6,rfl,?_⟩
 have hi:=q4 Ev3
 obtain⟨k1,k2,k3⟩:=q2 hi
 have hbs:bs = [(0,1)]:=by
  refine Eu1 k2 rfl k3 fun i h1 h2=>?_
  have:i=0:=by have:i<1:=h1;omega
  subst this
  exact Fn4
 subst hbs
 refine Cr4 (i:=0) fun s9 W8 hE8 h8=>⟨s9,rfl,?_⟩
 refine Ct0 h8 h8 En2 En2 (by omega) (by decide) (by decide) (by decide) fun s12 W11 hE11 h11=>⟨s12,_,rfl,?_⟩
 rw[Fh8] at h11
 refine Db2 h11 (h8.ext hE11) Fg2 En2 (by omega) (by decide) (by decide) fun s16 W15 hE15 h15=>⟨s16,rfl,?_⟩
 rw[Fj1] at h15
 refine Bi4 h15 (q1.ext (hE8.trans (hE11.trans hE15))) Fj8 fun l W18 hE18 h18=>?_
 rw[if_pos Da2,Ex6] at h18
 obtain⟨s19,b20,s21,s22,b23,s24,rfl,u1,u2⟩:=h18
 refine⟨s19,b20,s21,s22,b23,s24,_,rfl,fun _=>⟨fun _=>⟨fun _=>?_,fun e=>absurd e (by rw[decide_eq_true Da2];decide)⟩,fun e=>absurd e (by rw[decide_eq_true Fj2];decide)⟩,fun e=>absurd hi e⟩
 refine Ak1 (z:=-1) (by unfold I64;omega) fun b28 s29 s30 W27 hE27 h27=>⟨b28,s29,s30,rfl,?_⟩
 refine Ak1 (z:=1) (by unfold I64;omega) fun b33 s34 s35 W32 hE32 h32=>⟨b33,s34,s35,rfl,?_⟩
 exact Bt3 (x:=(((-1:Int):Rat),((1:Int):Rat))) (k:=1) (SpV.mk (u1.ext (hE27.trans hE32)) (u2.ext (hE27.trans hE32))) (Ah6.mk (h27.ext hE32) h32) ⟨Fn8,Fl0⟩ (by omega) fun W37 hE37 _=>⟨true,rfl,fun W39 _=>⟨rfl,trivial⟩⟩
theorem Ba2 {W0 W:PW} {M:Nat→Prop} {K:Value→PW→Prop} (hT:Ac6 W) (kont: ∀(W':PW),Ext W W'→(True)→K (.bool true) W'):
  Aa1 Tryz.prog W0 M 16 [] W K:=
 Aa2 (fun W' hE=>Db9 (M:=fun _=>False) (hT.ext hE)) (fun W' v W'' hE hE' hP=>by
  obtain⟨rfl,h⟩:=hP
  exact kont W'' (hE.trans hE') h)
end Go.Proofs.YtjkkidjbppphpaaGreatDoor
/- cincturelaw9.BoundHas. -/
namespace Go.Proofs.YtjkkidjbppphpaaGreatDoor
open Go Go.SX
theorem Ge7 {L:List (Mon×ByteArray)} {e:Int} {p:List Tm} {bs:List Iv} (h:Ff1 L e p) (ho:POk p) (hk: ∀x∈bs,IvS 4 x) (hl:bs.length≤5):BxB 56029 4 p bs where
 n:=⟨h.bd,hk,ho,by have:=h.len;omega,by omega,by omega,by omega⟩
 len:=by have:=h.len;omega
 k1:=by omega
 bl:=by omega
end Go.Proofs.YtjkkidjbppphpaaGreatDoor
/- box.Split. -/
namespace Go.Proofs.YtjkkidjbppphpaaGreatDoor
open Go Go.SX
theorem Gc2 {tu t:TypeId} {g:Nat} {W W':PW} {l:List Value} {x:Iv} (h:SpV tu W l x) (hw:Wr t g W W') (ht:tu≠t):SpV tu W' l x:=let⟨s,b,u,s',b',u',e,h1,h2⟩:=h;⟨s,b,u,s',b',u',e,hw.rat h1 ht,hw.rat h2 ht⟩
theorem Gc8 {W0:PW} {M:Nat→Prop} {s:Sl} {xs:List (List Value)} {ty:TypeId} (h:Row W0 ty 6 s xs) (hl:xs.length≤1048576):
  Aa0 Tryz.prog 99 [s.v] W0 M fun v W'=>∃(s':Sl),v=Sl.v s'∧Aq4 W0 s'∧Go.SX.Own W' 42 6 s' xs:=by
 apply Fw9
 refine⟨fun hn W1 hE=>?_,fun hn=>⟨xs,⟨_,h⟩,by omega,fun s3 W4 hE4 hO hf W5 hE5=>⟨s3,rfl,fun g hg=>(hf g hg).1,by rw[List.nil_append] at hO;exact hO.ext hE5⟩⟩⟩
 have:xs = []:=Classical.byContradiction fun hne=>by
  have:=h.some hne
  rw[hn] at this
  cases this
 subst this
 exact⟨⟨none,0,0⟩,rfl,fun g hg=>by simp[Sl.v,Value.ownBlock] at hg,⟨by simp,rfl,.inl ⟨rfl,rfl⟩⟩,fun g hg=>by simp[Sl.v,Value.ownBlock] at hg⟩
theorem Fx8 {W0 W:PW} {M:Nat→Prop} {s:Sl} {xs:List (List Value)} {ty:TypeId} {K:Value→PW→Prop} (h:Row W ty 6 s xs) (hl:xs.length≤1048576) (kont: ∀(s':Sl) (W':PW),Ext W W'→(Aq4 W s'∧Go.SX.Own W' 42 6 s' xs)→K (Sl.v s') W'):
  Aa1 Tryz.prog W0 M 99 [s.v] W K:=
 Aa2 (fun W' hE=>Gc8 (M:=fun _=>False) (h.ext hE) hl) (fun W' v W'' hE hE' hP=>by
  obtain⟨s',rfl,hf,h⟩:=hP
  exact kont s' W'' (hE.trans hE') ⟨hf.back hE,h⟩)
def Fx5 (bs:List Iv) (i:Int):Prop:=Cn7 bs∧0≤i∧i<(bs.length:Int)
instance (bs:List Iv) (i:Int):Decidable (Fx5 bs i):=by unfold Fx5;infer_instance
def loB (bs:List Iv) (i:Nat):List Iv:=bs.set i ((Bm3 bs i).1,Ga6 (Bm3 bs i))
def hiB (bs:List Iv) (i:Nat):List Iv:=bs.set i (Ga6 (Bm3 bs i),(Bm3 bs i).2)
theorem Gb0 {W0:PW} {M:Nat→Prop} {sb:Sl} {bs:List Iv} {i:Int} {k:Nat} (hb:Bc3 284 W0 sb bs) (hk: ∀x∈bs,IvS k x) (hk2:k≤1048576) (hl:bs.length≤1048576):
  Aa0 Tryz.prog 31 [sb.v,.int .i64 i] W0 M fun v W'=>∃(s1:Sl),∃(s2:Sl),v = .tuple ⟨[Sl.v s1,Sl.v s2,.bool (decide (Fx5 bs i))]⟩∧Bc3 284 W' s1 (if Fx5 bs i then loB bs i.toNat else[])∧Bc3 284 W' s2 (if Fx5 bs i then hiB bs i.toNat else[]):=by
 apply Fz2
 have hn:=hb.n
 have bad:¬Fx5 bs i→∀W':PW,∃(s1 s2:Sl),(Value.tuple ⟨[.slice none 0 0,.slice none 0 0,.bool false]⟩) = .tuple ⟨[Sl.v s1,Sl.v s2,.bool (decide (Fx5 bs i))]⟩∧Bc3 284 W' s1 (if Fx5 bs i then loB bs i.toNat else[])∧Bc3 284 W' s2 (if Fx5 bs i then hiB bs i.toNat else[]):=fun hno W'=>by
  rw[if_neg hno,if_neg hno,decide_eq_false hno]
  exact⟨⟨none,0,0⟩,⟨none,0,0⟩,rfl,Dr1.nil W',Dr1.nil W'⟩
 refine Cm2 hb hk hk2 hl fun W2 hE2 _=>⟨_,rfl,fun hno W4 _=>bad (fun e=>?_) W4,fun hyes=>⟨fun h0 W5 _=>bad (fun e=>?_) W5,fun h0=>⟨fun hge W6 _=>bad (fun e=>?_) W6,fun hlt=>?_⟩⟩⟩
 ·have hno:¬Cn7 bs:=by simpa using hno
  exact hno e.1
 ·have:=e.2.1;omega
 ·have:=e.2.2;omega
 obtain⟨j,rfl⟩:=Int.eq_ofNat_of_zero_le (show 0≤i by omega)
 have hjl:j<bs.length:=by omega
 have hyes:Cn7 bs:=by simpa using hyes
 have hok:Fx5 bs (j:Int):=⟨hyes,by omega,by omega⟩
 rw[if_pos hok,if_pos hok,decide_eq_true hok,Int.toNat_natCast]
 obtain⟨ys,⟨ty,hr⟩,ha⟩:=id hb
 have hyl:=ha.len
 refine Fx8 (hr.ext hE2) (by omega) fun s9 W8 hE8 ⟨hf9,hO9⟩=>⟨s9,rfl,Fx8 (hr.ext (hE2.trans hE8)) (by omega) fun s12 W11 hE11 ⟨hf12,hO12⟩=>⟨s12,rfl,?_⟩⟩
 have E11:=hE2.trans (hE8.trans hE11)
 obtain⟨x,hx,s13,b14,s15,s16,b17,s18,rfl,q1,q2⟩:=ha.get (List.getElem?_eq_getElem hjl)
 have hel:=(hr.ext E11).part hx 0 (l:=[s13.v,.bool b14,s15.v,s16.v,.bool b17,s18.v]) rfl
 refine⟨(hb.ext E11).inB (by omega) (by omega),s13,b14,s15,s16,b17,s18,hel,?_⟩
 refine Ga1 (SpV.mk (q1.ext E11) (q2.ext E11)) (hk _ (List.getElem_mem hjl)) (by omega) fun s21 b22 s23 W20 hE20 hmid=>⟨s21,b22,s23,rfl,?_⟩
 have O9:=hO9.ext (hE11.trans hE20)
 have O12:=hO12.ext hE20
 have one: ∀u∈([s21.v,.bool b22,s23.v]:List Value),u.oneCell'=true:=fun u hu=>by
  simp only[List.mem_cons,List.not_mem_nil,or_false] at hu
  rcases hu with rfl | rfl | rfl<;>rfl
 have apart: ∀g g',s9.v.ownBlock=some g→s12.v.ownBlock=some g'→g'≠g:=fun g g' hg hg' e=>by
  have h1:=hO9.1.lt g hg
  have h2:=hf12 g' hg'
  omega
 refine⟨O9.row.inB (by omega) (by omega),Dm0 (j:=j) O9 hx (by simp) one (fun g hg=>.inr (Nat.le_trans hE2.size (hf9 g hg))) fun W24 g hg hw hO9'=>⟨?_,?_⟩⟩
 ·exact O12.row.inB (by omega) (by omega)
 ·have O12':=O12.other hw.Fi9 fun g' hg' e=>apart g g' hg hg' e
  refine Dm0 (j:=j) O12' hx (by simp) one (fun g hg=>.inr (Nat.le_trans (hE2.trans hE8).size (hf12 g hg))) fun W25 g' hg' hw' hO12' W26 hE26=>⟨s9,s12,rfl,?_,?_⟩
  ·have O9':=(hO9'.other hw'.Fi9 fun g'' hg'' e=>apart g'' g' hg'' hg' (Eq.symm e)).ext hE26
   refine⟨_,⟨_,O9'.row⟩,?_⟩
   have hall:=(((ha.mono fun _ _ h=>(h.ext (E11.trans hE20))).mono fun _ _ h=>Gc2 h hw (by decide)).mono fun _ _ h=>Gc2 h hw' (by decide)).mono fun _ _ h=>SpV.ext h hE26
   refine hall.set j ?_
   rw[Fi1 hjl]
   exact⟨s13,b14,s15,s21,b22,s23,rfl,(hw'.rat (hw.rat (q1.ext (E11.trans hE20)) (by decide)) (by decide)).ext hE26,(hw'.rat (hw.rat hmid (by decide)) (by decide)).ext hE26⟩
  ·have O12'':=hO12'.ext hE26
   refine⟨_,⟨_,O12''.row⟩,?_⟩
   have hall:=(((ha.mono fun _ _ h=>(h.ext (E11.trans hE20))).mono fun _ _ h=>Gc2 h hw (by decide)).mono fun _ _ h=>Gc2 h hw' (by decide)).mono fun _ _ h=>SpV.ext h hE26
   refine hall.set j ?_
   rw[Fi1 hjl]
   exact⟨s21,b22,s23,s16,b17,s18,rfl,(hw'.rat (hw.rat hmid (by decide)) (by decide)).ext hE26,(hw'.rat (hw.rat (q2.ext (E11.trans hE20)) (by decide)) (by decide)).ext hE26⟩
theorem Fz4 {W0 W:PW} {M:Nat→Prop} {sb:Sl} {bs:List Iv} {i:Int} {k:Nat} {K:Value→PW→Prop} (hb:Bc3 284 W sb bs) (hk: ∀x∈bs,IvS k x) (hk2:k≤1048576) (hl:bs.length≤1048576) (kont: ∀(s1:Sl) (s2:Sl) (W':PW),Ext W W'→(Bc3 284 W' s1 (if Fx5 bs i then loB bs i.toNat else[])∧Bc3 284 W' s2 (if Fx5 bs i then hiB bs i.toNat else[]))→K (.tuple ⟨[Sl.v s1,Sl.v s2,.bool (decide (Fx5 bs i))]⟩) W'):
  Aa1 Tryz.prog W0 M 31 [sb.v,.int .i64 i] W K:=
 Aa2 (fun W' hE=>Gb0 (M:=fun _=>False) (hb.ext hE) hk hk2 hl) (fun W' v W'' hE hE' hP=>by
  obtain⟨s1,s2,rfl,h⟩:=hP
  exact kont s1 s2 W'' (hE.trans hE') h)
end Go.Proofs.YtjkkidjbppphpaaGreatDoor
/- cincturelaw9.BoundHalves. -/
namespace Go.Proofs.YtjkkidjbppphpaaGreatDoor
open Go Go.SX
theorem Gd9 {bs:List Iv} {j:Nat} (hj:j<bs.length) (x:Iv) (k:Nat):Bm3 (bs.set j x) k=if k=j then x else Bm3 bs k:=by
 unfold Bm3
 rw[List.getD_eq_getElem?_getD,List.getD_eq_getElem?_getD,List.getElem?_set]
 by_cases e:k=j
 ·rw[if_pos e,if_pos e.symm,if_pos (by omega)]
  rfl
 ·rw[if_neg e,if_neg fun h=>e h.symm]
theorem Ge6 {x:Iv} (h:x.1<x.2):x.1<Ga6 x∧Ga6 x<x.2:=by
 unfold Ga6
 have two:(0:Rat)<2:=by decide
 exact⟨(Rat.lt_div_iff two).2 (by grind),(Rat.div_lt_iff two).2 (by grind)⟩
structure Gc4 (bs hs:List Iv):Prop where
 ok:Cn7 hs
 len:hs.length=bs.length
 le: ∀i,Ft1 (Bm3 hs i) (Bm3 bs i)
theorem Gb9 {bs:List Iv} (h:Cn7 bs) {j:Nat} (hj:j<bs.length) {x:Iv} (h1:x.1<x.2) (h2:Ft1 x (Bm3 bs j)):Gc4 bs (bs.set j x) where
 ok:=⟨by rw[List.length_set];exact h.1,fun y hy=>by
  rcases List.mem_or_eq_of_mem_set hy with hy | rfl
  ·exact h.2 y hy
  ·exact h1⟩
 len:=List.length_set
 le i:=by
  rw[Gd9 hj]
  split
  ·rename_i e;subst e;exact h2
  ·exact Ft1.refl _
theorem Ge4 {bs:List Iv} (h:Cn7 bs) {j:Nat} (hj:j<bs.length):Gc4 bs (loB bs j)∧Gc4 bs (hiB bs j):=by
 have hx:=h.2 _ (List.getElem_mem hj)
 rw[←Fi1 hj] at hx
 obtain⟨m1,m2⟩:=Ge6 hx
 exact⟨Gb9 h hj m1 ⟨Rat.le_refl,Rat.le_of_lt m2⟩,Gb9 h hj m2 ⟨Rat.le_of_lt m1,Rat.le_refl⟩⟩
theorem Ge2 {bs:List Iv} {j:Nat} (hj:j<bs.length) (hk: ∀x∈bs,IvS 4 x):(∀x∈loB bs j,IvS 20 x)∧∀x∈hiB bs j,IvS 20 x:=by
 have hx:=hk _ (List.getElem_mem hj)
 rw[←Fi1 hj] at hx
 have hm:Sz 20 (Ga6 (Bm3 bs j)):=((hx.1.add hx.2).div Ge1 (Nat.le_refl 1)).mono (by omega)
 constructor
 ·intro x h
  rcases List.mem_or_eq_of_mem_set h with h | rfl
  ·exact⟨(hk x h).1.mono (by omega),(hk x h).2.mono (by omega)⟩
  ·exact⟨hx.1.mono (by omega),hm⟩
 ·intro x h
  rcases List.mem_or_eq_of_mem_set h with h | rfl
  ·exact⟨(hk x h).1.mono (by omega),(hk x h).2.mono (by omega)⟩
  ·exact⟨hm,hx.2.mono (by omega)⟩
theorem Gd3 {bs hs:List Iv} (h:Gc4 bs hs) (p:List Tm):Ft1 (Aq8 (Bm3 hs) p) (Aq8 (Bm3 bs) p):=by
 rw[Gc3,Gc3]
 exact Gc5 (fun i _=>h.le i) (fun i _=>Ey5 (fun x hx=>Rat.le_of_lt (h.ok.2 x hx)) i) p
theorem Fz0 {W0:PW} {M:Nat→Prop} {s sb:Sl} {L:List (Mon×ByteArray)} {Lt:List (ByteArray×ByteArray)} {i:Int} (hT:Ac6 W0) (h:Af3 W0 s L) (hb:Bs7 W0 sb Lt) (hl:L.length≤1099511627776) (hz: ∀t∈L,t.2.size≤1099511627776) (hl2:Lt.length≤1099511627776) (hz2: ∀t∈Lt,t.1.size≤1099511627776∧t.2.size≤1099511627776):
  Aa0 Tryz.prog 5 [s.v,sb.v,.int .i64 i] W0 M fun v W'=>v = .bool true∧True:=by
 apply Fx2
 have alv: ∀{W:PW},Ac6 W→Aa1 Tryz.prog W0 M 16 [] W fun v11 W12=>∃b13:Bool,v11 = .bool b13∧∀(W14:PW),Ext W12 W14→Value.bool b13 = .bool true∧True:=fun hT=>Ba2 hT fun W12 _ _=>⟨true,rfl,fun W14 _=>⟨rfl,trivial⟩⟩
 refine Dn6 h hl hz fun s3 s4 b5 W2 hE2 hp=>⟨s3,s4,b5,rfl,?_⟩
 refine Gb4 (hT.ext hE2) (hb.ext hE2) hl2 hz2 fun s8 s9 b10 W7 hE7 hbx=>⟨s8,s9,b10,rfl,fun _=>alv (hT.ext (hE2.trans hE7)),fun h5=>⟨fun _=>alv (hT.ext (hE2.trans hE7)),fun h10=>Ba2 (hT.ext (hE2.trans hE7)) fun W20 hE20 _=>⟨true,rfl,fun e=>(by cases e),fun _=>?_⟩⟩⟩
 obtain⟨p,op,q1,_⟩:=hp (by simpa using h5)
 obtain⟨bs,x1,_,hBox,hk⟩:=hbx (by simpa using h10)
 have E20:=hE2.trans (hE7.trans hE20)
 have q1:=q1.ext (hE7.trans hE20)
 have x1:=x1.ext hE20
 have hlen:=op.len
 have hn:=x1.n
 have hbl:=hBox.1
 refine Co3 q1 (by omega) fun W27 hE27 _=>⟨_,rfl,fun _=>alv (hT.ext (E20.trans hE27)),fun hv=>⟨fun e=>by omega,fun _=>⟨by unfold I64;omega,?_⟩⟩⟩
 have hs:An3 p bs:=⟨hBox,by omega⟩
 have ho:=q1.ok
 have hz:=Ge7 op ho hk (by omega)
 refine Fy4 (by omega) (by omega) (by omega) fun i39 W38 hE38 hi=>⟨i39,rfl,?_⟩
 obtain⟨j,rfl⟩:=Int.eq_ofNat_of_zero_le hi.1
 have hj:j<bs.length:=by omega
 have hsp:Fx5 bs (j:Int):=⟨hBox,by omega,by omega⟩
 refine Fz4 (x1.ext (hE27.trans hE38)) hk (by omega) (by omega) fun s42 s43 W41 hE41 ⟨y1,y2⟩=>⟨s42,s43,_,rfl,?_⟩
 rw[if_pos hsp,Int.toNat_natCast] at y1 y2
 obtain⟨u1,u2⟩:=Ge4 hBox hj
 obtain⟨v1,v2⟩:=Ge2 hj hk
 have E41:=hE27.trans (hE38.trans hE41)
 refine Bi4 (q1.ext E41) (x1.ext E41) hz.n fun l W46 hE46 h46=>h46.Ge9 fun s47 b48 s49 s50 b51 s52 h46=>?_
 have hz1:BxN 56029 20 p (loB bs j):=⟨hz.n.bd,v1,ho,hz.n.len,by omega,by omega,by have:=u1.len;omega⟩
 have hz2:BxN 56029 20 p (hiB bs j):=⟨hz.n.bd,v2,ho,hz.n.len,by omega,by omega,by have:=u2.len;omega⟩
 have hs1:An3 p (loB bs j):=⟨u1.ok,by rw[u1.len];exact hs.2⟩
 have hs2:An3 p (hiB bs j):=⟨u2.ok,by rw[u2.len];exact hs.2⟩
 refine Bi4 (q1.ext (E41.trans hE46)) (y1.ext hE46) hz1 fun l W55 hE55 h55=>h55.Ge9 fun s56 b57 s58 s59 b60 s61 h55=>?_
 refine Bi4 (q1.ext (E41.trans (hE46.trans hE55))) (y2.ext (hE46.trans hE55)) hz2 fun l W64 hE64 h64=>h64.Ge9 fun s65 b66 s67 s68 b69 s70 h64=>?_
 rw[if_pos hs] at h46
 rw[if_pos hs1] at h55
 rw[if_pos hs2] at h64
 have z0:=(hz.n.over.mono (show _≤1000000 by omega)).sz
 have z1:=(hz1.over.mono (show _≤1000000 by omega)).sz
 have z2:=(hz2.over.mono (show _≤1000000 by omega)).sz
 refine⟨fun _=>⟨fun _=>⟨fun _=>⟨fun _=>?_,fun e=>absurd e (by rw[decide_eq_true hs2];decide)⟩,fun e=>absurd e (by rw[decide_eq_true hs1];decide)⟩,fun e=>absurd e (by rw[decide_eq_true hs];decide)⟩,fun e=>absurd e (by rw[decide_eq_true hsp];decide)⟩
 refine Fx1 (h55.ext hE64) (h46.ext (hE55.trans hE64)) z1 z0 (by omega) fun W73 hE73 _=>⟨_,rfl,fun _=>?_,fun e=>absurd (Gd3 u1 p) (of_decide_eq_false e)⟩
 refine Fx1 (h64.ext hE73) (h46.ext (hE55.trans (hE64.trans hE73))) z2 z0 (by omega) fun W76 hE76 _=>⟨_,rfl,fun W78 _=>⟨congrArg Value.bool (decide_eq_true (Gd3 u2 p)),trivial⟩⟩
end Go.Proofs.YtjkkidjbppphpaaGreatDoor
/- An argument that is a slice of terms with texts, opened. -/
namespace Go.Proofs.YtjkkidjbppphpaaGreatDoor
open Go Go.SX Go.ChangeShapes Go.WideShapes Go.ChangeAt Go.RowKit Go.Deep
instance:Inhabited (Mon×ByteArray):=⟨(⟨0,0,0⟩,⟨#[]⟩)⟩
theorem Cd6:Tryz.prog.cellsOf 194=4:=by kernel_rfl
theorem Dv1:Tryz.prog.cellsOf 163=3:=by kernel_rfl
theorem Ew8:Tryz.prog.cellsOf 5=1:=by kernel_rfl
theorem Fg4 {n:Int} (h:(Lit.int .u8 n).wf=true):0≤n∧n≤255:=by
 simp[Lit.wf,IntKind.min,IntKind.max,IntKind.bits,IntKind.signed] at h
 omega
theorem Er8 {H:Type} {enc:TypeId×Value→H} {W:World} {fuel:Nat} {cs:List Value} {x:DataW H×List MemPlace} (h:DataW.trod enc Tryz.prog W 0 (fun _=>true) true fuel 194 cs=some x):
  ∃t:Mon×ByteArray,AT cs t∧t.2.size≤Rows.uptoBulk x.1:=by
 obtain⟨xs,k,rfl,rfl,hl,hxl,hf⟩:=DataW.trod_struct Tryz.underlying194 h
 rw[Cd6] at hl
 have g0:DataW.trod enc Tryz.prog W 0 (fun _=>true) true k 163 ((cs.drop 0).take (Tryz.prog.cellsOf 163))=xs[0]?:=hf 0 _ rfl
 have g1:DataW.trod enc Tryz.prog W 0 (fun _=>true) true k 9 ((cs.drop 3).take (Tryz.prog.cellsOf 9))=xs[1]?:=hf 1 _ rfl
 rw[Dv1] at g0
 rw[Ct5] at g1
 match cs,hl,xs,hxl with
 | [v0,v1,v2,v3],_,[y0,y1],_=>
  have g0:DataW.trod enc Tryz.prog W 0 (fun _=>true) true k 163 [v0,v1,v2]=some y0:=g0
  have g1:DataW.trod enc Tryz.prog W 0 (fun _=>true) true k 9 [v3]=some y1:=g1
  obtain⟨zs,m,rfl,rfl,_,hzl,hz⟩:=DataW.trod_array Tryz.underlying163 g0
  obtain⟨s,hs,rfl,hsz⟩:=DataW.trod_string Tryz.underlying9 g1
  have e0:=hz 0 (by omega)
  have e1:=hz 1 (by omega)
  have e2:=hz 2 (by omega)
  rw[Ew8] at e0 e1 e2
  match zs,hzl with
  | [w0,w1,w2],_=>
   have e0:DataW.trod enc Tryz.prog W 0 (fun _=>true) true m 5 [v0]=some w0:=e0
   have e1:DataW.trod enc Tryz.prog W 0 (fun _=>true) true m 5 [v1]=some w1:=e1
   have e2:DataW.trod enc Tryz.prog W 0 (fun _=>true) true m 5 [v2]=some w2:=e2
   obtain⟨n0,h0,_,k0⟩:=DataW.trod_int Tryz.underlying5 e0
   obtain⟨n1,h1,_,k1⟩:=DataW.trod_int Tryz.underlying5 e1
   obtain⟨n2,h2,_,k2⟩:=DataW.trod_int Tryz.underlying5 e2
   have hs: [v3] = [Value.string s]:=hs
   have h0: [v0] = [Value.int .u8 n0]:=h0
   have h1: [v1] = [Value.int .u8 n1]:=h1
   have h2: [v2] = [Value.int .u8 n2]:=h2
   simp only[List.cons.injEq,and_true] at hs h0 h1 h2
   subst hs h0 h1 h2
   refine⟨(⟨n0,n1,n2⟩,s),⟨⟨Fg4 k0,Fg4 k1,Fg4 k2⟩,rfl⟩,?_⟩
   have e:s.data.toList.length=s.size:=by rw[Array.length_toList];rfl
   simp only[List.map_cons,List.map_nil,Rows.uptoBulk,Rows.uptoBulkAll]
   omega
theorem Et3 {n:Nat} {V:Nat→List Value} {y:Nat→Mon×ByteArray} (h: ∀i,i<n→AT (V i) (y i)):An5 AT ((List.range n).map V) ((List.range n).map y):=by
 induction n with
 | zero=>trivial
 | succ n ih=>
  rw[List.range_succ,List.map_append,List.map_append]
  exact(ih fun i hi=>h i (by omega)).append ⟨h n (by omega),trivial⟩
theorem Dt5 {H:Type} {enc:TypeId×Value→H} {W:World} {fuel:Nat} {v:Value} {d:DataW H} {p:List MemPlace} (h:DataW.trod enc Tryz.prog W 0 (fun _=>true) true fuel 22 [v]=some (d,p)):
  ∃(s:Sl) (L:List (Mon×ByteArray)),v=s.v∧Af3 ⟨W,fun _=>False⟩ s L∧L.length≤Rows.uptoBulk d∧∀t∈L,t.2.size≤Rows.uptoBulk d:=by
 rcases open_slice Tryz.underlying22 h with⟨hcs,hx⟩ | ⟨a,len,cap,m,n,D,Pl,hcs,_,hl,hm,hmm,hx,hcell⟩
 ·have hv:v = .slice none 0 0:=by simpa using hcs
  subst hv
  exact⟨⟨none,0,0⟩,[],rfl,⟨[],⟨0,rfl,Nat.le_refl _,Nat.zero_le _,fun x h=>by simp at h,.inl rfl⟩,trivial⟩,Nat.zero_le _,fun l h=>by simp at h⟩
 ·have hv:v = .slice (some a) len cap:=by simpa using hcs
  subst hv
  simp only[if_true] at hmm
  subst hmm
  simp only[Prod.mk.injEq] at hx
  obtain⟨rfl,_⟩:=hx
  rw[Cd6] at hcell
  obtain⟨q,hq⟩: ∃q:Nat→List Value×(Mon×ByteArray),∀i,i<m→W.cells? 0 (a.add (i*4)) 4=some (q i).1∧AT (q i).1 (q i).2∧(q i).2.2.size≤Rows.uptoBulk (D i):=choose_lt (α:=List Value×(Mon×ByteArray)) (p:=fun i q=>W.cells? 0 (a.add (i*4)) 4=some q.1∧AT q.1 q.2∧q.2.2.size≤Rows.uptoBulk (D i)) fun i hi=>by
   obtain⟨cs',h1,h2⟩:=hcell i hi
   obtain⟨t,h3,h4⟩:=Er8 h2
   exact⟨(cs',t),h1,h3,h4⟩
  have hr:=Bz7 (W:=W) (a:=a) (n:=len) (c:=m) (sz:=4) (V:=fun i=>(q i).1) (fun j hj i v hv=>by
   obtain⟨_,hlen,hc⟩:=World.cells?_some (hq j (by omega)).1
   have hi:i<4:=by have:=(List.getElem?_eq_some_iff.1 hv).1;omega
   have:=hc i hi
   rw[add_add] at this
   rw[this];exact hv) (fun j hj=>(World.cells?_some (hq j (by omega)).1).2.1) (by omega) hl hm (fun j hj u hu=>by
   rw[(hq j (by omega)).2.1.2] at hu
   simp only[List.mem_cons,List.not_mem_nil,or_false] at hu
   rcases hu with rfl | rfl | rfl | rfl<;>rfl)
  have hbulk: ∀i,i<len→Rows.uptoBulk (D i)≤Rows.uptoBulkAll ((List.range len).map D):=fun i hi=>Eo6 (List.mem_map.2 ⟨i,List.mem_range.2 hi,rfl⟩)
  have hlen:=Dj1 ((List.range len).map D)
  simp only[List.length_map,List.length_range] at hlen
  refine⟨⟨some a,len,m⟩,(List.range len).map fun i=>(q i).2,rfl,⟨_,hr,Et3 fun i hi=>(hq i (by omega)).2.1⟩,?_,fun t ht=>?_⟩
  ·simp only[List.length_map,List.length_range,Rows.uptoBulk]
   omega
  ·obtain⟨j,hj,rfl⟩:=List.mem_map.1 ht
   have hj':=List.mem_range.1 hj
   have h1:=hbulk j hj'
   have h2:=(hq j (by omega)).2.2
   simp only[Rows.uptoBulk]
   omega
end Go.Proofs.YtjkkidjbppphpaaGreatDoor
