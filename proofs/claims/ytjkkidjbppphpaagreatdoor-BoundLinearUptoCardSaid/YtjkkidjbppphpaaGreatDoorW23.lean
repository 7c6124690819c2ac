/- cincturelaw9.alive, Inside. -/
import Derived.Test.YtjkkidjbppphpaaGreatDoorW20
import Derived.Test.YtjkkidjbppphpaaGreatDoorW22
import Derived.Test.YtjkkidjbppphpaaGreatDoorW13
import Derived.Test.YtjkkidjbppphpaaGreatDoorW16
import Derived.Test.YtjkkidjbppphpaaGreatDoorW18
import Derived.Test.YtjkkidjbppphpaaGreatDoorW8
import Derived.Test.YtjkkidjbppphpaaGreatDoorLib3
import Derived.Test.YtjkkidjbppphpaaGreatDoorLib4
set_option linter.unusedVariables false
set_option linter.unusedSimpArgs false
set_option maxRecDepth 100000
namespace Go.Proofs.YtjkkidjbppphpaaGreatDoor
open Go Go.SX
def b9a:ByteArray:=⟨⟨[48]⟩⟩
def b9b:ByteArray:=⟨⟨[49]⟩⟩
theorem Er6:Ab7 b9a=some 0:=by
 have h1:Ak5 b9a=none:=by decide
 have h2:Ac3 b9a=some 0:=by decide
 unfold Ab7
 rw[h1,h2];rfl
theorem Ed8:Ab7 b9b=some 1:=by
 have h1:Ak5 b9b=none:=by decide
 have h2:Ac3 b9b=some 1:=by decide
 unfold Ab7
 rw[h1,h2];rfl
theorem Fn4:spP b9a b9b=some (0,1):=by
 unfold spP
 rw[Er6,Ed8]
 rfl
def pr9:List (ByteArray×ByteArray):=[(b9a,b9b)]
theorem Ev3:Br9 pr9:=⟨by decide,by decide,fun t ht=>by
 rw[List.mem_singleton.1 ht]
 exact⟨(0,1),Fn4,by decide +kernel,by decide +kernel,by decide +kernel⟩⟩
def al9:List Tm:=[(⟨1,0,0⟩,-1),(⟨2,0,0⟩,1)]
theorem Fj2:Ct4 (Dc6 0) (Dc6 0):=by decide +kernel
theorem Fj1:Ag2 ([(⟨2,0,0⟩,1)] ++ pmap (Dc6 0) (-1))=al9:=by decide +kernel
theorem Da2:An3 al9 [(0,1)]:=by decide +kernel
theorem Ex6:Aq8 (Bm3 [(0,1)]) al9=(((-1:Int):Rat),((1:Int):Rat)):=by decide +kernel
theorem Fm7:Bd 7 al9:=by
 refine(Bd.Co7 (k:=1) ?_).mono (by decide)
 intro t ht
 simp only[al9,List.mem_cons,List.not_mem_nil,or_false] at ht
 rcases ht with rfl | rfl
 ·exact Fn8
 ·exact Fl0
theorem Fh8:Fm8 (Dc6 0) (Dc6 0) = [(⟨2,0,0⟩,1)]:=by decide +kernel
theorem Fg2:Bd 7 [(⟨2,0,0⟩,1)]:=(Cq4 (m:=⟨2,0,0⟩) Fl0).mono (by decide)
theorem Fj8:BxN 7 1 al9 [(0,1)] where
 bd:=Fm7
 sd x hx:=by rw[List.mem_singleton.1 hx];exact⟨Sz.zero (Nat.le_refl 1),Fl0⟩
 ok t ht:=by
  simp only[al9,List.mem_cons,List.not_mem_nil,or_false] at ht
  rcases ht with rfl | rfl<;>decide
 len:=by decide
 k1:=by decide
 m1:=by decide
 bl:=by decide
theorem Db9 {W0:PW} {M:Nat→Prop} (hT:Ac6 W0):
  Aa0 Tryz.prog 16 [] W0 M fun v W'=>v = .bool true∧True:=by
 apply Ca5
 intro s1 W2 hE2 hO1 _
 refine Cg0 (Lt:=pr9) (hT.ext hE2) ⟨_,hO1.row⟩ (by decide) (by decide) fun s5 i6 bs W4 hE4 ⟨q1,q2,_,q4⟩=>⟨s5,i6,rfl,?_⟩
 have hi:=q4 Ev3
 obtain⟨k1,k2,k3⟩:=q2 hi
 have hbs:bs = [(0,1)]:=by
  refine Eu1 k2 rfl k3 fun i h1 h2=>?_
  have:i=0:=by have:i<1:=h1;omega
  subst this
  exact Fn4
 subst hbs
 refine Cr4 (i:=0) fun s9 W8 hE8 h8=>⟨s9,rfl,?_⟩
 refine Ct0 h8 h8 En2 En2 (by omega) (by decide) (by decide) (by decide) fun s12 W11 hE11 h11=>⟨s12,_,rfl,?_⟩
 rw[Fh8] at h11
 refine Db2 h11 (h8.ext hE11) Fg2 En2 (by omega) (by decide) (by decide) fun s16 W15 hE15 h15=>⟨s16,rfl,?_⟩
 rw[Fj1] at h15
 refine Bi4 h15 (q1.ext (hE8.trans (hE11.trans hE15))) Fj8 fun l W18 hE18 h18=>?_
 rw[if_pos Da2,Ex6] at h18
 obtain⟨s19,b20,s21,s22,b23,s24,rfl,u1,u2⟩:=h18
 refine⟨s19,b20,s21,s22,b23,s24,_,rfl,fun _=>⟨fun _=>⟨fun _=>?_,fun e=>absurd e (by rw[decide_eq_true Da2];decide)⟩,fun e=>absurd e (by rw[decide_eq_true Fj2];decide)⟩,fun e=>absurd hi e⟩
 refine Ak1 (z:=-1) (by unfold I64;omega) fun b28 s29 s30 W27 hE27 h27=>⟨b28,s29,s30,rfl,?_⟩
 refine Ak1 (z:=1) (by unfold I64;omega) fun b33 s34 s35 W32 hE32 h32=>⟨b33,s34,s35,rfl,?_⟩
 exact Bt3 (x:=(((-1:Int):Rat),((1:Int):Rat))) (k:=1) (SpV.mk (u1.ext (hE27.trans hE32)) (u2.ext (hE27.trans hE32))) (Ah6.mk (h27.ext hE32) h32) ⟨Fn8,Fl0⟩ (by omega) fun W37 hE37 _=>⟨true,rfl,fun W39 _=>⟨rfl,trivial⟩⟩
theorem Ba2 {W0 W:PW} {M:Nat→Prop} {K:Value→PW→Prop} (hT:Ac6 W) (kont: ∀(W':PW),Ext W W'→(True)→K (.bool true) W'):
  Aa1 Tryz.prog W0 M 16 [] W K:=
 Aa2 (fun W' hE=>Db9 (M:=fun _=>False) (hT.ext hE)) (fun W' v W'' hE hE' hP=>by
  obtain⟨rfl,h⟩:=hP
  exact kont W'' (hE.trans hE') h)
end Go.Proofs.YtjkkidjbppphpaaGreatDoor
/- cincturelaw8.Point. -/
namespace Go.Proofs.YtjkkidjbppphpaaGreatDoor
open Go Go.SX
def vS:Value→Sl
 | .slice a n c=>⟨a,n,c⟩
 | _=>⟨none,0,0⟩
def vB:Value→Bool
 | .bool b=>b
 | _=>false
def vat (c:List Value) (i:Nat):Value:=c.getD i (.bool false)
def Hx8 (W:PW) (c d:List Value) (u:Pt):Prop:=
 (∀k,Sz 3 (u.get k))∧
 (Ab3 284 W (vS (vat c 0)) (vB (vat c 1)) (vS (vat c 2)) u.x∧Ab3 284 W (vS (vat c 3)) (vB (vat c 4)) (vS (vat c 5)) u.y∧Ab3 284 W (vS (vat c 6)) (vB (vat c 7)) (vS (vat c 8)) u.z)∧
 (Ab6 284 W (vB (vat d 0)) (vS (vat d 1)) (vS (vat d 2)) u.x∧Ab6 284 W (vB (vat d 3)) (vS (vat d 4)) (vS (vat d 5)) u.y∧Ab6 284 W (vB (vat d 6)) (vS (vat d 7)) (vS (vat d 8)) u.z)
theorem Hx8.ext {W W':PW} {c d:List Value} {u:Pt} (h:Hx8 W c d u) (e:Ext W W'):Hx8 W' c d u:=
 ⟨h.1,⟨h.2.1.1.ext e,h.2.1.2.1.ext e,h.2.1.2.2.ext e⟩,⟨h.2.2.1.ext e,h.2.2.2.1.ext e,h.2.2.2.2.ext e⟩⟩
def Hx9 (ok:Bool) (W:PW) (c d:List Value):Prop:=ok=true→∃u:Pt,Hx8 W c d u
def Hx6 (W0:PW) (l:List PL) (W:PW):Prop:=match l with
 | [.val (.int .i64 i),.cells _,.cells _,.cells c,.cells d]=>∃(j:Nat) (u:Pt),i=(j:Int)∧j≤3∧Ext W0 W∧Hx8 W c d u
 | _=>False
def Hx5 (l:List PL) (_:PW):Nat:=match l with
 | .val (.int .i64 i) :: _=>(3-i).toNat
 | _=>0
theorem Pt.sz {a b c:Rat} (ha:Sz 3 a) (hb:Sz 3 b) (hc:Sz 3 c): ∀k,Sz 3 ((Pt.mk a b c).get k):=fun k=>by
 unfold Pt.get
 split
 ·exact ha
 ·split
  ·exact hb
  ·exact hc
theorem Hv1 {W0:PW} {M:Nat→Prop} {a b c:ByteArray} (ha:a.size≤1099511627776) (hb:b.size≤1099511627776) (hc:c.size≤1099511627776):
  Aa0 Tryz.prog 22 [.agg ⟨[.string a,.string b,.string c]⟩] W0 M fun v W'=>∃(s0:Sl),∃(b0:Bool),∃(t0:Sl),∃(s1:Sl),∃(b1:Bool),∃(t1:Sl),∃(s2:Sl),∃(b2:Bool),∃(t2:Sl),∃(e0:Bool),∃(p0:Sl),∃(q0:Sl),∃(e1:Bool),∃(p1:Sl),∃(q1:Sl),∃(e2:Bool),∃(p2:Sl),∃(q2:Sl),∃(ok:Bool),v = .tuple ⟨[.agg ⟨[Sl.v s0,.bool b0,Sl.v t0,Sl.v s1,.bool b1,Sl.v t1,Sl.v s2,.bool b2,Sl.v t2]⟩,.agg ⟨[.bool e0,Sl.v p0,Sl.v q0,.bool e1,Sl.v p1,Sl.v q1,.bool e2,Sl.v p2,Sl.v q2]⟩,.bool ok]⟩∧Hx9 ok W' [Sl.v s0,.bool b0,Sl.v t0,Sl.v s1,.bool b1,Sl.v t1,Sl.v s2,.bool b2,Sl.v t2] [.bool e0,Sl.v p0,Sl.v q0,.bool e1,Sl.v p1,Sl.v q1,.bool e2,Sl.v p2,Sl.v q2]:=by
 apply Hu4
 refine⟨Hx6 W0,Hx5,⟨0,⟨0,0,0⟩,rfl,by omega,Ext.refl _,Pt.sz (Sz.zero (by omega)) (Sz.zero (by omega)) (Sz.zero (by omega)),⟨Ef0 W0,Ef0 W0,Ef0 W0⟩,⟨Dv5 W0,Dv5 W0,Dv5 W0⟩⟩,?_⟩
 rintro s3 b4 s5 s6 b7 s8 s9 b10 s11 b12 s13 s14 b15 s16 s17 b18 s19 s20 s21 b22 s23 s24 b25 s26 s27 b28 s29 b30 s31 s32 b33 s34 s35 b36 s37 s38 i39 W40 ⟨j,u,rfl,hj,hE,hI⟩
 refine⟨fun hlt=>?_,fun hge W54 hE54=>⟨s21,b22,s23,s24,b25,s26,s27,b28,s29,b30,s31,s32,b33,s34,s35,b36,s37,s38,true,rfl,fun _=>⟨u,hI.ext hE54⟩⟩⟩
 have hj3:j<3:=by omega
 obtain⟨t,hbt,hts⟩: ∃t:ByteArray,As9 [.string a,.string b,.string c] (0+Int.toNat (j:Int)*1+0) [.string t]∧t.size≤1099511627776:=by
  rcases(show j=0∨j=1∨j=2 by omega) with rfl | rfl | rfl
  ·exact⟨a,⟨by simp,rfl⟩,ha⟩
  ·exact⟨b,⟨by simp,rfl⟩,hb⟩
  ·exact⟨c,⟨by simp,rfl⟩,hc⟩
 refine⟨⟨by omega,hlt⟩,t,hbt,Go0 hts fun s44 b45 s46 b47 s48 s49 W43 hE43 ⟨hq,hq2⟩=>⟨s44,b45,s46,b47,s48,s49,_,rfl,fun hs W51 hE51=>⟨s21,b22,s23,s24,b25,s26,s27,b28,s29,b30,s31,s32,b33,s34,s35,b36,s37,s38,false,rfl,fun h=>by cases h⟩,fun hs=>⟨⟨by omega,hlt⟩,t,hbt,fun h16 W53 hE53=>⟨s21,b22,s23,s24,b25,s26,s27,b28,s29,b30,s31,s32,b33,s34,s35,b36,s37,s38,false,rfl,fun h=>by cases h⟩,fun h16=>?_⟩⟩⟩
 obtain⟨q,hq'⟩:=Option.isSome_iff_exists.1 (show(Gp3 t).isSome=true by simpa using hs)
 rw[hq'] at hq hq2
 have hq:Ab3 284 W43 s44 b45 s46 q:=hq
 have hq2:Ab6 284 W43 b47 s48 s49 q:=hq2
 have hsq:Sz 3 q:=by
  unfold Gp3 at hq'
  rw[if_pos (by omega)] at hq'
  exact(Aw6 hq').2 (by omega)
 obtain⟨hz,⟨c0,c1,c2⟩,⟨d0,d1,d2⟩⟩:=hI.ext hE43
 have z0:Sz 3 u.x:=hz 0
 have z1:Sz 3 u.y:=hz 1
 have z2:Sz 3 u.z:=hz 2
 have hE':=hE.trans hE43
 refine⟨⟨by omega,hlt⟩,by omega,⟨⟨trivial,fun e=>?_⟩,fun e=>?_⟩,fun e=>?_⟩
 ·refine⟨⟨by omega,hlt⟩,by omega,⟨⟨trivial,fun _=>⟨by unfold I64;omega,⟨j+1,⟨q,u.y,u.z⟩,by push_cast;rfl,by omega,hE',Pt.sz hsq z1 z2,⟨hq,c1,c2⟩,⟨hq2,d1,d2⟩⟩,by show(3-((j:Int)+1)).toNat<(3-(j:Int)).toNat;omega⟩⟩,fun f=>(by omega)⟩,fun f=>(by omega)⟩
 ·refine⟨⟨by omega,hlt⟩,by omega,⟨⟨trivial,fun f=>(by omega)⟩,fun _=>⟨by unfold I64;omega,⟨j+1,⟨u.x,q,u.z⟩,by push_cast;rfl,by omega,hE',Pt.sz z0 hsq z2,⟨c0,hq,c2⟩,⟨d0,hq2,d2⟩⟩,by show(3-((j:Int)+1)).toNat<(3-(j:Int)).toNat;omega⟩⟩,fun f=>(by omega)⟩
 ·refine⟨⟨by omega,hlt⟩,by omega,⟨⟨trivial,fun f=>(by omega)⟩,fun f=>(by omega)⟩,fun _=>⟨by unfold I64;omega,⟨j+1,⟨u.x,u.y,q⟩,by push_cast;rfl,by omega,hE',Pt.sz z0 z1 hsq,⟨c0,c1,hq⟩,⟨d0,d1,hq2⟩⟩,by show(3-((j:Int)+1)).toNat<(3-(j:Int)).toNat;omega⟩⟩
theorem Hu1 {W0 W:PW} {M:Nat→Prop} {a b c:ByteArray} {K:Value→PW→Prop} (ha:a.size≤1099511627776) (hb:b.size≤1099511627776) (hc:c.size≤1099511627776) (kont: ∀(s0:Sl) (b0:Bool) (t0:Sl) (s1:Sl) (b1:Bool) (t1:Sl) (s2:Sl) (b2:Bool) (t2:Sl) (e0:Bool) (p0:Sl) (q0:Sl) (e1:Bool) (p1:Sl) (q1:Sl) (e2:Bool) (p2:Sl) (q2:Sl) (ok:Bool) (W':PW),Ext W W'→(Hx9 ok W' [Sl.v s0,.bool b0,Sl.v t0,Sl.v s1,.bool b1,Sl.v t1,Sl.v s2,.bool b2,Sl.v t2] [.bool e0,Sl.v p0,Sl.v q0,.bool e1,Sl.v p1,Sl.v q1,.bool e2,Sl.v p2,Sl.v q2])→K (.tuple ⟨[.agg ⟨[Sl.v s0,.bool b0,Sl.v t0,Sl.v s1,.bool b1,Sl.v t1,Sl.v s2,.bool b2,Sl.v t2]⟩,.agg ⟨[.bool e0,Sl.v p0,Sl.v q0,.bool e1,Sl.v p1,Sl.v q1,.bool e2,Sl.v p2,Sl.v q2]⟩,.bool ok]⟩) W'):
  Aa1 Tryz.prog W0 M 22 [.agg ⟨[.string a,.string b,.string c]⟩] W K:=
 Aa2 (fun W' hE=>Hv1 (M:=fun _=>False) ha hb hc) (fun W' v W'' hE hE' hP=>by
  obtain⟨s0,b0,t0,s1,b1,t1,s2,b2,t2,e0,p0,q0,e1,p1,q1,e2,p2,q2,ok,rfl,h⟩:=hP
  exact kont s0 b0 t0 s1 b1 t1 s2 b2 t2 e0 p0 q0 e1 p1 q1 e2 p2 q2 ok W'' (hE.trans hE') h)
end Go.Proofs.YtjkkidjbppphpaaGreatDoor
/- Values of sums, products and compositions. -/
namespace Go.Proofs.YtjkkidjbppphpaaGreatDoor
open Go Go.SX
def evM (u:Pt) (m:Mon):Rat:=u.get 0^(An6 m 0).toNat*u.get 1^(An6 m 1).toNat*u.get 2^(An6 m 2).toNat
theorem Ha1 (t:Tm) (u:Pt):ctm t u 3=t.2*evM u t.1:=by
 simp only[ctm,evM,Rat.mul_assoc]
theorem Gf3 (u:Pt) (p:List Tm):atQ u p=lin (evM u) p:=by
 have key: ∀(p:List Tm) (a:Rat),p.foldl (fun a t=>a+ctm t u 3) a=a+lin (evM u) p:=by
  intro p
  induction p with
  | nil=>intro a;simp[lin,Rat.add_zero]
  | cons t r ih=>
   intro a
   rw[List.foldl_cons,ih,lin,Ha1,Rat.add_assoc]
 rw[atQ,key,Rat.zero_add]
end Go.Proofs.YtjkkidjbppphpaaGreatDoor
/- Values of sums, of multiples, of variables: plain law. -/
namespace Go.Proofs.YtjkkidjbppphpaaGreatDoor
open Go Go.SX
theorem Gw0 (u:Pt) (p q:List Tm):atQ u (p ++ q)=atQ u p+atQ u q:=by rw[Gf3,Gf3,Gf3,Gl3]
theorem Gy3 (u:Pt) (p:List Tm) (r:Rat):atQ u (pmap p r)=r*atQ u p:=by rw[Gf3,Gf3];exact Gs4 _ r p
theorem Gn5 (u:Pt) (p:List Tm):atQ u (Ag2 p)=atQ u p:=by rw[Gf3,Gf3,Gi6]
theorem Gz3 (u:Pt) {i:Nat} (hi:i<3):atQ u (Dc6 (i:Int))=u.get i:=by
 have e:Dc6 (i:Int) = [(Da3 i,1)]:=by unfold Dc6;rw[if_pos ⟨by omega,by omega⟩,Int.toNat_natCast]
 rw[e]
 show 0+1*u.get 0^(An6 (Da3 i) 0).toNat*u.get 1^(An6 (Da3 i) 1).toNat*u.get 2^(An6 (Da3 i) 2).toNat=u.get i
 rcases(by omega:i=0∨i=1∨i=2) with rfl | rfl | rfl
 ·show 0+1*u.get 0^1*u.get 1^0*u.get 2^0=u.get 0
  simp only[Rat.pow_zero,Rat.pow_succ]
  grind
 ·show 0+1*u.get 0^0*u.get 1^1*u.get 2^0=u.get 1
  simp only[Rat.pow_zero,Rat.pow_succ]
  grind
 ·show 0+1*u.get 0^0*u.get 1^0*u.get 2^1=u.get 2
  simp only[Rat.pow_zero,Rat.pow_succ]
  grind
end Go.Proofs.YtjkkidjbppphpaaGreatDoor
