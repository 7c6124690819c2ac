/- cincturelaw9.alive, Inside. -/
import Derived.Test.YtjkkidjbppphpaaGreatDoorW20
import Derived.Test.YtjkkidjbppphpaaGreatDoorW22
import Derived.Test.YtjkkidjbppphpaaGreatDoorW13
import Derived.Test.YtjkkidjbppphpaaGreatDoorW16
import Derived.Test.YtjkkidjbppphpaaGreatDoorW18
import Derived.Test.YtjkkidjbppphpaaGreatDoorW8
import Derived.Test.YtjkkidjbppphpaaGreatDoorR19
import Derived.Test.YtjkkidjbppphpaaGreatDoorW21
set_option linter.unusedVariables false
set_option linter.unusedSimpArgs false
set_option maxRecDepth 100000
namespace Go.Proofs.YtjkkidjbppphpaaGreatDoor
open Go Go.SX
def b9a:ByteArray:=⟨⟨[48]⟩⟩
def b9b:ByteArray:=⟨⟨[49]⟩⟩
theorem Er6:Ab7 b9a=some 0:=by
 have h1:Ak5 b9a=none:=by decide
 have h2:Ac3 b9a=some 0:=by decide
 unfold Ab7
 rw[h1,h2];rfl
theorem Ed8:Ab7 b9b=some 1:=by
 have h1:Ak5 b9b=none:=by decide
 have h2:Ac3 b9b=some 1:=by decide
 unfold Ab7
 rw[h1,h2];rfl
theorem Fn4:spP b9a b9b=some (0,1):=by
 unfold spP
 rw[Er6,Ed8]
 rfl
def pr9:List (ByteArray×ByteArray):=[(b9a,b9b)]
theorem Ev3:Br9 pr9:=⟨by decide,by decide,fun t ht=>by
 rw[List.mem_singleton.1 ht]
 exact⟨(0,1),Fn4,by decide +kernel,by decide +kernel,by decide +kernel⟩⟩
def al9:List Tm:=[(⟨1,0,0⟩,-1),(⟨2,0,0⟩,1)]
theorem Fj2:Ct4 (Dc6 0) (Dc6 0):=by decide +kernel
theorem Fj1:Ag2 ([(⟨2,0,0⟩,1)] ++ pmap (Dc6 0) (-1))=al9:=by decide +kernel
theorem Da2:An3 al9 [(0,1)]:=by decide +kernel
theorem Ex6:Aq8 (Bm3 [(0,1)]) al9=(((-1:Int):Rat),((1:Int):Rat)):=by decide +kernel
theorem Fm7:Bd 7 al9:=by
 refine(Bd.Co7 (k:=1) ?_).mono (by decide)
 intro t ht
 simp only[al9,List.mem_cons,List.not_mem_nil,or_false] at ht
 rcases ht with rfl | rfl
 ·exact Fn8
 ·exact Fl0
theorem Fh8:Fm8 (Dc6 0) (Dc6 0) = [(⟨2,0,0⟩,1)]:=by decide +kernel
theorem Fg2:Bd 7 [(⟨2,0,0⟩,1)]:=(Cq4 (m:=⟨2,0,0⟩) Fl0).mono (by decide)
theorem Fj8:BxN 7 1 al9 [(0,1)] where
 bd:=Fm7
 sd x hx:=by rw[List.mem_singleton.1 hx];exact⟨Sz.zero (Nat.le_refl 1),Fl0⟩
 ok t ht:=by
  simp only[al9,List.mem_cons,List.not_mem_nil,or_false] at ht
  rcases ht with rfl | rfl<;>decide
 len:=by decide
 k1:=by decide
 m1:=by decide
 bl:=by decide
theorem Db9 {W0:PW} {M:Nat→Prop} (hT:Ac6 W0):
  Aa0 Tryz.prog 16 [] W0 M fun v W'=>v = .bool true∧True:=by
 apply Ca5
 intro s1 W2 hE2 hO1 _
 refine Cg0 (Lt:=pr9) (hT.ext hE2) ⟨_,hO1.row⟩ (by decide) (by decide) fun s5 i6 bs W4 hE4 ⟨q1,q2,_,q4⟩=>⟨s5,i6,rfl,?_⟩
 have hi:=q4 Ev3
 obtain⟨k1,k2,k3⟩:=q2 hi
 have hbs:bs = [(0,1)]:=by
  refine Eu1 k2 rfl k3 fun i h1 h2=>?_
  have:i=0:=by have:i<1:=h1;omega
  subst this
  exact Fn4
 subst hbs
 refine Cr4 (i:=0) fun s9 W8 hE8 h8=>⟨s9,rfl,?_⟩
 refine Ct0 h8 h8 En2 En2 (by omega) (by decide) (by decide) (by decide) fun s12 W11 hE11 h11=>⟨s12,_,rfl,?_⟩
 rw[Fh8] at h11
 refine Db2 h11 (h8.ext hE11) Fg2 En2 (by omega) (by decide) (by decide) fun s16 W15 hE15 h15=>⟨s16,rfl,?_⟩
 rw[Fj1] at h15
 refine Bi4 h15 (q1.ext (hE8.trans (hE11.trans hE15))) Fj8 fun l W18 hE18 h18=>?_
 rw[if_pos Da2,Ex6] at h18
 obtain⟨s19,b20,s21,s22,b23,s24,rfl,u1,u2⟩:=h18
 refine⟨s19,b20,s21,s22,b23,s24,_,rfl,fun _=>⟨fun _=>⟨fun _=>?_,fun e=>absurd e (by rw[decide_eq_true Da2];decide)⟩,fun e=>absurd e (by rw[decide_eq_true Fj2];decide)⟩,fun e=>absurd hi e⟩
 refine Ak1 (z:=-1) (by unfold I64;omega) fun b28 s29 s30 W27 hE27 h27=>⟨b28,s29,s30,rfl,?_⟩
 refine Ak1 (z:=1) (by unfold I64;omega) fun b33 s34 s35 W32 hE32 h32=>⟨b33,s34,s35,rfl,?_⟩
 exact Bt3 (x:=(((-1:Int):Rat),((1:Int):Rat))) (k:=1) (SpV.mk (u1.ext (hE27.trans hE32)) (u2.ext (hE27.trans hE32))) (Ah6.mk (h27.ext hE32) h32) ⟨Fn8,Fl0⟩ (by omega) fun W37 hE37 _=>⟨true,rfl,fun W39 _=>⟨rfl,trivial⟩⟩
theorem Ba2 {W0 W:PW} {M:Nat→Prop} {K:Value→PW→Prop} (hT:Ac6 W) (kont: ∀(W':PW),Ext W W'→(True)→K (.bool true) W'):
  Aa1 Tryz.prog W0 M 16 [] W K:=
 Aa2 (fun W' hE=>Db9 (M:=fun _=>False) (hT.ext hE)) (fun W' v W'' hE hE' hP=>by
  obtain⟨rfl,h⟩:=hP
  exact kont W'' (hE.trans hE') h)
end Go.Proofs.YtjkkidjbppphpaaGreatDoor
/- cincturelaw8.Point. -/
namespace Go.Proofs.YtjkkidjbppphpaaGreatDoor
open Go Go.SX
def vS:Value→Sl
 | .slice a n c=>⟨a,n,c⟩
 | _=>⟨none,0,0⟩
def vB:Value→Bool
 | .bool b=>b
 | _=>false
def vat (c:List Value) (i:Nat):Value:=c.getD i (.bool false)
def Hx8 (W:PW) (c d:List Value) (u:Pt):Prop:=
 (∀k,Sz 3 (u.get k))∧
 (Ab3 284 W (vS (vat c 0)) (vB (vat c 1)) (vS (vat c 2)) u.x∧Ab3 284 W (vS (vat c 3)) (vB (vat c 4)) (vS (vat c 5)) u.y∧Ab3 284 W (vS (vat c 6)) (vB (vat c 7)) (vS (vat c 8)) u.z)∧
 (Ab6 284 W (vB (vat d 0)) (vS (vat d 1)) (vS (vat d 2)) u.x∧Ab6 284 W (vB (vat d 3)) (vS (vat d 4)) (vS (vat d 5)) u.y∧Ab6 284 W (vB (vat d 6)) (vS (vat d 7)) (vS (vat d 8)) u.z)
theorem Hx8.ext {W W':PW} {c d:List Value} {u:Pt} (h:Hx8 W c d u) (e:Ext W W'):Hx8 W' c d u:=
 ⟨h.1,⟨h.2.1.1.ext e,h.2.1.2.1.ext e,h.2.1.2.2.ext e⟩,⟨h.2.2.1.ext e,h.2.2.2.1.ext e,h.2.2.2.2.ext e⟩⟩
def Hx9 (ok:Bool) (W:PW) (c d:List Value):Prop:=ok=true→∃u:Pt,Hx8 W c d u
def Hx6 (W0:PW) (l:List PL) (W:PW):Prop:=match l with
 | [.val (.int .i64 i),.cells _,.cells _,.cells c,.cells d]=>∃(j:Nat) (u:Pt),i=(j:Int)∧j≤3∧Ext W0 W∧Hx8 W c d u
 | _=>False
def Hx5 (l:List PL) (_:PW):Nat:=match l with
 | .val (.int .i64 i) :: _=>(3-i).toNat
 | _=>0
theorem Pt.sz {a b c:Rat} (ha:Sz 3 a) (hb:Sz 3 b) (hc:Sz 3 c): ∀k,Sz 3 ((Pt.mk a b c).get k):=fun k=>by
 unfold Pt.get
 split
 ·exact ha
 ·split
  ·exact hb
  ·exact hc
theorem Hv1 {W0:PW} {M:Nat→Prop} {a b c:ByteArray} (ha:a.size≤1099511627776) (hb:b.size≤1099511627776) (hc:c.size≤1099511627776):
  Aa0 Tryz.prog 22 [.agg ⟨[.string a,.string b,.string c]⟩] W0 M fun v W'=>∃(s0:Sl),∃(b0:Bool),∃(t0:Sl),∃(s1:Sl),∃(b1:Bool),∃(t1:Sl),∃(s2:Sl),∃(b2:Bool),∃(t2:Sl),∃(e0:Bool),∃(p0:Sl),∃(q0:Sl),∃(e1:Bool),∃(p1:Sl),∃(q1:Sl),∃(e2:Bool),∃(p2:Sl),∃(q2:Sl),∃(ok:Bool),v = .tuple ⟨[.agg ⟨[Sl.v s0,.bool b0,Sl.v t0,Sl.v s1,.bool b1,Sl.v t1,Sl.v s2,.bool b2,Sl.v t2]⟩,.agg ⟨[.bool e0,Sl.v p0,Sl.v q0,.bool e1,Sl.v p1,Sl.v q1,.bool e2,Sl.v p2,Sl.v q2]⟩,.bool ok]⟩∧Hx9 ok W' [Sl.v s0,.bool b0,Sl.v t0,Sl.v s1,.bool b1,Sl.v t1,Sl.v s2,.bool b2,Sl.v t2] [.bool e0,Sl.v p0,Sl.v q0,.bool e1,Sl.v p1,Sl.v q1,.bool e2,Sl.v p2,Sl.v q2]:=by
 apply Hu4
 refine⟨Hx6 W0,Hx5,⟨0,⟨0,0,0⟩,rfl,by omega,Ext.refl _,Pt.sz (Sz.zero (by omega)) (Sz.zero (by omega)) (Sz.zero (by omega)),⟨Ef0 W0,Ef0 W0,Ef0 W0⟩,⟨Dv5 W0,Dv5 W0,Dv5 W0⟩⟩,?_⟩
 rintro s3 b4 s5 s6 b7 s8 s9 b10 s11 b12 s13 s14 b15 s16 s17 b18 s19 s20 s21 b22 s23 s24 b25 s26 s27 b28 s29 b30 s31 s32 b33 s34 s35 b36 s37 s38 i39 W40 ⟨j,u,rfl,hj,hE,hI⟩
 refine⟨fun hlt=>?_,fun hge W54 hE54=>⟨s21,b22,s23,s24,b25,s26,s27,b28,s29,b30,s31,s32,b33,s34,s35,b36,s37,s38,true,rfl,fun _=>⟨u,hI.ext hE54⟩⟩⟩
 have hj3:j<3:=by omega
 obtain⟨t,hbt,hts⟩: ∃t:ByteArray,As9 [.string a,.string b,.string c] (0+Int.toNat (j:Int)*1+0) [.string t]∧t.size≤1099511627776:=by
  rcases(show j=0∨j=1∨j=2 by omega) with rfl | rfl | rfl
  ·exact⟨a,⟨by simp,rfl⟩,ha⟩
  ·exact⟨b,⟨by simp,rfl⟩,hb⟩
  ·exact⟨c,⟨by simp,rfl⟩,hc⟩
 refine⟨⟨by omega,hlt⟩,t,hbt,Go0 hts fun s44 b45 s46 b47 s48 s49 W43 hE43 ⟨hq,hq2⟩=>⟨s44,b45,s46,b47,s48,s49,_,rfl,fun hs W51 hE51=>⟨s21,b22,s23,s24,b25,s26,s27,b28,s29,b30,s31,s32,b33,s34,s35,b36,s37,s38,false,rfl,fun h=>by cases h⟩,fun hs=>⟨⟨by omega,hlt⟩,t,hbt,fun h16 W53 hE53=>⟨s21,b22,s23,s24,b25,s26,s27,b28,s29,b30,s31,s32,b33,s34,s35,b36,s37,s38,false,rfl,fun h=>by cases h⟩,fun h16=>?_⟩⟩⟩
 obtain⟨q,hq'⟩:=Option.isSome_iff_exists.1 (show(Gp3 t).isSome=true by simpa using hs)
 rw[hq'] at hq hq2
 have hq:Ab3 284 W43 s44 b45 s46 q:=hq
 have hq2:Ab6 284 W43 b47 s48 s49 q:=hq2
 have hsq:Sz 3 q:=by
  unfold Gp3 at hq'
  rw[if_pos (by omega)] at hq'
  exact(Aw6 hq').2 (by omega)
 obtain⟨hz,⟨c0,c1,c2⟩,⟨d0,d1,d2⟩⟩:=hI.ext hE43
 have z0:Sz 3 u.x:=hz 0
 have z1:Sz 3 u.y:=hz 1
 have z2:Sz 3 u.z:=hz 2
 have hE':=hE.trans hE43
 refine⟨⟨by omega,hlt⟩,by omega,⟨⟨trivial,fun e=>?_⟩,fun e=>?_⟩,fun e=>?_⟩
 ·refine⟨⟨by omega,hlt⟩,by omega,⟨⟨trivial,fun _=>⟨by unfold I64;omega,⟨j+1,⟨q,u.y,u.z⟩,by push_cast;rfl,by omega,hE',Pt.sz hsq z1 z2,⟨hq,c1,c2⟩,⟨hq2,d1,d2⟩⟩,by show(3-((j:Int)+1)).toNat<(3-(j:Int)).toNat;omega⟩⟩,fun f=>(by omega)⟩,fun f=>(by omega)⟩
 ·refine⟨⟨by omega,hlt⟩,by omega,⟨⟨trivial,fun f=>(by omega)⟩,fun _=>⟨by unfold I64;omega,⟨j+1,⟨u.x,q,u.z⟩,by push_cast;rfl,by omega,hE',Pt.sz z0 hsq z2,⟨c0,hq,c2⟩,⟨d0,hq2,d2⟩⟩,by show(3-((j:Int)+1)).toNat<(3-(j:Int)).toNat;omega⟩⟩,fun f=>(by omega)⟩
 ·refine⟨⟨by omega,hlt⟩,by omega,⟨⟨trivial,fun f=>(by omega)⟩,fun f=>(by omega)⟩,fun _=>⟨by unfold I64;omega,⟨j+1,⟨u.x,u.y,q⟩,by push_cast;rfl,by omega,hE',Pt.sz z0 z1 hsq,⟨c0,c1,hq⟩,⟨d0,d1,hq2⟩⟩,by show(3-((j:Int)+1)).toNat<(3-(j:Int)).toNat;omega⟩⟩
theorem Hu1 {W0 W:PW} {M:Nat→Prop} {a b c:ByteArray} {K:Value→PW→Prop} (ha:a.size≤1099511627776) (hb:b.size≤1099511627776) (hc:c.size≤1099511627776) (kont: ∀(s0:Sl) (b0:Bool) (t0:Sl) (s1:Sl) (b1:Bool) (t1:Sl) (s2:Sl) (b2:Bool) (t2:Sl) (e0:Bool) (p0:Sl) (q0:Sl) (e1:Bool) (p1:Sl) (q1:Sl) (e2:Bool) (p2:Sl) (q2:Sl) (ok:Bool) (W':PW),Ext W W'→(Hx9 ok W' [Sl.v s0,.bool b0,Sl.v t0,Sl.v s1,.bool b1,Sl.v t1,Sl.v s2,.bool b2,Sl.v t2] [.bool e0,Sl.v p0,Sl.v q0,.bool e1,Sl.v p1,Sl.v q1,.bool e2,Sl.v p2,Sl.v q2])→K (.tuple ⟨[.agg ⟨[Sl.v s0,.bool b0,Sl.v t0,Sl.v s1,.bool b1,Sl.v t1,Sl.v s2,.bool b2,Sl.v t2]⟩,.agg ⟨[.bool e0,Sl.v p0,Sl.v q0,.bool e1,Sl.v p1,Sl.v q1,.bool e2,Sl.v p2,Sl.v q2]⟩,.bool ok]⟩) W'):
  Aa1 Tryz.prog W0 M 22 [.agg ⟨[.string a,.string b,.string c]⟩] W K:=
 Aa2 (fun W' hE=>Hv1 (M:=fun _=>False) ha hb hc) (fun W' v W'' hE hE' hP=>by
  obtain⟨s0,b0,t0,s1,b1,t1,s2,b2,t2,e0,p0,q0,e1,p1,q1,e2,p2,q2,ok,rfl,h⟩:=hP
  exact kont s0 b0 t0 s1 b1 t1 s2 b2 t2 e0 p0 q0 e1 p1 q1 e2 p2 q2 ok W'' (hE.trans hE') h)
end Go.Proofs.YtjkkidjbppphpaaGreatDoor
/- cincturelaw9.BoundAdds. -/
namespace Go.Proofs.YtjkkidjbppphpaaGreatDoor
open Go Go.SX
theorem Hw3 (p:List Tm) (m:Mon):Aj5 (pmap p 0) m=0:=by
 unfold pmap
 induction p with
 | nil=>rfl
 | cons t r ih=>
  rw[List.map_cons,Aj5,ih]
  split
  ·show t.2*0+0=0;grind
  ·grind
theorem Hw5 {p:List Tm} (h:Av6 p) {r:Rat} (hr:r≠0):Av6 (pmap p r) where
 srt:=List.pairwise_map.2 h.srt
 nz t ht:=by
  obtain⟨u,hu,rfl⟩:=List.mem_map.1 ht
  have:=h.nz u hu
  show u.2*r≠0
  rw[ne_eq,Rat.mul_eq_zero]
  rintro(e | e)
  ·exact this e
  ·exact hr e
theorem Hw1 {l:Nat→Iv} {p:List Tm} (h:Av6 p) (r:Rat):Aq8 l (Ag2 (pmap p r))=De8 (Aq8 l p) r:=by
 rw[Gc3,Gc3]
 by_cases hr:r=0
 ·subst hr
  rw[(Ce8 _).uniq Av6.nil fun m=>by rw[Bh2,Hw3];rfl,Hu5]
  rfl
 ·rw[(Ce8 (pmap p r)).uniq (Hw5 h hr) fun m=>Bh2 _ m]
  exact Hw8 l r p
theorem Hx2 (l:Nat→Iv) (p q:List Tm):Ft1 (Aq8 l (Ag2 (p ++ q))) (Cb5 (Aq8 l p) (Aq8 l q)):=by
 rw[Gc3,Gc3,Gc3]
 exact Hx4 l p q
theorem Hy0 {L:List (Mon×ByteArray)} {exp:Int} {p:List Tm} (h:Ff1 L exp p):Bd 90 p:=by
 have hl:=h.len
 refine(Bd.Co7 (k:=4) fun t ht=>?_).mono (by omega)
 obtain⟨x,hx,_,hq,_⟩:=Fa5 h.1.1 ht
 exact Ct3 hq (h.2.2 x hx).1
theorem Hu8 {W0:PW} {M:Nat→Prop} {s u sb:Sl} {L Lu:List (Mon×ByteArray)} {Lt:List (ByteArray×ByteArray)} {r:ByteArray} (hT:Ac6 W0) (h:Af3 W0 s L) (hu:Af3 W0 u Lu) (hb:Bs7 W0 sb Lt) (hl:L.length≤1099511627776) (hz: ∀t∈L,t.2.size≤1099511627776) (hlu:Lu.length≤1099511627776) (hzu: ∀t∈Lu,t.2.size≤1099511627776) (hl2:Lt.length≤1099511627776) (hz2: ∀t∈Lt,t.1.size≤1099511627776∧t.2.size≤1099511627776) (hr:r.size≤1099511627776):
  Aa0 Tryz.prog 4 [s.v,u.v,sb.v,.string r] W0 M fun v W'=>v = .bool true∧True:=by
 apply Ht5
 have alv: ∀{W:PW},Ac6 W→Aa1 Tryz.prog W0 M 16 [] W fun v11 W12=>∃b13:Bool,v11 = .bool b13∧∀(W14:PW),Ext W12 W14→Value.bool b13 = .bool true∧True:=fun hT=>Ba2 hT fun W12 _ _=>⟨true,rfl,fun W14 _=>⟨rfl,trivial⟩⟩
 refine Dn6 h hl hz fun s3 s4 b5 W2 hE2 hp=>⟨s3,s4,b5,rfl,?_⟩
 refine Dn6 (hu.ext hE2) hlu hzu fun s8 s9 b10 W7 hE7 hq=>⟨s8,s9,b10,rfl,?_⟩
 refine Gb4 (hT.ext (hE2.trans hE7)) (hb.ext (hE2.trans hE7)) hl2 hz2 fun s13 s14 b15 W12 hE12 hbx=>⟨s13,s14,b15,rfl,?_⟩
 have E12:=hE2.trans (hE7.trans hE12)
 refine Hu1 hr (by decide) (by decide) fun s18 b19 s20 s21 b22 s23 s24 b25 s26 b27 s28 s29 b30 s31 s32 b33 s34 s35 b36 W17 hE17 g3=>⟨s18,b19,s20,s21,b22,s23,s24,b25,s26,b27,s28,s29,b30,s31,s32,b33,s34,s35,b36,rfl,?_⟩
 have T17:=hT.ext (E12.trans hE17)
 refine⟨fun _=>alv T17,fun h5=>⟨fun _=>alv T17,fun h15=>⟨fun _=>alv T17,fun h36=>⟨fun _=>alv T17,fun h10=>Ba2 T17 fun W54 hE54 _=>⟨true,rfl,fun e=>(by cases e),fun _=>?_⟩⟩⟩⟩⟩
 obtain⟨p,op,p1,_⟩:=hp (by simpa using h5)
 obtain⟨q,oq,q1,_⟩:=hq (by simpa using h10)
 obtain⟨bs,x1,_,hBox,hk⟩:=hbx (by simpa using h15)
 obtain⟨w,hw,⟨c0,_,_⟩,_⟩:=g3 (by simpa using h36)
 have c0:Ab3 284 W17 s18 b19 s20 w.x:=c0
 have zr:Sz 3 w.x:=hw 0
 have E54:=hE17.trans hE54
 have p1:=p1.ext (hE7.trans (hE12.trans E54))
 have q1:=q1.ext (hE12.trans E54)
 have x1:=x1.ext E54
 have c0:=c0.ext hE54
 have T54:=T17.ext hE54
 have lp:=op.len
 have lq:=oq.len
 have hn:=x1.n
 have hbl:=hBox.1
 refine Co3 p1 (by omega) fun W61 hE61 _=>⟨_,rfl,fun _=>alv (T54.ext hE61),fun hv=>?_⟩
 refine Co3 (q1.ext hE61) (by omega) fun W68 hE68 _=>⟨_,rfl,fun _=>alv (T54.ext (hE61.trans hE68)),fun hv2=>?_⟩
 have sp:An3 p bs:=⟨hBox,by omega⟩
 have sq:An3 q bs:=⟨hBox,by omega⟩
 have bp:=Hy0 op
 have bq:=Hy0 oq
 have zp:BxN 90 4 p bs:=⟨bp,hk,p1.ok,by omega,by omega,by omega,by omega⟩
 have zq:BxN 90 4 q bs:=⟨bq,hk,q1.ok,by omega,by omega,by omega,by omega⟩
 have E68:=hE61.trans hE68
 refine Bi4 (p1.ext E68) (x1.ext E68) zp fun l W75 hE75 h75=>h75.Ge9 fun s76 b77 s78 s79 b80 s81 h75=>?_
 have E75:=E68.trans hE75
 refine Bi4 (q1.ext E75) (x1.ext E75) zq fun l W84 hE84 h84=>h84.Ge9 fun s85 b86 s87 s88 b89 s90 h84=>?_
 have E84:=E75.trans hE84
 refine Cw8 (p1.ext E84) (q1.ext E84) bp bq (by omega) (by omega) (by omega) fun s94 W93 hE93 h93=>⟨s94,rfl,?_⟩
 have E93:=E84.trans hE93
 have hsl:=El2 (p ++ q)
 rw[List.length_append] at hsl
 have zs:BxN 181 4 (Ag2 (p ++ q)) bs:=⟨(bp.append bq).norm.mono (by omega),hk,h93.ok,by omega,by omega,by omega,by omega⟩
 have ss:An3 (Ag2 (p ++ q)) bs:=⟨hBox,by
  have:=Hx1 (w:=Cx8) (n:=0) (p:=p) (q:=q)
  unfold mx at this
  have h1:=sp.2
  have h2:=sq.2
  split at this<;>omega⟩
 refine Bi4 h93 (x1.ext E93) zs fun l W96 hE96 h96=>h96.Ge9 fun s97 b98 s99 s100 b101 s102 h96=>⟨⟨by omega,by omega⟩,?_⟩
 have E96:=E93.trans hE96
 refine Cb0 (p1.ext E96) (c0.ext E96) bp zr (by omega) (by omega) (by omega) fun s106 W105 hE105 h105=>⟨s106,rfl,?_⟩
 have E105:=E96.trans hE105
 have hml:=El2 (pmap p w.x)
 rw[Ew2] at hml
 have zm:BxN 93 4 (Ag2 (pmap p w.x)) bs:=⟨(Bd.pmap bp zr).norm.mono (by omega),hk,h105.ok,by omega,by omega,by omega,by omega⟩
 have sm:An3 (Ag2 (pmap p w.x)) bs:=⟨hBox,Hx0 (by omega) fun t ht=>by
  obtain⟨u,hu,e⟩:=Gu2 ht
  obtain⟨v,hv,rfl⟩:=List.mem_map.1 hu
  rw[e]
  exact Int.le_trans ((Hv3 (w:=Cx8) (n:=0)).2 v hv) sp.2⟩
 refine Bi4 h105 (x1.ext E105) zm fun l W108 hE108 h108=>h108.Ge9 fun s109 b110 s111 s112 b113 s114 h108=>?_
 rw[if_pos sp] at h75
 rw[if_pos sq] at h84
 rw[if_pos ss] at h96
 rw[if_pos sm,Hw1 op.1.Aq3] at h108
 refine⟨fun _=>⟨fun _=>⟨fun _=>⟨fun _=>?_,fun e=>absurd e (by rw[decide_eq_true sm];decide)⟩,fun e=>absurd e (by rw[decide_eq_true ss];decide)⟩,fun e=>absurd e (by rw[decide_eq_true sq];decide)⟩,fun e=>absurd e (by rw[decide_eq_true sp];decide)⟩
 have op1:=(zp.over.mono (show _≤100000 by omega)).sz
 have oq1:=(zq.over.mono (show _≤100000 by omega)).sz
 have os1:=(zs.over.mono (show _≤1000000 by omega)).sz
 have oa1:=((zp.over.add zq.over).mono (show _≤1000000 by omega)).sz
 have oc1:=((zp.over.scale zr).mono (show _≤1000000 by omega)).sz
 have F:=hE84.trans (hE93.trans (hE96.trans (hE105.trans hE108)))
 refine Cy0 (h75.ext F) (h84.ext (hE93.trans (hE96.trans (hE105.trans hE108)))) op1 oq1 (by omega) fun l W117 hE117 h117=>h117.out fun s118 b119 s120 s121 b122 s123 h117=>?_
 refine Fx1 (h96.ext (hE105.trans (hE108.trans hE117))) h117 os1 oa1 (by omega) fun W125 hE125 _=>⟨_,rfl,fun _=>⟨⟨by omega,by omega⟩,?_⟩,fun e=>absurd (Hx2 _ p q) (of_decide_eq_false e)⟩
 have G:=hE117.trans hE125
 refine Hu2 (h75.ext (F.trans G)) (c0.ext (E105.trans (hE108.trans G))) op1 (zr.mono (by omega)) (by omega) fun l W128 hE128 h128=>h128.out fun s129 b130 s131 s132 b133 s134 h128=>?_
 refine Hu6 (h108.ext (G.trans hE128)) h128 oc1 oc1 (by omega) fun W136 hE136 _=>⟨_,rfl,fun W138 _=>⟨congrArg Value.bool (decide_eq_true rfl),trivial⟩⟩
end Go.Proofs.YtjkkidjbppphpaaGreatDoor
/- An argument that is a slice of terms with texts, opened. -/
namespace Go.Proofs.YtjkkidjbppphpaaGreatDoor
open Go Go.SX Go.ChangeShapes Go.WideShapes Go.ChangeAt Go.RowKit Go.Deep
instance:Inhabited (Mon×ByteArray):=⟨(⟨0,0,0⟩,⟨#[]⟩)⟩
theorem Cd6:Tryz.prog.cellsOf 194=4:=by kernel_rfl
theorem Dv1:Tryz.prog.cellsOf 163=3:=by kernel_rfl
theorem Ew8:Tryz.prog.cellsOf 5=1:=by kernel_rfl
theorem Fg4 {n:Int} (h:(Lit.int .u8 n).wf=true):0≤n∧n≤255:=by
 simp[Lit.wf,IntKind.min,IntKind.max,IntKind.bits,IntKind.signed] at h
 omega
theorem Er8 {H:Type} {enc:TypeId×Value→H} {W:World} {fuel:Nat} {cs:List Value} {x:DataW H×List MemPlace} (h:DataW.trod enc Tryz.prog W 0 (fun _=>true) true fuel 194 cs=some x):
  ∃t:Mon×ByteArray,AT cs t∧t.2.size≤Rows.uptoBulk x.1:=by
 obtain⟨xs,k,rfl,rfl,hl,hxl,hf⟩:=DataW.trod_struct Tryz.underlying194 h
 rw[Cd6] at hl
 have g0:DataW.trod enc Tryz.prog W 0 (fun _=>true) true k 163 ((cs.drop 0).take (Tryz.prog.cellsOf 163))=xs[0]?:=hf 0 _ rfl
 have g1:DataW.trod enc Tryz.prog W 0 (fun _=>true) true k 9 ((cs.drop 3).take (Tryz.prog.cellsOf 9))=xs[1]?:=hf 1 _ rfl
 rw[Dv1] at g0
 rw[Ct5] at g1
 match cs,hl,xs,hxl with
 | [v0,v1,v2,v3],_,[y0,y1],_=>
  have g0:DataW.trod enc Tryz.prog W 0 (fun _=>true) true k 163 [v0,v1,v2]=some y0:=g0
  have g1:DataW.trod enc Tryz.prog W 0 (fun _=>true) true k 9 [v3]=some y1:=g1
  obtain⟨zs,m,rfl,rfl,_,hzl,hz⟩:=DataW.trod_array Tryz.underlying163 g0
  obtain⟨s,hs,rfl,hsz⟩:=DataW.trod_string Tryz.underlying9 g1
  have e0:=hz 0 (by omega)
  have e1:=hz 1 (by omega)
  have e2:=hz 2 (by omega)
  rw[Ew8] at e0 e1 e2
  match zs,hzl with
  | [w0,w1,w2],_=>
   have e0:DataW.trod enc Tryz.prog W 0 (fun _=>true) true m 5 [v0]=some w0:=e0
   have e1:DataW.trod enc Tryz.prog W 0 (fun _=>true) true m 5 [v1]=some w1:=e1
   have e2:DataW.trod enc Tryz.prog W 0 (fun _=>true) true m 5 [v2]=some w2:=e2
   obtain⟨n0,h0,_,k0⟩:=DataW.trod_int Tryz.underlying5 e0
   obtain⟨n1,h1,_,k1⟩:=DataW.trod_int Tryz.underlying5 e1
   obtain⟨n2,h2,_,k2⟩:=DataW.trod_int Tryz.underlying5 e2
   have hs: [v3] = [Value.string s]:=hs
   have h0: [v0] = [Value.int .u8 n0]:=h0
   have h1: [v1] = [Value.int .u8 n1]:=h1
   have h2: [v2] = [Value.int .u8 n2]:=h2
   simp only[List.cons.injEq,and_true] at hs h0 h1 h2
   subst hs h0 h1 h2
   refine⟨(⟨n0,n1,n2⟩,s),⟨⟨Fg4 k0,Fg4 k1,Fg4 k2⟩,rfl⟩,?_⟩
   have e:s.data.toList.length=s.size:=by rw[Array.length_toList];rfl
   simp only[List.map_cons,List.map_nil,Rows.uptoBulk,Rows.uptoBulkAll]
   omega
theorem Et3 {n:Nat} {V:Nat→List Value} {y:Nat→Mon×ByteArray} (h: ∀i,i<n→AT (V i) (y i)):An5 AT ((List.range n).map V) ((List.range n).map y):=by
 induction n with
 | zero=>trivial
 | succ n ih=>
  rw[List.range_succ,List.map_append,List.map_append]
  exact(ih fun i hi=>h i (by omega)).append ⟨h n (by omega),trivial⟩
theorem Dt5 {H:Type} {enc:TypeId×Value→H} {W:World} {fuel:Nat} {v:Value} {d:DataW H} {p:List MemPlace} (h:DataW.trod enc Tryz.prog W 0 (fun _=>true) true fuel 22 [v]=some (d,p)):
  ∃(s:Sl) (L:List (Mon×ByteArray)),v=s.v∧Af3 ⟨W,fun _=>False⟩ s L∧L.length≤Rows.uptoBulk d∧∀t∈L,t.2.size≤Rows.uptoBulk d:=by
 rcases open_slice Tryz.underlying22 h with⟨hcs,hx⟩ | ⟨a,len,cap,m,n,D,Pl,hcs,_,hl,hm,hmm,hx,hcell⟩
 ·have hv:v = .slice none 0 0:=by simpa using hcs
  subst hv
  exact⟨⟨none,0,0⟩,[],rfl,⟨[],⟨0,rfl,Nat.le_refl _,Nat.zero_le _,fun x h=>by simp at h,.inl rfl⟩,trivial⟩,Nat.zero_le _,fun l h=>by simp at h⟩
 ·have hv:v = .slice (some a) len cap:=by simpa using hcs
  subst hv
  simp only[if_true] at hmm
  subst hmm
  simp only[Prod.mk.injEq] at hx
  obtain⟨rfl,_⟩:=hx
  rw[Cd6] at hcell
  obtain⟨q,hq⟩: ∃q:Nat→List Value×(Mon×ByteArray),∀i,i<m→W.cells? 0 (a.add (i*4)) 4=some (q i).1∧AT (q i).1 (q i).2∧(q i).2.2.size≤Rows.uptoBulk (D i):=choose_lt (α:=List Value×(Mon×ByteArray)) (p:=fun i q=>W.cells? 0 (a.add (i*4)) 4=some q.1∧AT q.1 q.2∧q.2.2.size≤Rows.uptoBulk (D i)) fun i hi=>by
   obtain⟨cs',h1,h2⟩:=hcell i hi
   obtain⟨t,h3,h4⟩:=Er8 h2
   exact⟨(cs',t),h1,h3,h4⟩
  have hr:=Bz7 (W:=W) (a:=a) (n:=len) (c:=m) (sz:=4) (V:=fun i=>(q i).1) (fun j hj i v hv=>by
   obtain⟨_,hlen,hc⟩:=World.cells?_some (hq j (by omega)).1
   have hi:i<4:=by have:=(List.getElem?_eq_some_iff.1 hv).1;omega
   have:=hc i hi
   rw[add_add] at this
   rw[this];exact hv) (fun j hj=>(World.cells?_some (hq j (by omega)).1).2.1) (by omega) hl hm (fun j hj u hu=>by
   rw[(hq j (by omega)).2.1.2] at hu
   simp only[List.mem_cons,List.not_mem_nil,or_false] at hu
   rcases hu with rfl | rfl | rfl | rfl<;>rfl)
  have hbulk: ∀i,i<len→Rows.uptoBulk (D i)≤Rows.uptoBulkAll ((List.range len).map D):=fun i hi=>Eo6 (List.mem_map.2 ⟨i,List.mem_range.2 hi,rfl⟩)
  have hlen:=Dj1 ((List.range len).map D)
  simp only[List.length_map,List.length_range] at hlen
  refine⟨⟨some a,len,m⟩,(List.range len).map fun i=>(q i).2,rfl,⟨_,hr,Et3 fun i hi=>(hq i (by omega)).2.1⟩,?_,fun t ht=>?_⟩
  ·simp only[List.length_map,List.length_range,Rows.uptoBulk]
   omega
  ·obtain⟨j,hj,rfl⟩:=List.mem_map.1 ht
   have hj':=List.mem_range.1 hj
   have h1:=hbulk j hj'
   have h2:=(hq j (by omega)).2.2
   simp only[Rows.uptoBulk]
   omega
end Go.Proofs.YtjkkidjbppphpaaGreatDoor
