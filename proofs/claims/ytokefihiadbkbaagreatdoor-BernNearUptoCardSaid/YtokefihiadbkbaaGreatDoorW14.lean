/- cincturelaw8.Point. -/
import Derived.Test.YtokefihiadbkbaaGreatDoorW10
import Derived.Test.YtokefihiadbkbaaGreatDoorW5
import Derived.Test.YtokefihiadbkbaaGreatDoorW13
import Derived.Test.YtokefihiadbkbaaGreatDoorR19
import Derived.Test.YtokefihiadbkbaaGreatDoorW12
import Derived.Test.YtokefihiadbkbaaGreatDoorCards
import Derived.Test.YtokefihiadbkbaaGreatDoorTie
import Derived.Deep.DeepHandedRow
import Derived.Lib.LaidTab
import Derived.Test.YtokefihiadbkbaaGreatDoorLib4
set_option linter.unusedVariables false
set_option linter.unusedSimpArgs false
set_option maxRecDepth 100000
namespace Go.Proofs.YtokefihiadbkbaaGreatDoor
open Go Go.SX
def vS:Value→Sl
 | .slice a n c=>⟨a,n,c⟩
 | _=>⟨none,0,0⟩
def vB:Value→Bool
 | .bool b=>b
 | _=>false
def vat (c:List Value) (i:Nat):Value:=c.getD i (.bool false)
def Hx8 (W:PW) (c d:List Value) (u:Pt):Prop:=
 (∀k,Sz 3 (u.get k))∧
 (Ab3 231 W (vS (vat c 0)) (vB (vat c 1)) (vS (vat c 2)) u.x∧Ab3 231 W (vS (vat c 3)) (vB (vat c 4)) (vS (vat c 5)) u.y∧Ab3 231 W (vS (vat c 6)) (vB (vat c 7)) (vS (vat c 8)) u.z)∧
 (Ab6 231 W (vB (vat d 0)) (vS (vat d 1)) (vS (vat d 2)) u.x∧Ab6 231 W (vB (vat d 3)) (vS (vat d 4)) (vS (vat d 5)) u.y∧Ab6 231 W (vB (vat d 6)) (vS (vat d 7)) (vS (vat d 8)) u.z)
theorem Hx8.ext {W W':PW} {c d:List Value} {u:Pt} (h:Hx8 W c d u) (e:Ext W W'):Hx8 W' c d u:=
 ⟨h.1,⟨h.2.1.1.ext e,h.2.1.2.1.ext e,h.2.1.2.2.ext e⟩,⟨h.2.2.1.ext e,h.2.2.2.1.ext e,h.2.2.2.2.ext e⟩⟩
def Hx9 (ok:Bool) (W:PW) (c d:List Value):Prop:=ok=true→∃u:Pt,Hx8 W c d u
def Hx6 (W0:PW) (l:List PL) (W:PW):Prop:=match l with
 | [.val (.int .i64 i),.cells _,.cells _,.cells c,.cells d]=>∃(j:Nat) (u:Pt),i=(j:Int)∧j≤3∧Ext W0 W∧Hx8 W c d u
 | _=>False
def Hx5 (l:List PL) (_:PW):Nat:=match l with
 | .val (.int .i64 i) :: _=>(3-i).toNat
 | _=>0
theorem Pt.sz {a b c:Rat} (ha:Sz 3 a) (hb:Sz 3 b) (hc:Sz 3 c): ∀k,Sz 3 ((Pt.mk a b c).get k):=fun k=>by
 unfold Pt.get
 split
 ·exact ha
 ·split
  ·exact hb
  ·exact hc
theorem Hv1 {W0:PW} {M:Nat→Prop} {a b c:ByteArray} (ha:a.size≤1099511627776) (hb:b.size≤1099511627776) (hc:c.size≤1099511627776):
  Aa0 Tryz.prog 42 [.agg ⟨[.string a,.string b,.string c]⟩] W0 M fun v W'=>∃(s0:Sl),∃(b0:Bool),∃(t0:Sl),∃(s1:Sl),∃(b1:Bool),∃(t1:Sl),∃(s2:Sl),∃(b2:Bool),∃(t2:Sl),∃(e0:Bool),∃(p0:Sl),∃(q0:Sl),∃(e1:Bool),∃(p1:Sl),∃(q1:Sl),∃(e2:Bool),∃(p2:Sl),∃(q2:Sl),∃(ok:Bool),v = .tuple ⟨[.agg ⟨[Sl.v s0,.bool b0,Sl.v t0,Sl.v s1,.bool b1,Sl.v t1,Sl.v s2,.bool b2,Sl.v t2]⟩,.agg ⟨[.bool e0,Sl.v p0,Sl.v q0,.bool e1,Sl.v p1,Sl.v q1,.bool e2,Sl.v p2,Sl.v q2]⟩,.bool ok]⟩∧Hx9 ok W' [Sl.v s0,.bool b0,Sl.v t0,Sl.v s1,.bool b1,Sl.v t1,Sl.v s2,.bool b2,Sl.v t2] [.bool e0,Sl.v p0,Sl.v q0,.bool e1,Sl.v p1,Sl.v q1,.bool e2,Sl.v p2,Sl.v q2]:=by
 apply Hu4
 refine⟨Hx6 W0,Hx5,⟨0,⟨0,0,0⟩,rfl,by omega,Ext.refl _,Pt.sz (Sz.zero (by omega)) (Sz.zero (by omega)) (Sz.zero (by omega)),⟨Ef0 W0,Ef0 W0,Ef0 W0⟩,⟨Dv5 W0,Dv5 W0,Dv5 W0⟩⟩,?_⟩
 rintro s3 b4 s5 s6 b7 s8 s9 b10 s11 b12 s13 s14 b15 s16 s17 b18 s19 s20 s21 b22 s23 s24 b25 s26 s27 b28 s29 b30 s31 s32 b33 s34 s35 b36 s37 s38 i39 W40 ⟨j,u,rfl,hj,hE,hI⟩
 refine⟨fun hlt=>?_,fun hge W54 hE54=>⟨s21,b22,s23,s24,b25,s26,s27,b28,s29,b30,s31,s32,b33,s34,s35,b36,s37,s38,true,rfl,fun _=>⟨u,hI.ext hE54⟩⟩⟩
 have hj3:j<3:=by omega
 obtain⟨t,hbt,hts⟩: ∃t:ByteArray,As9 [.string a,.string b,.string c] (0+Int.toNat (j:Int)*1+0) [.string t]∧t.size≤1099511627776:=by
  rcases(show j=0∨j=1∨j=2 by omega) with rfl | rfl | rfl
  ·exact⟨a,⟨by simp,rfl⟩,ha⟩
  ·exact⟨b,⟨by simp,rfl⟩,hb⟩
  ·exact⟨c,⟨by simp,rfl⟩,hc⟩
 refine⟨⟨by omega,hlt⟩,t,hbt,Go0 hts fun s44 b45 s46 b47 s48 s49 W43 hE43 ⟨hq,hq2⟩=>⟨s44,b45,s46,b47,s48,s49,_,rfl,fun hs W51 hE51=>⟨s21,b22,s23,s24,b25,s26,s27,b28,s29,b30,s31,s32,b33,s34,s35,b36,s37,s38,false,rfl,fun h=>by cases h⟩,fun hs=>⟨⟨by omega,hlt⟩,t,hbt,fun h16 W53 hE53=>⟨s21,b22,s23,s24,b25,s26,s27,b28,s29,b30,s31,s32,b33,s34,s35,b36,s37,s38,false,rfl,fun h=>by cases h⟩,fun h16=>?_⟩⟩⟩
 obtain⟨q,hq'⟩:=Option.isSome_iff_exists.1 (show(Gp3 t).isSome=true by simpa using hs)
 rw[hq'] at hq hq2
 have hq:Ab3 231 W43 s44 b45 s46 q:=hq
 have hq2:Ab6 231 W43 b47 s48 s49 q:=hq2
 have hsq:Sz 3 q:=by
  unfold Gp3 at hq'
  rw[if_pos (by omega)] at hq'
  exact(Aw6 hq').2 (by omega)
 obtain⟨hz,⟨c0,c1,c2⟩,⟨d0,d1,d2⟩⟩:=hI.ext hE43
 have z0:Sz 3 u.x:=hz 0
 have z1:Sz 3 u.y:=hz 1
 have z2:Sz 3 u.z:=hz 2
 have hE':=hE.trans hE43
 refine⟨⟨by omega,hlt⟩,by omega,⟨⟨trivial,fun e=>?_⟩,fun e=>?_⟩,fun e=>?_⟩
 ·refine⟨⟨by omega,hlt⟩,by omega,⟨⟨trivial,fun _=>⟨by unfold I64;omega,⟨j+1,⟨q,u.y,u.z⟩,by push_cast;rfl,by omega,hE',Pt.sz hsq z1 z2,⟨hq,c1,c2⟩,⟨hq2,d1,d2⟩⟩,by show(3-((j:Int)+1)).toNat<(3-(j:Int)).toNat;omega⟩⟩,fun f=>(by omega)⟩,fun f=>(by omega)⟩
 ·refine⟨⟨by omega,hlt⟩,by omega,⟨⟨trivial,fun f=>(by omega)⟩,fun _=>⟨by unfold I64;omega,⟨j+1,⟨u.x,q,u.z⟩,by push_cast;rfl,by omega,hE',Pt.sz z0 hsq z2,⟨c0,hq,c2⟩,⟨d0,hq2,d2⟩⟩,by show(3-((j:Int)+1)).toNat<(3-(j:Int)).toNat;omega⟩⟩,fun f=>(by omega)⟩
 ·refine⟨⟨by omega,hlt⟩,by omega,⟨⟨trivial,fun f=>(by omega)⟩,fun f=>(by omega)⟩,fun _=>⟨by unfold I64;omega,⟨j+1,⟨u.x,u.y,q⟩,by push_cast;rfl,by omega,hE',Pt.sz z0 z1 hsq,⟨c0,c1,hq⟩,⟨d0,d1,hq2⟩⟩,by show(3-((j:Int)+1)).toNat<(3-(j:Int)).toNat;omega⟩⟩
theorem Hu1 {W0 W:PW} {M:Nat→Prop} {a b c:ByteArray} {K:Value→PW→Prop} (ha:a.size≤1099511627776) (hb:b.size≤1099511627776) (hc:c.size≤1099511627776) (kont: ∀(s0:Sl) (b0:Bool) (t0:Sl) (s1:Sl) (b1:Bool) (t1:Sl) (s2:Sl) (b2:Bool) (t2:Sl) (e0:Bool) (p0:Sl) (q0:Sl) (e1:Bool) (p1:Sl) (q1:Sl) (e2:Bool) (p2:Sl) (q2:Sl) (ok:Bool) (W':PW),Ext W W'→(Hx9 ok W' [Sl.v s0,.bool b0,Sl.v t0,Sl.v s1,.bool b1,Sl.v t1,Sl.v s2,.bool b2,Sl.v t2] [.bool e0,Sl.v p0,Sl.v q0,.bool e1,Sl.v p1,Sl.v q1,.bool e2,Sl.v p2,Sl.v q2])→K (.tuple ⟨[.agg ⟨[Sl.v s0,.bool b0,Sl.v t0,Sl.v s1,.bool b1,Sl.v t1,Sl.v s2,.bool b2,Sl.v t2]⟩,.agg ⟨[.bool e0,Sl.v p0,Sl.v q0,.bool e1,Sl.v p1,Sl.v q1,.bool e2,Sl.v p2,Sl.v q2]⟩,.bool ok]⟩) W'):
  Aa1 Tryz.prog W0 M 42 [.agg ⟨[.string a,.string b,.string c]⟩] W K:=
 Aa2 (fun W' hE=>Hv1 (M:=fun _=>False) ha hb hc) (fun W' v W'' hE hE' hP=>by
  obtain⟨s0,b0,t0,s1,b1,t1,s2,b2,t2,e0,p0,q0,e1,p1,q1,e2,p2,q2,ok,rfl,h⟩:=hP
  exact kont s0 b0 t0 s1 b1 t1 s2 b2 t2 e0 p0 q0 e1 p1 q1 e2 p2 q2 ok W'' (hE.trans hE') h)
end Go.Proofs.YtokefihiadbkbaaGreatDoor
/- cincturelaw10.BernNear. -/
namespace Go.Proofs.YtokefihiadbkbaaGreatDoor
open Go Go.SX
def plE (zs:List Int) (e:Nat→Nat):Nat→Nat
 | 0=>0
 | k+1=>plE zs e k+e k*stN zs k
theorem Js0 {zs:List Int} {e:Nat→Nat} : ∀k,(∀i,i<k→e i<tpN zs i)→plE zs e k<stN zs k
 | 0,_=>Nat.one_pos
 | k+1,h=>by
  have h1:=Js0 k fun i hi=>h i (by omega)
  have h2:(e k+1)*stN zs k≤tpN zs k*stN zs k:=Nat.mul_le_mul_right _ (h k (by omega))
  rw[Nat.add_mul,Nat.one_mul] at h2
  rw[plE,stN,Nat.mul_comm (stN zs k)]
  omega
theorem Js3 {zs:List Int} {e:Nat→Nat} : ∀n,(∀i,i<n→e i<tpN zs i)→∀j,j<n→dig zs j (plE zs e n)=e j
 | 0,_,j,hj=>absurd hj (Nat.not_lt_zero _)
 | n+1,h,j,hj=>by
  have h1:=Js0 n fun i hi=>h i (by omega)
  rw[plE]
  by_cases e1:j=n
  ·subst e1
   have:=(Iv5 (st:=stN zs j) (n:=tpN zs j) (c:=0) (Ie2 zs j) h1 (h j (by omega))).2.1
   rw[Nat.mul_zero,Nat.zero_add] at this
   exact this
  ·rw[Jh2 (by omega)]
   exact Js3 n (fun i hi=>h i (by omega)) j (by omega)
def ptF (f:Nat→Rat):Pt:=⟨f 0,f 1,f 2⟩
theorem Jy1 (f:Nat→Rat) {j:Nat} (hj:j<3):(ptF f).get j=f j:=by
 rcases(by omega:j=0∨j=1∨j=2) with rfl | rfl | rfl<;>rfl
theorem Jy3 (w:Pt) {n:Nat} (hn:n≤3):Gk4 1 (Hy3 w n):=fun t ht=>by
 obtain⟨i,hi,e⟩:=Hy8 w n hn t ht
 rw[e]
 rcases(by omega:i=0∨i=1∨i=2) with rfl | rfl | rfl<;>decide
theorem Jy0 {bs:List Iv} (hB:Cn7 bs) (w:Pt):An3 (Hy3 w bs.length) bs:=⟨hB,Hx0 (by omega) fun t ht=>by
 obtain⟨i,hi,e⟩:=Hy8 w bs.length hB.1.2 t ht
 have:=hB.1.2
 rw[e]
 rcases(by omega:i=0∨i=1∨i=2) with rfl | rfl | rfl
 ·show(1:Int)≤_;omega
 ·show(2:Int)≤_;omega
 ·show(3:Int)≤_;omega⟩
theorem Jy5 {bs:List Iv} (hB:Cn7 bs) (w:Pt):Ii7 (Hy3 w bs.length) bs:=⟨Jy0 hB w,Jp2 (Jy3 w hB.1.2) (by omega) (by omega) hB⟩
theorem Jy7 {bs:List Iv} (hB:Cn7 bs) (w:Pt):Jo0 (Jk3 (Hy3 w bs.length) bs) (stN (Ie8 (Hy3 w bs.length) bs.length) bs.length)=Aq8 (Bm3 bs) (Hy3 w bs.length):=by
 have hn:=hB.1.2
 have hord: ∀x∈bs,x.1≤x.2:=fun x hx=>Rat.le_of_lt (hB.2 x hx)
 have ho:=Ey5 hord
 have hc:=Jy5 hB w
 have hg:=Hy6 w bs.length
 have hk:=Ib3 w hn
 have hl:=Io1 (Hy3 w bs.length) bs.length
 have tp: ∀j,j<bs.length→tpN (Ie8 (Hy3 w bs.length) bs.length) j≤2:=fun j hj=>by
  have h1:j<(Ie8 (Hy3 w bs.length) bs.length).length:=by omega
  have h2:=Ih5 h1 (hc.2.1 _ (List.getElem_mem h1)).1
  rw[Is2 h1] at h2
  have:=Jn5 (Jy3 w hn) (by omega) (j:Int)
  omega
 have cor: ∀(b:Nat→Bool) (k:Nat),k<stN (Ie8 (Hy3 w bs.length) bs.length) bs.length→(∀j,j<bs.length→dig (Ie8 (Hy3 w bs.length) bs.length) j k=if b j=true then tpN (Ie8 (Hy3 w bs.length) bs.length) j-1 else 0)→Jk3 (Hy3 w bs.length) bs k=atQ (ptF fun j=>if b j=true then(Bm3 bs j).2 else(Bm3 bs j).1) (Hy3 w bs.length):=fun b k hk' hd=>
  Js2 hg hk hc hk' hd fun j hj=>Jy1 _ (by omega)
 have key: ∀k,k<stN (Ie8 (Hy3 w bs.length) bs.length) bs.length→inI (Aq8 (Bm3 bs) (Hy3 w bs.length)) (Jk3 (Hy3 w bs.length) bs k):=fun k hk'=>by
  rw[cor (fun j=>decide (dig (Ie8 (Hy3 w bs.length) bs.length) j k≠0)) k hk' fun j hj=>by
   have h1:=tp j hj
   have h2:=Jq8 (Ie8 (Hy3 w bs.length) bs.length) j k
   by_cases e:dig (Ie8 (Hy3 w bs.length) bs.length) j k=0
   ·rw[if_neg (by simpa using e),e]
   ·rw[if_pos (by simpa using e)];omega]
  refine Hq8 (fun i hi=>?_) _
  rw[Jy1 _ hi]
  split
  ·exact⟨ho i,Rat.le_refl⟩
  ·exact⟨Rat.le_refl,ho i⟩
 have le1:=Ju1 (key 0 (Jk0 _ _)) _ key
 have ends: ∀b:Nat→Bool,∃k,k<stN (Ie8 (Hy3 w bs.length) bs.length) bs.length∧Jk3 (Hy3 w bs.length) bs k=Ia6 (ptF fun j=>if b j=true then(Bm3 bs j).2 else(Bm3 bs j).1) w bs.length:=fun b=>by
  have he: ∀i,i<bs.length→(fun j=>if b j=true then tpN (Ie8 (Hy3 w bs.length) bs.length) j-1 else 0) i<tpN (Ie8 (Hy3 w bs.length) bs.length) i:=fun i _=>by
   have:=Ie4 (Ie8 (Hy3 w bs.length) bs.length) i
   dsimp only
   split<;>omega
  exact⟨_,Js0 bs.length he,by rw[cor b _ (Js0 bs.length he) fun j hj=>Js3 bs.length he j hj,Hz6 _ _ _ hn]⟩
 obtain⟨k1,q1,e1⟩:=ends fun j=>decide (w.get j<0)
 obtain⟨k2,q2,e2⟩:=ends fun j=>decide (¬w.get j<0)
 have hcn:=Ic5 ho w (u:=ptF fun j=>if decide (w.get j<0)=true then(Bm3 bs j).2 else(Bm3 bs j).1) (v:=ptF fun j=>if decide (¬w.get j<0)=true then(Bm3 bs j).2 else(Bm3 bs j).1) bs.length fun i hi=>by
  rw[Jy1 _ (by omega),Jy1 _ (by omega)]
  unfold loC hiC
  by_cases h:w.get i<0
  ·rw[if_pos h,if_pos h,if_pos (by simpa using h),if_neg (by simpa using h)]
   exact⟨rfl,rfl⟩
  ·rw[if_neg h,if_neg h,if_neg (by simpa using h),if_pos (by simpa using h)]
   exact⟨rfl,rfl⟩
 have r1:=Jn3 (F:=Jk3 (Hy3 w bs.length) bs) _ k1 q1
 have r2:=Jn3 (F:=Jk3 (Hy3 w bs.length) bs) _ k2 q2
 rw[e1,hcn.1,←Ia4 ho w hn] at r1
 rw[e2,hcn.2,←Ia4 ho w hn] at r2
 exact Prod.ext (Rat.le_antisymm r1.1 le1.1) (Rat.le_antisymm le1.2 r2.2)
def nrI (W0:PW) (w:Pt) (n:Nat) (L:List PL) (W:PW):Prop:=match L with
 | [.val (.int .i64 i),.cells c]=>∃(j:Nat) (sp:Sl),i=(j:Int)∧j≤n∧Ext W0 W∧c = [sp.v]∧Ab0 231 138 W sp (Hy3 w j)
 | _=>False
theorem Jy2 {W0:PW} {M:Nat→Prop} {a b c:ByteArray} {sb:Sl} {Lt:List (ByteArray×ByteArray)} (hT:Ac6 W0) (hb:Bs7 W0 sb Lt) (z0:a.size≤1099511627776) (z1:b.size≤1099511627776) (z2:c.size≤1099511627776) (hl2:Lt.length≤1099511627776) (hz2: ∀t∈Lt,t.1.size≤1099511627776∧t.2.size≤1099511627776):
  Aa0 Tryz.prog 8 [.agg ⟨[.string a,.string b,.string c]⟩,sb.v] W0 M fun v W'=>v = .bool true∧True:=by
 apply Jx8
 have alv: ∀{W:PW},Ac6 W→Aa1 Tryz.prog W0 M 13 [] W fun v11 W12=>∃b13:Bool,v11 = .bool b13∧∀(W14:PW),Ext W12 W14→Value.bool b13 = .bool true∧True:=fun hT=>Ii9 hT fun W12 _ _=>⟨true,rfl,fun W14 _=>⟨rfl,trivial⟩⟩
 refine Gb4 hT hb hl2 hz2 fun s3 s4 b5 W2 hE2 hbx=>⟨s3,s4,b5,rfl,?_⟩
 refine Hu1 z0 z1 z2 fun s8 b9 s10 s11 b12 s13 s14 b15 s16 b17 s18 s19 b20 s21 s22 b23 s24 s25 b26 W7 hE7 g3=>⟨s8,b9,s10,s11,b12,s13,s14,b15,s16,b17,s18,s19,b20,s21,s22,b23,s24,s25,b26,rfl,?_⟩
 have T7:=hT.ext (hE2.trans hE7)
 refine⟨fun _=>alv T7,fun h5=>⟨fun _=>alv T7,fun h26=>Ii9 T7 fun W36 hE36 _=>⟨true,rfl,fun e=>(by cases e),fun _=>?_⟩⟩⟩
 obtain⟨bs,x1,_,hBox,hk⟩:=hbx (by simpa using h5)
 obtain⟨w,hw,⟨g0,g1,g2⟩,_⟩:=g3 (by simpa using h26)
 have x1:=x1.ext (hE7.trans hE36)
 have hw9:NmV 231 W36 [s8.v,.bool b9,s10.v,s11.v,.bool b12,s13.v,s14.v,.bool b15,s16.v] w.get:=NmV.mk (g0.ext hE36) (g1.ext hE36) (g2.ext hE36)
 have hn:=x1.n
 have hb3:=hBox.1.2
 refine⟨nrI W36 w bs.length,Jr6 bs.length,⟨0,⟨none,0,0⟩,rfl,Nat.zero_le _,Ext.refl _,rfl,Ab0.nil W36⟩,?_⟩
 rintro s44 i45 W46 ⟨j,sp,rfl,hj,hE46,e,hp⟩
 have e:=Sl.Ck0 (List.cons.inj e).1
 subst e
 have hgd:=Hy6 w j
 have hln:=Ia0 w j (by omega)
 have hbd:=Ib2 hw j
 refine⟨fun hlt=>⟨fun h3=>?_,fun h3=>absurd (show(j:Int)<3 by omega) h3⟩,fun hge=>?_⟩
 ·have hj3:j<3:=by omega
  have hjl:j<bs.length:=by omega
  obtain⟨s47,b48,s49,bx,gw⟩:=hw9.box hj3
  refine⟨⟨by omega,by omega⟩,s47,b48,s49,bx,?_⟩
  refine Cr4 fun s52 W51 hE51 h51=>⟨s52,rfl,?_⟩
  have bv:Bd 4 (Dc6 (j:Int)):=by unfold Dc6;rw[if_pos ⟨by omega,by omega⟩];exact Cq4 (Sz.one (Nat.le_refl 1))
  have lv:(Dc6 (j:Int)).length=1:=by unfold Dc6;rw[if_pos ⟨by omega,by omega⟩];rfl
  refine Cb0 h51 (gw.ext (hE46.trans hE51)) bv (hw j) (by omega) (by omega) (by omega) fun s55 W54 hE54 h54=>⟨s55,rfl,?_⟩
  have lm:=El2 (pmap (Dc6 (j:Int)) (w.get j))
  rw[Ew2] at lm
  refine Cw8 (k:=40) (hp.ext (hE51.trans hE54)) h54 (hbd.mono (by omega)) ((Bd.pmap bv (hw j)).norm.mono (by omega)) (by omega) (by omega) (by omega) fun s58 W57 hE57 h57=>⟨s58,rfl,by unfold I64;omega,⟨j+1,s58,by push_cast;rfl,by omega,hE46.trans (hE51.trans (hE54.trans hE57)),rfl,h57⟩,by show bs.length-Int.toNat ((j:Int)+1)<bs.length-Int.toNat (j:Int);omega⟩
 ·have:j=bs.length:=by omega
  subst this
  have hs:=Jy0 hBox w
  have hc:=Jy5 hBox w
  have hzz:BxN 40 4 (Hy3 w bs.length) bs:=⟨hbd.mono (by omega),hk,Ib3 w hb3,by omega,by omega,by omega,by omega⟩
  have X:=x1.ext hE46
  refine Jh8 hp X hzz (by omega) fun l W84 hE84 h84=>h84.Ge9 fun s85 b86 s87 s88 b89 s90 h84=>?_
  refine Bi4 (hp.ext hE84) (X.ext hE84) hzz fun l W93 hE93 h93=>h93.Ge9 fun s94 b95 s96 s97 b98 s99 h93=>?_
  rw[if_pos hc] at h84
  rw[if_pos hs] at h93
  have z1:=Jp6 hzz hc
  have zn:=(hzz.over.mono (show _≤67000000 by omega)).sz
  have he:=Jy7 hBox w
  have d1:=decide_eq_true hc
  have d2:=decide_eq_true hs
  refine⟨fun _=>⟨fun _=>?_,fun e=>absurd e (by rw[d2];decide)⟩,fun e=>absurd e (by rw[d1];decide)⟩
  exact Hu6 (h84.ext hE93) h93 (show IvS 67000000 _ from⟨z1.1.mono (by omega),z1.2.mono (by omega)⟩) zn (by omega) fun W102 hE102 _=>⟨_,rfl,fun W104 _=>⟨congrArg Value.bool (decide_eq_true he),trivial⟩⟩
end Go.Proofs.YtokefihiadbkbaaGreatDoor
/- An argument of three strings, opened. -/
namespace Go.Proofs.YtokefihiadbkbaaGreatDoor
open Go Go.SX Go.ChangeShapes Go.WideShapes Go.ChangeAt Go.RowKit Go.Deep
theorem Jy6 {r:Reach} {w:World} {base:Nat} {v:Value} (h:Value.okWide Tryz.prog w r base 103 v): ∃xs:Array Value,v = .agg xs∧xs.size=3:=by
 simp only[Value.okWide,Tryz.underlying103] at h
 obtain⟨cs,h1,h2,_⟩:=h
 exact⟨cs,h1,by rw[h2];kernel_rfl⟩
theorem Jy4 {H:Type} {enc:TypeId×Value→H} {W:World} {fuel:Nat} {l:List Value} {d:DataW H} {p:List MemPlace} (h:DataW.trod enc Tryz.prog W 0 (fun _=>true) true fuel 103 l=some (d,p)) (hl:l.length=3):
  ∃a b c:ByteArray,l = [.string a,.string b,.string c]∧a.size≤Rows.uptoBulk d∧b.size≤Rows.uptoBulk d∧c.size≤Rows.uptoBulk d:=by
 obtain⟨zs,m,rfl,hx,_,hzl,hz⟩:=DataW.trod_array Tryz.underlying103 h
 have e0:=hz 0 (by omega)
 have e1:=hz 1 (by omega)
 have e2:=hz 2 (by omega)
 rw[Ct5] at e0 e1 e2
 match l,hl,zs,hzl with
 | [v0,v1,v2],_,[w0,w1,w2],_=>
  have e0:DataW.trod enc Tryz.prog W 0 (fun _=>true) true m 9 [v0]=some w0:=e0
  have e1:DataW.trod enc Tryz.prog W 0 (fun _=>true) true m 9 [v1]=some w1:=e1
  have e2:DataW.trod enc Tryz.prog W 0 (fun _=>true) true m 9 [v2]=some w2:=e2
  obtain⟨s0,h0,rfl,_⟩:=DataW.trod_string Tryz.underlying9 e0
  obtain⟨s1,h1,rfl,_⟩:=DataW.trod_string Tryz.underlying9 e1
  obtain⟨s2,h2,rfl,_⟩:=DataW.trod_string Tryz.underlying9 e2
  have k0:v0=Value.string s0:=(List.cons.inj (show[v0] = [Value.string s0] from h0)).1
  have k1:v1=Value.string s1:=(List.cons.inj (show[v1] = [Value.string s1] from h1)).1
  have k2:v2=Value.string s2:=(List.cons.inj (show[v2] = [Value.string s2] from h2)).1
  subst k0 k1 k2
  simp only[Prod.mk.injEq] at hx
  obtain⟨rfl,_⟩:=hx
  have k0:s0.data.toList.length=s0.size:=by rw[Array.length_toList];rfl
  have k1:s1.data.toList.length=s1.size:=by rw[Array.length_toList];rfl
  have k2:s2.data.toList.length=s2.size:=by rw[Array.length_toList];rfl
  refine⟨s0,s1,s2,rfl,?_⟩
  simp only[List.map_cons,List.map_nil,Rows.uptoBulk,Rows.uptoBulkAll]
  omega
end Go.Proofs.YtokefihiadbkbaaGreatDoor
/- cincturelaw10.BernNear answers true for every input whose bulk is at most 1048576 (the second form), and its arguments read behind the call as they did ahead of it. -/
namespace Go.Proofs.YtokefihiadbkbaaGreatDoor
open Go Go.SX Go.ChangeShapes Go.WideShapes Go.ChangeAt Go.RowKit Go.Deep
theorem Fs9:Tryz.prog.globalNamed "math/bits.deBruijn32tab" = some 1:=by kernel_rfl
theorem Ew9:(Tryz.prog.globals[1]?).map (·.type)=some 301:=by kernel_rfl
theorem Ev1:Tryz.prog.cellsOf 301=32:=by kernel_rfl
theorem Fh1:Tryz.prog.cellsOf 5=1:=by kernel_rfl
theorem Fr5 {W:World} (h:laidMetH Tryz.prog Rows.bernNearUptoRow.laid W):Ac6 ⟨W,fun _=>False⟩:=by
 have ht:Go.Lib.TabIs Tryz.prog W "math/bits.deBruijn32tab" .u8 (Go.Lib.deBruijn32tab.map fun n:Nat=>(n:Int)):=Go.Lib.tabIs_of_head (rest:=[]) Fs9 Ew9 Tryz.underlying301 Tryz.underlying5 Fh1 Ev1 h
 have hc: ∀j,j<32→W.cell? ⟨1,j,none⟩=some (.int .u8 ((Go.Lib.deBruijn32tab.getD j 0:Nat):Int)):=fun j hj=>by
  rw[ht.cell Fs9 j (by simpa[Go.Lib.deBruijn32tab] using hj)]
  have hall: ∀j,j<32→(Go.Lib.deBruijn32tab.map fun n:Nat=>(n:Int)).getD j 0=((Go.Lib.deBruijn32tab.getD j 0:Nat):Int):=by decide
  rw[hall j hj]
 refine⟨hc,?_,fun h=>h⟩
 have:=hc 0 (by omega)
 unfold World.cell? at this
 split at this
 ·rename_i e
  exact(Array.getElem?_eq_some_iff.1 e).1
 ·cases this
theorem Fa3 (H:Type) (enc:TypeId×Value→H) (W:World) (base:Nat) (args:Array Value) (ds gs:List (DataW H)) (before:List MemPlace)
  (hval: ∀(j:Nat) t v,Tryz.f8.params[j]?=some t→args[j]?=some v→Value.okWide Tryz.prog W .any base t v)
  (hW:DataW.Whole enc Tryz.prog Tryz.f8.params.toList Rows.bernNearSpec.vars false W args.toList ds gs before) (hk:Rows.uptoSmall H (ds ++ gs)=true) (hL:laidMetH Tryz.prog Rows.bernNearUptoRow.laid W):
  Calls Tryz.prog 8 args W fun e W'=>∃v,e = .returned v∧Rows.bernNearSpec.post enc Tryz.prog Tryz.f8 false true false false W args v W':=by
 have hW':=hW
 obtain⟨p,q,hA0,hV,rfl,hfz,hnd⟩:=hW
 have hA:DataW.TrodAll enc Tryz.prog W 0 (fun _=>true) true Tryz.f8.params.toList args.toList ds p:=hA0
 rw[Tryz.params8] at hA hval
 obtain⟨v0,vs0,d0,ds0,p0,q0,hargs,rfl,rfl,h0,r0⟩:=trodAll_cons hA
 obtain⟨v1,vs1,d1,ds1,p1,q1,rfl,rfl,rfl,h1,r1⟩:=trodAll_cons r0
 obtain⟨rfl,rfl,rfl⟩:=trodAll_nil r1
 obtain rfl:args = #[v0,v1]:=by cases args;simp_all
 obtain⟨rfl,rfl⟩:=trodVars_none hV
 obtain⟨⟨l0⟩,rfl,hx0⟩:=Jy6 (hval 0 103 v0 rfl rfl)
 obtain⟨a1,n1,c1,rfl⟩:=okWide_slice Tryz.underlying23 (hval 1 23 v1 rfl rfl)
 clear hA0
 simp only[List.append_nil] at hW' hk
 have hlt: ∀x∈p0 ++ p1,x.block<W.heap.size:=fun x hx=>by simpa using hW'.lt x (by simpa using hx)
 have hbulk:Rows.uptoBulkAll [d0,d1]≤1048576:=of_decide_eq_true hk
 simp only[Rows.uptoBulkAll] at hbulk
 have h0k:=h0
 obtain⟨fuel0,hf0⟩:=h0
 have hf0':DataW.trod enc Tryz.prog W 0 (fun _=>true) true fuel0 103 l0=some (d0,p0):=by simpa[Value.cells] using hf0
 obtain⟨xa0,xb0,xc0,rfl,hxa0,hxb0,hxc0⟩:=Jy4 hf0' hx0
 have h1k:=h1
 obtain⟨fuel1,hf1⟩:=h1
 have hf1':DataW.trod enc Tryz.prog W 0 (fun _=>true) true fuel1 23 [.slice a1 n1 c1]=some (d1,p1):=by simpa[Value.cells] using hf1
 obtain⟨s1,L1,hs1,hL1,hb1,hc1⟩:=Gc9 hf1'
 have hc:=Jy2 (M:=fun _=>False) (a:=xa0) (b:=xb0) (c:=xc0) (Fr5 hL) hL1 (by omega) (by omega) (by omega) (by omega) (fun t ht=>by have:=hc1 t ht;omega)
 have hcall:=hc.2 (fun b h=>h.elim)
 rw[hs1]
 refine hcall.mono fun e W' ⟨v,he,hkeep,hv,_⟩=>⟨v,he,?_⟩
 subst hv
 have hbel:=hkeep.below
 refine⟨[d0,d1],[],_,[],p0 ++ p1,[],(by rw[←hs1];simpa using hW'),trodAll_mk1 (shut_bool Tryz.underlying4 _),(by rw[←hs1];exact trodAll_mk2 (Below.trod laidOut (by kernel_rfl) (of_decide_eq_true (by kernel_rfl)) h0k hbel fun x hx=>hlt x (by simp[hx])) (Below.trod laidOut (by kernel_rfl) (of_decide_eq_true (by kernel_rfl)) h1k hbel fun x hx=>hlt x (by simp[hx]))),rfl,hbel.frame _,fun h=>by cases h⟩
noncomputable def Bu8 (os:Os):World:=
 {World.holding Tryz.prog os ⟨#[],#[],[]⟩ with heap:=(World.holding Tryz.prog os ⟨#[],#[],[]⟩).heap.modify 1 fun
   | .cells _ t frozen=>.cells #[.int .u8 0,.int .u8 1,.int .u8 28,.int .u8 2,.int .u8 29,.int .u8 14,.int .u8 24,.int .u8 3,.int .u8 30,.int .u8 22,.int .u8 20,.int .u8 15,.int .u8 25,.int .u8 17,.int .u8 4,.int .u8 8,.int .u8 31,.int .u8 27,.int .u8 13,.int .u8 23,.int .u8 21,.int .u8 19,.int .u8 16,.int .u8 7,.int .u8 26,.int .u8 12,.int .u8 18,.int .u8 6,.int .u8 11,.int .u8 5,.int .u8 10,.int .u8 9] t frozen
   | o=>o }
theorem Fa2 (os:Os):laidMet Tryz.prog Rows.bernNearUptoRow.laid ((Bu8 os).forCall (fun _ _=>0) ⟨#[],#[.agg ⟨[.string ⟨#[]⟩,.string ⟨#[]⟩,.string ⟨#[]⟩]⟩,.slice none 0 0],[]⟩).memory:=
 laidMet_of_run' 8 (by kernel_rfl) (by kernel_rfl)
theorem reads (os:Os) {H:Type} (enc:TypeId×Value→H): ∃places,DataW.whole enc Tryz.prog ((Bu8 os).forCall (fun _ _=>0) ⟨#[],#[.agg ⟨[.string ⟨#[]⟩,.string ⟨#[]⟩,.string ⟨#[]⟩]⟩,.slice none 0 0],[]⟩).memory Tryz.f8.params.toList Rows.bernNearSpec.vars false (#[.agg ⟨[.string ⟨#[]⟩,.string ⟨#[]⟩,.string ⟨#[]⟩]⟩,.slice none 0 0]:Array Value).toList 8=some ([.agg [.lit (.string []),.lit (.string []),.lit (.string [])],.nil],[],places):=
 ⟨[],by kernel_rfl⟩
theorem lifted (os:Os) (started:os.Started) (H:Type) (enc:TypeId×Value→H) (F:Stop.Interp):
  ReturnsInHanded {} Tryz.checked os 8 .any ((Rows.OpenSpec.upto Rows.bernNearSpec).preRow enc Tryz.prog Tryz.f8 Rows.bernNearUptoRow.domain false Rows.bernNearUptoRow.laid) (((Rows.OpenSpec.upto Rows.bernNearSpec).at F).post enc Tryz.prog Tryz.f8 false true false false):=by
 obtain⟨places,hx⟩:=reads os enc
 refine returnsInHanded_of_row (C:=Tryz.checked) (s:=Rows.OpenSpec.upto Rows.bernNearSpec) Cp9 started (by kernel_rfl) Tryz.func8
  (witness_row_at (enc:=enc) (C:=Tryz.checked) false (Bu8 os) #[.agg ⟨[.string ⟨#[]⟩,.string ⟨#[]⟩,.string ⟨#[]⟩]⟩,.slice none 0 0] rfl (by kernel_rfl) (by kernel_rfl) (by kernel_rfl)
   (OpenSpec.preRow_of_cond 8 hx (by kernel_rfl) (fun k hk=>by cases hk;kernel_rfl) (by kernel_rfl) (Fa2 os))) ?_
 intro W base args ds gs before hval hW _ hcond _ hL _ _
 exact Fa3 H enc W base args ds gs before hval hW (hcond _ rfl) hL
theorem Fj9:Fc7 Tryz.checked.prog 8 Tryz.f8 (Rows.OpenSpec.upto Rows.bernNearSpec).bare Rows.bernNearUptoRow=true:=by kernel_rfl
theorem Fl9:Fd9 Tryz.checked.prog 8 Tryz.f8 (Rows.OpenSpec.upto Rows.bernNearSpec).bare Rows.bernNearUptoRow=true:=by kernel_rfl
theorem Fl2:Fe1 Tryz.checked.prog 8 Tryz.f8 (Rows.OpenSpec.upto Rows.bernNearSpec).bare Rows.bernNearUptoRow=true:=by kernel_rfl
theorem Fn7:Fd2 Tryz.checked.prog 8 Tryz.f8 (Rows.OpenSpec.upto Rows.bernNearSpec).bare Rows.bernNearUptoRow=true:=by kernel_rfl
theorem Fj6:Fd4 Tryz.checked.prog 8 Tryz.f8 (Rows.OpenSpec.upto Rows.bernNearSpec).bare Rows.bernNearUptoRow=true:=by kernel_rfl
theorem Et8:Rows.BernNearUptoSaid:=
 OpenClaim.holds_of_cond 8 Tryz.f8 rfl rfl rfl rfl rfl rfl rfl ⟨rfl,rfl,rfl,rfl,rfl⟩ rfl rfl rfl rfl rfl (by kernel_rfl) Tryz.func8 (Eo7 Fj9 Fl9 Fl2 Fn7 Fj6)
  (of_decide_eq_true (by kernel_rfl)) (by unfold Func.isWrapper;first | (rw[if_pos (by decide +kernel)];kernel_rfl) | (rw[if_neg (by decide +kernel)];exact⟨rfl,rfl⟩))
  (fun os started H enc _ F=>by rw[OpenClaim.pre_eq_preRow];exact lifted os started H enc F)
theorem plain (f:FuncId) (fn:Func) (hf:Tryz.pinned.checked.prog.funcNamed "cincture/cincturelaw10.BernNear" = some f) (hfn:Tryz.pinned.checked.prog.funcs[f]?=some fn):
  false=Tryz.pinned.checked.prog.looks []∧∀(j:Nat) t,fn.params[j]?=some t→Tryz.pinned.checked.prog.wantsStandIn t=false:=by
 obtain rfl:f=8:=Option.some.inj ((show Tryz.prog.funcNamed "cincture/cincturelaw10.BernNear" = some 8 by kernel_rfl).symm.trans hf) |>.symm
 obtain rfl:fn=Tryz.f8:=(Option.some.inj (Tryz.func8.symm.trans hfn)).symm
 refine⟨by kernel_rfl,fun j t ht=>?_⟩
 rw[Tryz.params8] at ht
 have hm:t∈[103,23]:=by simpa using Array.mem_of_getElem? ht
 have hall:([103,23].all fun u=>!Tryz.prog.wantsStandIn u)=true:=by kernel_rfl
 exact(show Tryz.prog.wantsStandIn t=false by simpa using List.all_eq_true.1 hall t hm)
theorem bernNear_card:Rows.BernNearUptoCardSaid:=
 Claim7.holds_tied_plain_at .later [] _ _ _ _ Et8 (fun _ h=>by cases h) (by kernel_rfl) (fun _ h=>by cases h) bernNearUpto_row_tie rfl ⟨rfl,rfl⟩ (by kernel_rfl) rfl plain (by kernel_rfl)
#print axioms bernNear_card
end Go.Proofs.YtokefihiadbkbaaGreatDoor
