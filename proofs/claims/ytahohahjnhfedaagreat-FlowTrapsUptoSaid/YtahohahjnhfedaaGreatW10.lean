/- The reference's intervals; cincturelaw5.Is, Of; span.Parse. -/
import Derived.Test.YtahohahjnhfedaaGreatW9
import Derived.Test.YtahohahjnhfedaaGreatW6
import Derived.Test.YtahohahjnhfedaaGreatLib4
import Derived.Test.YtahohahjnhfedaaGreatW8
import Derived.Test.YtahohahjnhfedaaGreatR14
import Derived.Test.YtahohahjnhfedaaGreatLib5
set_option linter.unusedVariables false
set_option linter.unusedSimpArgs false
set_option maxRecDepth 100000
namespace Go.Proofs.YtahohahjnhfedaaGreat
open Go Go.SX
theorem Dg1 {W0:PW} {M:Nat→Prop} {s t:Sl} {b:Bool} {r:Rat} (h:Ab6 240 W0 b s t r):
  Aa0 Tryz.prog 47 [.agg ⟨[.bool b,s.v,t.v]⟩] W0 M fun v W'=>∃(l:List Value),v = .agg ⟨l⟩∧Ah6 240 W' l (Eb6 r):=by
 apply Cd3
 exact fun W1 hE=>⟨_,rfl,Ah6.mk (x:=Eb6 r) (h.ext hE) (h.ext hE)⟩
theorem Bd0 {W0 W:PW} {M:Nat→Prop} {s t:Sl} {b:Bool} {r:Rat} {K:Value→PW→Prop} (h:Ab6 240 W b s t r) (kont: ∀(l:List Value) (W':PW),Ext W W'→(Ah6 240 W' l (Eb6 r))→K (.agg ⟨l⟩) W'):
  Aa1 Tryz.prog W0 M 47 [.agg ⟨[.bool b,s.v,t.v]⟩] W K:=
 Aa2 (fun W' hE=>Dg1 (M:=fun _=>False) (h.ext hE)) (fun W' v W'' hE hE' hP=>by
  obtain⟨l,rfl,h⟩:=hP
  exact kont l W'' (hE.trans hE') h)
theorem Ck2 {W0:PW} {M:Nat→Prop} {l1 l2:List Value} {x y:Iv} {k:Nat} (h1:Ah6 240 W0 l1 x) (h2:Ah6 240 W0 l2 y) (hx:IvS k x) (hy:IvS k y) (hk:k≤500000000):
  Aa0 Tryz.prog 51 [.agg ⟨l1⟩,.agg ⟨l2⟩] W0 M fun v W'=>∃(l:List Value),v = .agg ⟨l⟩∧Ah6 240 W' l (Cb5 x y):=by
 obtain⟨s0,b0,t0,s1,b1,t1,rfl,h1,h1'⟩:=h1
 obtain⟨s2,b2,t2,s3,b3,t3,rfl,h2,h2'⟩:=h2
 apply Bm5
 exact Bj7 h1 h2 hx.1 hy.1 hk hk fun s3 b4 s5 W2 hE2 g1=>⟨s3,b4,s5,rfl,Bj7 (h1'.ext hE2) (h2'.ext hE2) hx.2 hy.2 hk hk fun s8 b9 s10 W7 hE7 g2=>⟨s8,b9,s10,rfl,fun W11 hE11=>⟨_,rfl,Ah6.mk (x:=Cb5 x y) (g1.ext (hE7.trans hE11)) (g2.ext hE11)⟩⟩⟩
theorem Bp3 {W0 W:PW} {M:Nat→Prop} {l1 l2:List Value} {x y:Iv} {k:Nat} {K:Value→PW→Prop} (h1:Ah6 240 W l1 x) (h2:Ah6 240 W l2 y) (hx:IvS k x) (hy:IvS k y) (hk:k≤500000000) (kont: ∀(l:List Value) (W':PW),Ext W W'→(Ah6 240 W' l (Cb5 x y))→K (.agg ⟨l⟩) W'):
  Aa1 Tryz.prog W0 M 51 [.agg ⟨l1⟩,.agg ⟨l2⟩] W K:=
 Aa2 (fun W' hE=>Ck2 (M:=fun _=>False) (h1.ext hE) (h2.ext hE) hx hy hk) (fun W' v W'' hE hE' hP=>by
  obtain⟨l,rfl,h⟩:=hP
  exact kont l W'' (hE.trans hE') h)
def Cc4 (q:List Rat) (i:Nat):Rat:=q.getD i 0
def lsI (W0:PW) (q:List Rat) (L:List PL) (W:PW):Prop:=match L with
 | [.val (.int .i64 i),.cells l]=>∃j:Nat,i=(j:Int)∧1≤j∧j≤q.length∧Ext W0 W∧Ah6 240 W l (Af9 (q.take j))
 | _=>False
theorem Ci1 {f:Rat→Rat→Rat} (hf: ∀a b,f a b=a∨f a b=b): ∀(r:List Rat) (a:Rat),r.foldl f a=a∨r.foldl f a∈r
 | [],a=>.inl rfl
 | x :: r,a=>by
  rw[List.foldl_cons]
  rcases Ci1 hf r (f a x) with h | h
  ·rw[h]
   rcases hf a x with e | e
   ·exact .inl e
   ·exact .inr (by rw[e];simp)
  ·exact .inr (List.mem_cons_of_mem _ h)
theorem Ed9 {q:List Rat} (h:q≠[]):(Af9 q).1∈q∧(Af9 q).2∈q:=by
 cases q with
 | nil=>exact absurd rfl h
 | cons a r=>
  constructor
  ·rcases Ci1 Dj0 r a with e | e
   ·show r.foldl Az9 a∈_;rw[e];simp
   ·exact List.mem_cons_of_mem _ e
  ·rcases Ci1 Dj7 r a with e | e
   ·show r.foldl Au7 a∈_;rw[e];simp
   ·exact List.mem_cons_of_mem _ e
theorem Du9 {q:List Rat} {x:Rat} (h:q≠[]):Af9 (q ++ [x])=(Az9 (Af9 q).1 x,Au7 (Af9 q).2 x):=by
 cases q with
 | nil=>exact absurd rfl h
 | cons a r=>simp[Af9,List.foldl_append]
theorem Dc8 {W0:PW} {M:Nat→Prop} {s:Sl} {q:List Rat} {k:Nat} (h:Bf7 240 39 W0 s q.length (Cc4 q)) (hq: ∀x∈q,Sz k x) (h0:q≠[]) (hk:k≤500000000) (hl:q.length≤1048576):
  Aa0 Tryz.prog 131 [s.v] W0 M fun v W'=>∃(l:List Value),v = .agg ⟨l⟩∧Ah6 240 W' l (Af9 q):=by
 apply Cd4
 have hn:=h.n
 have hpos:0<q.length:=List.length_pos_iff.2 h0
 obtain⟨s1,b1,s2,e1,g1⟩:=h.at (i:=0) hpos
 refine⟨h.inB (by omega) (by omega),b1,s1,s2,e1,h.inB (by omega) (by omega),b1,s1,s2,e1,lsI W0 q,fun L _=>match L with | [.val (.int .i64 i),_]=>q.length-i.toNat | _=>0,⟨1,rfl,Nat.le_refl _,hpos,Ext.refl _,?_⟩,?_⟩
 ·have e:q.take 1 = [Cc4 q 0]:=by
   cases q with
   | nil=>exact absurd rfl h0
   | cons a r=>rfl
  rw[e]
  exact Ah6.mk (x:=(Cc4 q 0,Cc4 q 0)) g1 g1
 ·rintro b9 s10 s11 b12 s13 s14 i15 W16 ⟨j,rfl,hj1,hj,hE16,hS⟩
  obtain⟨_,_,_,_,_,_,e,k1,k2⟩:=hS
  simp only[List.cons.injEq,Value.bool.injEq,and_true] at e
  obtain⟨e1,e2,e3,e4,e5,e6⟩:=e
  have e2:=Sl.Ck0 e2
  have e3:=Sl.Ck0 e3
  have e5:=Sl.Ck0 e5
  have e6:=Sl.Ck0 e6
  subst e1 e2 e3 e4 e5 e6
  have hne:q.take j≠[]:=fun e=>by
   have:=congrArg List.length e
   rw[List.length_take,List.length_nil] at this
   omega
  have hm:=Ed9 hne
  have z1:=hq _ (List.mem_of_mem_take hm.1)
  have z2:=hq _ (List.mem_of_mem_take hm.2)
  refine⟨fun hlt=>?_,fun hge W44 hE44=>⟨_,rfl,?_⟩⟩
  ·have hjl:j<q.length:=by omega
   have hz:=hq _ (List.getElem_mem hjl)
   have hgq:Cc4 q j=q[j]:=by unfold Cc4;rw[List.getD_eq_getElem?_getD,List.getElem?_eq_getElem hjl];rfl
   have fin:Af9 (q.take (j+1))=(Az9 (Af9 (q.take j)).1 q[j],Au7 (Af9 (q.take j)).2 q[j]):=by rw[List.take_succ_eq_append_getElem hjl,Du9 hne]
   have at_: ∀{W},Ext W0 W→SX.inB s (j:Int)∧∃(b:Bool) (u v:Sl),Aa7 W s 3 j 0 [.bool b,u.v,v.v]∧Ab6 240 W b u v q[j]:=fun {W} hE=>by
    obtain⟨s1,b1,s2,e1,g1⟩:=(h.ext hE).at hjl
    exact⟨h.inB (by omega) (by omega),b1,s1,s2,e1,hgq ▸ g1⟩
   have hmu:q.length-Int.toNat ((j:Int)+1)<q.length-Int.toNat (j:Int):=by omega
   have stepOK: ∀{W} {b u v b' u' v'},Ext W0 W→Ab6 240 W b u v (Az9 (Af9 (q.take j)).1 q[j])→Ab6 240 W b' u' v' (Au7 (Af9 (q.take j)).2 q[j])→lsI W0 q [.val (.int .i64 ((j:Int)+1)),.cells [.bool b,Sl.v u,Sl.v v,.bool b',Sl.v u',Sl.v v']] W:=fun hE p1 p2=>⟨j+1,by push_cast;rfl,by omega,by omega,hE,by rw[fin];exact Ah6.mk p1 p2⟩
   obtain⟨i1,b17,s18,s19,a17,q17⟩:=at_ hE16
   refine⟨i1,b17,s18,s19,a17,Ar1 q17 k1 hz z1 hk hk fun W21 hE21 _=>⟨_,rfl,fun hlo=>?_,fun hlo=>?_⟩⟩
   ·have hlo:=At6.1 hlo
    have emin:Az9 (Af9 (q.take j)).1 q[j]=q[j]:=if_pos hlo
    obtain⟨_,b23,s24,s25,a23,q23⟩:=at_ (hE16.trans hE21)
    obtain⟨_,b26,s27,s28,a26,q26⟩:=at_ (hE16.trans hE21)
    refine⟨i1,b23,s24,s25,a23,i1,b26,s27,s28,a26,Ar1 q26 (k2.ext hE21) hz z2 hk hk fun W30 hE30 _=>⟨_,rfl,fun hhi=>?_,fun hhi=>⟨by unfold I64;omega,stepOK ((hE16.trans hE21).trans hE30) (emin.symm ▸ q23.ext hE30) ?_,hmu⟩⟩⟩
    ·have hhi:=Al3.1 hhi
     obtain⟨_,b32,s33,s34,a32,q32⟩:=at_ ((hE16.trans hE21).trans hE30)
     refine⟨i1,b32,s33,s34,a32,by unfold I64;omega,stepOK ((hE16.trans hE21).trans hE30) (emin.symm ▸ q23.ext hE30) ?_,hmu⟩
     rw[show Au7 (Af9 (q.take j)).2 q[j]=q[j] from if_pos hhi]
     exact q32
    ·rw[show Au7 (Af9 (q.take j)).2 q[j]=(Af9 (q.take j)).2 from if_neg fun e=>hhi (Al3.2 e)]
     exact k2.ext (hE21.trans hE30)
   ·have emin:Az9 (Af9 (q.take j)).1 q[j]=(Af9 (q.take j)).1:=if_neg fun e=>hlo (At6.2 e)
    obtain⟨_,b35,s36,s37,a35,q35⟩:=at_ (hE16.trans hE21)
    refine⟨i1,b35,s36,s37,a35,Ar1 q35 (k2.ext hE21) hz z2 hk hk fun W39 hE39 _=>⟨_,rfl,fun hhi=>?_,fun hhi=>⟨by unfold I64;omega,stepOK ((hE16.trans hE21).trans hE39) (emin.symm ▸ k1.ext (hE21.trans hE39)) ?_,hmu⟩⟩⟩
    ·have hhi:=Al3.1 hhi
     obtain⟨_,b41,s42,s43,a41,q41⟩:=at_ ((hE16.trans hE21).trans hE39)
     refine⟨i1,b41,s42,s43,a41,by unfold I64;omega,stepOK ((hE16.trans hE21).trans hE39) (emin.symm ▸ k1.ext (hE21.trans hE39)) ?_,hmu⟩
     rw[show Au7 (Af9 (q.take j)).2 q[j]=q[j] from if_pos hhi]
     exact q41
    ·rw[show Au7 (Af9 (q.take j)).2 q[j]=(Af9 (q.take j)).2 from if_neg fun e=>hhi (Al3.2 e)]
     exact k2.ext (hE21.trans hE39)
  ·have:j=q.length:=by omega
   subst this
   rw[List.take_length] at k1 k2
   exact Ah6.mk (k1.ext hE44) (k2.ext hE44)
theorem At0 {W0 W:PW} {M:Nat→Prop} {s:Sl} {q:List Rat} {k:Nat} {K:Value→PW→Prop} (h:Bf7 240 39 W s q.length (Cc4 q)) (hq: ∀x∈q,Sz k x) (h0:q≠[]) (hk:k≤500000000) (hl:q.length≤1048576) (kont: ∀(l:List Value) (W':PW),Ext W W'→(Ah6 240 W' l (Af9 q))→K (.agg ⟨l⟩) W'):
  Aa1 Tryz.prog W0 M 131 [s.v] W K:=
 Aa2 (fun W' hE=>Dc8 (M:=fun _=>False) (h.ext hE) hq h0 hk hl) (fun W' v W'' hE hE' hP=>by
  obtain⟨l,rfl,h⟩:=hP
  exact kont l W'' (hE.trans hE') h)
theorem Ey0 {W:PW} {s:Sl} {ty:TypeId} {a b c d:Rat} {b1 b2 b3 b4:Bool} {s1 s2 s3 s4 t1 t2 t3 t4:Sl} (h1:Ab6 240 W b1 s1 t1 a) (h2:Ab6 240 W b2 s2 t2 b) (h3:Ab6 240 W b3 s3 t3 c) (h4:Ab6 240 W b4 s4 t4 d)
  (hr:Row W ty 3 s [[.bool b1,s1.v,t1.v],[.bool b2,s2.v,t2.v],[.bool b3,s3.v,t3.v],[.bool b4,s4.v,t4.v]]):Bf7 240 ty W s [a,b,c,d].length (Cc4 [a,b,c,d]):=
 ⟨_,hr,rfl,fun i hi=>by
  have hi:i<4:=hi
  rcases(by omega:i=0∨i=1∨i=2∨i=3) with rfl | rfl | rfl | rfl
  ·exact⟨s1,b1,t1,rfl,h1⟩
  ·exact⟨s2,b2,t2,rfl,h2⟩
  ·exact⟨s3,b3,t3,rfl,h3⟩
  ·exact⟨s4,b4,t4,rfl,h4⟩⟩
theorem Fh3 {W:PW} {s:Sl} {ty:TypeId} {a b:Rat} {b1 b2:Bool} {s1 s2 t1 t2:Sl} (h1:Ab6 240 W b1 s1 t1 a) (h2:Ab6 240 W b2 s2 t2 b)
  (hr:Row W ty 3 s [[.bool b1,s1.v,t1.v],[.bool b2,s2.v,t2.v]]):Bf7 240 ty W s [a,b].length (Cc4 [a,b]):=
 ⟨_,hr,rfl,fun i hi=>by
  have hi:i<2:=hi
  rcases(by omega:i=0∨i=1) with rfl | rfl
  ·exact⟨s1,b1,t1,rfl,h1⟩
  ·exact⟨s2,b2,t2,rfl,h2⟩⟩
theorem Ej0 {W:PW} {s:Sl} {ty:TypeId} {a b c:Rat} {b1 b2 b3:Bool} {s1 s2 s3 t1 t2 t3:Sl} (h1:Ab6 240 W b1 s1 t1 a) (h2:Ab6 240 W b2 s2 t2 b) (h3:Ab6 240 W b3 s3 t3 c)
  (hr:Row W ty 3 s [[.bool b1,s1.v,t1.v],[.bool b2,s2.v,t2.v],[.bool b3,s3.v,t3.v]]):Bf7 240 ty W s [a,b,c].length (Cc4 [a,b,c]):=
 ⟨_,hr,rfl,fun i hi=>by
  have hi:i<3:=hi
  rcases(by omega:i=0∨i=1∨i=2) with rfl | rfl | rfl
  ·exact⟨s1,b1,t1,rfl,h1⟩
  ·exact⟨s2,b2,t2,rfl,h2⟩
  ·exact⟨s3,b3,t3,rfl,h3⟩⟩
theorem Ch7 {W0:PW} {M:Nat→Prop} {l1 l2:List Value} {x y:Iv} {k:Nat} (h1:Ah6 240 W0 l1 x) (h2:Ah6 240 W0 l2 y) (hx:IvS k x) (hy:IvS k y) (hk:k≤250000000):
  Aa0 Tryz.prog 58 [.agg ⟨l1⟩,.agg ⟨l2⟩] W0 M fun v W'=>∃(l:List Value),v = .agg ⟨l⟩∧Ah6 240 W' l (Ay9 x y):=by
 obtain⟨s0,b0,t0,s1,b1,t1,rfl,h1,h1'⟩:=h1
 obtain⟨s2,b2,t2,s3,b3,t3,rfl,h2,h2'⟩:=h2
 apply Bn0
 refine Am6 h1 h2 hx.1 hy.1 (by omega) (by omega) fun b3 s4 s5 W2 hE2 g1=>⟨b3,s4,s5,rfl,Am6 (h1.ext hE2) (h2'.ext hE2) hx.1 hy.2 (by omega) (by omega) fun b8 s9 s10 W7 hE7 g2=>⟨b8,s9,s10,rfl,?_⟩⟩
 have hE:=hE2.trans hE7
 refine Am6 (h1'.ext hE) (h2.ext hE) hx.2 hy.1 (by omega) (by omega) fun b13 s14 s15 W12 hE12 g3=>⟨b13,s14,s15,rfl,Am6 (h1'.ext (hE.trans hE12)) (h2'.ext (hE.trans hE12)) hx.2 hy.2 (by omega) (by omega) fun b18 s19 s20 W17 hE17 g4=>⟨b18,s19,s20,rfl,fun s21 W22 hE22 hO21 _=>?_⟩⟩
 have hR:=Ey0 (g1.ext (hE7.trans (hE12.trans (hE17.trans hE22)))) (g2.ext (hE12.trans (hE17.trans hE22))) (g3.ext (hE17.trans hE22)) (g4.ext hE22) hO21.row
 refine At0 (k:=k+k) hR ?_ (by simp) (by omega) (by simp) fun l W24 hE24 h24=>h24.out fun b s t b' s' t' h24 W32 hE32=>⟨_,rfl,?_⟩
 ·intro z hz
  simp only[List.mem_cons,List.not_mem_nil,or_false] at hz
  rcases hz with rfl | rfl | rfl | rfl
  ·exact hx.1.mul hy.1
  ·exact hx.1.mul hy.2
  ·exact hx.2.mul hy.1
  ·exact hx.2.mul hy.2
 ·rw[Eq4] at h24
  exact h24.ext hE32
theorem Bt1 {W0 W:PW} {M:Nat→Prop} {l1 l2:List Value} {x y:Iv} {k:Nat} {K:Value→PW→Prop} (h1:Ah6 240 W l1 x) (h2:Ah6 240 W l2 y) (hx:IvS k x) (hy:IvS k y) (hk:k≤250000000) (kont: ∀(l:List Value) (W':PW),Ext W W'→(Ah6 240 W' l (Ay9 x y))→K (.agg ⟨l⟩) W'):
  Aa1 Tryz.prog W0 M 58 [.agg ⟨l1⟩,.agg ⟨l2⟩] W K:=
 Aa2 (fun W' hE=>Ch7 (M:=fun _=>False) (h1.ext hE) (h2.ext hE) hx hy hk) (fun W' v W'' hE hE' hP=>by
  obtain⟨l,rfl,h⟩:=hP
  exact kont l W'' (hE.trans hE') h)
theorem Ke1 {W0:PW} {M:Nat→Prop} {l1:List Value} {s t:Sl} {b:Bool} {x:Iv} {r:Rat} {k:Nat} (h1:Ah6 240 W0 l1 x) (h2:Ab6 240 W0 b s t r) (hx:IvS k x) (hr:Sz k r) (hk:k≤250000000):
  Aa0 Tryz.prog 52 [.agg ⟨l1⟩,.agg ⟨[.bool b,s.v,t.v]⟩] W0 M fun v W'=>∃(l:List Value),v = .agg ⟨l⟩∧Ah6 240 W' l (De8 x r):=by
 obtain⟨s0,b0,t0,s1,b1,t1,rfl,h1,h1'⟩:=h1
 apply Ka8
 refine Bd0 h2 fun l W2 hE2 h3=>h3.out fun b3 s4 s5 b6 s7 s8 h3=>?_
 refine Bt1 (Ah6.mk (h1.ext hE2) (h1'.ext hE2)) h3 hx ⟨hr,hr⟩ hk fun l W9 hE9 h9=>h9.out fun b s t b' s' t' h9 W32 hE32=>⟨_,rfl,?_⟩
 rw[Ez7] at h9
 exact h9.ext hE32
theorem Kb4 {W0 W:PW} {M:Nat→Prop} {l1:List Value} {s t:Sl} {b:Bool} {x:Iv} {r:Rat} {k:Nat} {K:Value→PW→Prop} (h1:Ah6 240 W l1 x) (h2:Ab6 240 W b s t r) (hx:IvS k x) (hr:Sz k r) (hk:k≤250000000) (kont: ∀(l:List Value) (W':PW),Ext W W'→(Ah6 240 W' l (De8 x r))→K (.agg ⟨l⟩) W'):
  Aa1 Tryz.prog W0 M 52 [.agg ⟨l1⟩,.agg ⟨[.bool b,s.v,t.v]⟩] W K:=
 Aa2 (fun W' hE=>Ke1 (M:=fun _=>False) (h1.ext hE) (h2.ext hE) hx hr hk) (fun W' v W'' hE hE' hP=>by
  obtain⟨l,rfl,h⟩:=hP
  exact kont l W'' (hE.trans hE') h)
def rpI (W0:PW) (q:Rat) (n:Nat) (L:List PL) (W:PW):Prop:=match L with
 | [.val (.int .i64 i),.cells [.bool x,.slice A m c,.slice A' m' c']]=>∃j:Nat,i=(j:Int)∧j≤n∧Ext W0 W∧Ab6 240 W x ⟨A,m,c⟩ ⟨A',m',c'⟩ (q^j)
 | _=>False
theorem Db6 {W0:PW} {M:Nat→Prop} {s t:Sl} {b:Bool} {q:Rat} {n k:Nat} (h:Ab6 240 W0 b s t q) (hz:Sz k q) (hk:k≤1048576) (hn:n≤255):
  Aa0 Tryz.prog 174 [.agg ⟨[.bool b,s.v,t.v]⟩,.int .i64 (n:Int)] W0 M fun v W'=>∃(b':Bool),∃(s':Sl),∃(t':Sl),v = .agg ⟨[.bool b',Sl.v s',Sl.v t']⟩∧Ab6 240 W' b' s' t' (q^n):=by
 apply Bu3
 have hmn:mn (mx (n:Int) 0) 255=(n:Int):=by unfold mn mx;(repeat' split)<;>omega
 unfold Bl1
 rw[hmn]
 refine Ak1 (z:=1) (by unfold I64;omega) fun b3 s4 s5 W2 hE2 h2=>⟨b3,s4,s5,rfl,?_⟩
 refine⟨rpI W0 q n,fun l _=>match l with | [.val (.int .i64 i),_]=>n-i.toNat | _=>0,⟨0,rfl,by omega,hE2,by simpa using h2⟩,?_⟩
 rintro b8 s9 s10 i11 W12 ⟨j,rfl,hj,hE,hq⟩
 have hq:Ab6 240 W12 b8 s9 s10 (q^j):=hq
 refine⟨fun hlt=>?_,fun hge W18 hE18=>⟨b8,s9,s10,rfl,?_⟩⟩
 ·have h2:=Nat.mul_le_mul hk (by omega:j≤255)
  refine Am6 hq (h.ext hE) (Sz.Fe7 hz j) hz (by omega) (by omega) fun b15 s16 s17 W14 hE14 h14=>⟨b15,s16,s17,rfl,by unfold I64;omega,⟨j+1,by push_cast;rfl,by omega,hE.trans hE14,by rw[Rat.pow_succ];exact h14⟩,?_⟩
  show n-Int.toNat ((j:Int)+1)<n-Int.toNat (j:Int)
  omega
 ·have:j=n:=by omega
  subst this
  exact hq.ext hE18
theorem Az8 {W0 W:PW} {M:Nat→Prop} {s t:Sl} {b:Bool} {q:Rat} {n k:Nat} {K:Value→PW→Prop} (h:Ab6 240 W b s t q) (hz:Sz k q) (hk:k≤1048576) (hn:n≤255) (kont: ∀(b':Bool) (s':Sl) (t':Sl) (W':PW),Ext W W'→(Ab6 240 W' b' s' t' (q^n))→K (.agg ⟨[.bool b',Sl.v s',Sl.v t']⟩) W'):
  Aa1 Tryz.prog W0 M 174 [.agg ⟨[.bool b,s.v,t.v]⟩,.int .i64 (n:Int)] W K:=
 Aa2 (fun W' hE=>Db6 (M:=fun _=>False) (h.ext hE) hz hk hn) (fun W' v W'' hE hE' hP=>by
  obtain⟨b',s',t',rfl,h⟩:=hP
  exact kont b' s' t' W'' (hE.trans hE') h)
theorem Cl0 {W0:PW} {M:Nat→Prop} {l1:List Value} {x:Iv} {n k:Nat} (h1:Ah6 240 W0 l1 x) (hx:IvS k x) (hxx:x.1≤x.2) (hk:k≤1048576) (hn:n≤255):
  Aa0 Tryz.prog 127 [.agg ⟨l1⟩,.int .i64 (n:Int)] W0 M fun v W'=>∃(l:List Value),v = .agg ⟨l⟩∧Ah6 240 W' l (Ai3 x n):=by
 obtain⟨s0,b0,t0,s1,b1,t1,rfl,h1,h1'⟩:=h1
 apply Bn8
 have hm:=Nat.mul_le_mul hk hn
 have hmn:mn (mx (n:Int) 0) 255=(n:Int):=by unfold mn mx;(repeat' split)<;>omega
 unfold Bf2
 rw[hmn]
 have hp:=Em7 (n:=n) hxx
 refine Az8 h1 hx.1 hk hn fun b3 s4 s5 W2 hE2 g1=>⟨b3,s4,s5,rfl,Az8 (h1'.ext hE2) hx.2 hk hn fun b8 s9 s10 W7 hE7 g2=>⟨b8,s9,s10,rfl,?_⟩⟩
 have two: ∀(hno:¬(0<n∧n%2=0∧x.1<0∧0<x.2)) {W:PW} (hE:Ext W7 W) (s:Sl) (W':PW) (hE':Ext W W') (hO:SX.Own W' 39 3 s [[.bool b3,s4.v,s5.v],[.bool b8,s9.v,s10.v]]),
   Aa1 Tryz.prog W0 M 131 [s.v] W' fun v57 W58=>∃(b59:Bool) (s60 s61:Sl) (b62:Bool) (s63 s64:Sl),v57 = .agg ⟨[.bool b59,s60.v,s61.v,.bool b62,s63.v,s64.v]⟩∧∀(W65:PW),Ext W58 W65→∃l,Value.agg ⟨[.bool b59,s60.v,s61.v,.bool b62,s63.v,s64.v]⟩ = .agg ⟨l⟩∧Ah6 240 W65 l (Ai3 x n):=fun hno {W} hE s W' hE' hO=>by
  rw[if_neg hno] at hp
  have hR:=Fh3 (g1.ext ((hE7.trans hE).trans hE')) (g2.ext (hE.trans hE')) hO.row
  refine At0 (k:=k*n+1) hR ?_ (by simp) (by omega) (by simp) fun l W24 hE24 h24=>h24.out fun b s t b' s' t' h24 W32 hE32=>⟨_,rfl,?_⟩
  ·intro z hz
   simp only[List.mem_cons,List.not_mem_nil,or_false] at hz
   rcases hz with rfl | rfl
   ·exact Sz.Fe7 hx.1 n
   ·exact Sz.Fe7 hx.2 n
  ·rw[hp] at h24
   exact h24.ext hE32
 refine⟨fun hpos=>⟨by omega,fun hev=>?_,fun hod s55 W56 hE56 hO55 _=>two (fun e=>hod ?_) (Ext.refl _) s55 W56 hE56 hO55⟩,fun h0 s66 W67 hE67 hO66 _=>two (fun e=>h0 ?_) (Ext.refl _) s66 W67 hE67 hO66⟩
 ·have hev':n%2=0:=by have:=Int.tmod_eq_emod_of_nonneg (a:=(n:Int)) (b:=2) (by omega);omega
  have hE:=hE2.trans hE7
  refine Aq7 (h1.ext hE).1 fun W12 hE12 _=>⟨_,rfl,fun hlo=>?_,fun hlo s44 W45 hE45 hO44 _=>two (fun e=>hlo ?_) hE12 s44 W45 hE45 hO44⟩
  ·refine Aq7 (h1'.ext (hE.trans hE12)).1 fun W15 hE15 _=>⟨_,rfl,fun hhi=>?_,fun hhi s33 W34 hE34 hO33 _=>two (fun e=>hhi ?_) (hE12.trans hE15) s33 W34 hE34 hO33⟩
   ·rw[Bo6] at hlo hhi
    have hlo:=At6.1 hlo
    have hhi:=Al3.1 hhi
    rw[if_pos ⟨by omega,hev',hlo,hhi⟩] at hp
    refine Ak1 (z:=0) (by unfold I64;omega) fun b19 s20 s21 W18 hE18 h18=>⟨b19,s20,s21,rfl,by simp,fun s22 W23 hE23 hO22 _=>?_⟩
    have hEE:=((hE12.trans hE15).trans hE18).trans hE23
    have hR:=Ej0 (g1.ext (hE7.trans hEE)) (g2.ext hEE) (h18.ext hE23) hO22.row
    refine At0 (k:=k*n+1) hR ?_ (by simp) (by omega) (by simp) fun l W24 hE24 h24=>h24.out fun b s t b' s' t' h24 W32 hE32=>⟨_,rfl,?_⟩
    ·intro z hz
     simp only[List.mem_cons,List.not_mem_nil,or_false] at hz
     rcases hz with rfl | rfl | rfl
     ·exact Sz.Fe7 hx.1 n
     ·exact Sz.Fe7 hx.2 n
     ·exact Sz.zero (by omega)
    ·rw[show((0:Int):Rat)=0 from rfl,hp] at h24
     exact h24.ext hE32
   ·rw[Bo6]
    exact Al3.2 e.2.2.2
  ·rw[Bo6]
   exact At6.2 e.2.2.1
 ·have:=Int.tmod_eq_emod_of_nonneg (a:=(n:Int)) (b:=2) (by omega)
  have:=e.2.1
  omega
 ·have:=e.1
  omega
theorem Bw0 {W0 W:PW} {M:Nat→Prop} {l1:List Value} {x:Iv} {n k:Nat} {K:Value→PW→Prop} (h1:Ah6 240 W l1 x) (hx:IvS k x) (hxx:x.1≤x.2) (hk:k≤1048576) (hn:n≤255) (kont: ∀(l:List Value) (W':PW),Ext W W'→(Ah6 240 W' l (Ai3 x n))→K (.agg ⟨l⟩) W'):
  Aa1 Tryz.prog W0 M 127 [.agg ⟨l1⟩,.int .i64 (n:Int)] W K:=
 Aa2 (fun W' hE=>Cl0 (M:=fun _=>False) (h1.ext hE) hx hxx hk hn) (fun W' v W'' hE hE' hP=>by
  obtain⟨l,rfl,h⟩:=hP
  exact kont l W'' (hE.trans hE') h)
end Go.Proofs.YtahohahjnhfedaaGreat
/- bound.Over, cinctureref1.Over. -/
namespace Go.Proofs.YtahohahjnhfedaaGreat
open Go Go.SX
theorem Dq6 {m:Mon} (h:m.ok) (k:Nat):An6 m k=((mex m k:Nat):Int):=by
 unfold Mon.ok at h
 unfold An6 mex
 (repeat' split)<;>omega
def ovO (W0:PW) (p:List Tm) (b:Nat→Iv) (L:List PL) (W:PW):Prop:=match L with
 | [.val (.int .i64 i),.cells l]=>∃j:Nat,i=(j:Int)∧j≤p.length∧Ext W0 W∧SpV 240 W l (Aq8 b (p.take j))
 | _=>False
def ovI (W0:PW) (t:Tm) (b:Nat→Iv) (L:List PL) (W:PW):Prop:=match L with
 | [.val (.int .i64 i),.cells l]=>∃j:Nat,i=(j:Int)∧j≤3∧Ext W0 W∧SpV 240 W l (Ci9 b t j)
 | _=>False
theorem Fl7 {b:Nat→Iv} {p:List Tm} {k m e:Nat} (hp:Bd k p) (hm: ∀i,BdI m (b i)) (he: ∀t∈p,∀i,mex t.1 i≤e) (he2:e≤255) (hm2:m≤1000) (hk:k≤200000000):
  (∀j,IvS 210000000 (Aq8 b (p.take j)))∧(∀t∈p,∀j,j≤3→IvS 210000000 (Ci9 b t j))∧(∀t∈p,∀j,IvS 210000000 (Ai3 (b j) (mex t.1 j)))∧∀j,IvS 1048576 (b j):=by
 have hme:=Nat.mul_le_mul (show m+1≤1001 by omega) he2
 have hme':=Nat.mul_le_mul hm2 he2
 refine⟨fun j=>((Cv6 (hp.take j) hm fun t ht=>he t (List.mem_of_mem_take ht)).mono (by omega)).sz,fun t ht j hj=>((Ef7 (hp.sz t ht) hm (he t ht) j).mono ?_).sz,fun t ht j=>(((hm j).pow (mex t.1 j)).mono ?_).sz,fun j=>((hm j).mono (by omega)).sz⟩
 ·have:=Nat.mul_le_mul hj (show m*e+1≤1000*255+1 by omega)
  omega
 ·have:=Nat.mul_le_mul hm2 (Nat.le_trans (he t ht j) he2)
  omega
theorem Cz2 {W0:PW} {M:Nat→Prop} {s:Sl} {l:List Value} {p:List Tm} {b:Nat→Iv} {k m e:Nat} (h:Ab0 240 196 W0 s p) (hb:DmV 240 W0 l b) (hp:Bd k p) (hm: ∀i,BdI m (b i)) (he: ∀t∈p,∀i,mex t.1 i≤e) (he2:e≤255) (hm2:m≤1000) (hk:k≤200000000) (hl:p.length≤1073741824):
  Aa0 Tryz.prog 114 [.agg ⟨[s.v]⟩,.agg ⟨l⟩] W0 M fun v W'=>∃(r:List Value),v = .agg ⟨r⟩∧SpV 240 W' r (Aq8 b p):=by
 obtain⟨z1,z2,z3,z4⟩:=Fl7 hp hm he he2 hm2 hk
 have hb0:=hb
 obtain⟨s0,b0,t0,s1,b1,t1,s2,b2,t2,s3,b3,t3,s4,b4,t4,s5,b5,t5,rfl,_⟩:=hb
 apply Bz6
 obtain⟨xs,hr,ha⟩:=h
 have hxl:=ha.len
 refine Ba1 hr (by omega) fun s3 W2 hE2 ⟨_,hO⟩=>⟨s3,rfl,?_⟩
 have h3:Ab0 240 196 W2 s3 p:=⟨xs,hO.row,ha.mono fun _ _ e=>e.ext hE2⟩
 have hn:=h3.n
 refine⟨ovO W2 p b,cn1 p.length,⟨0,rfl,Nat.zero_le _,Ext.refl _,SpV.zero W2⟩,?_⟩
 rintro s6 b7 s8 s9 b10 s11 i12 W13 ⟨j,rfl,hj,hE13,hS⟩
 refine⟨fun hlt=>?_,fun hge W69 hE69=>⟨_,rfl,?_⟩⟩
 ·have hjl:j<p.length:=by omega
  have hP:=h3.ext hE13
  have hmem:=List.getElem_mem hjl
  obtain⟨h0,c1,d1,c2,e1,_,_,hq⟩:=hP.at (List.getElem?_eq_getElem hjl)
  refine⟨hP.inB (by omega) (by omega),_,_,_,c1,d1,c2,e1,De4 hq fun r W21 hE21 h21=>h21.out fun s22 b23 s24 s25 b26 s27 h21=>?_⟩
  refine⟨ovI W21 p[j] b,cn1 3,⟨0,rfl,Nat.zero_le _,Ext.refl _,h21⟩,?_⟩
  rintro s30 b31 s32 s33 b34 s35 i36 W37 ⟨v,rfl,hv,hE37,hT⟩
  refine⟨fun hlt3=>?_,fun hge3=>?_⟩
  ·have hv3:v<3:=by omega
   have hbW:=(hb0.ext (hE2.trans (hE13.trans (hE21.trans hE37))))
   obtain⟨x1,y1,x2,x3,y2,x4,hbx,hsp⟩:=hbW.box hv3
   have hmx:=he _ hmem v
   refine⟨⟨by omega,by omega⟩,_,Cn5 p[j].1 hv3,?_⟩
   rw[Dq6 h0 v]
   refine⟨fun hpos=>⟨⟨by omega,by omega⟩,x1,y1,x2,x3,y2,x4,hbx,by unfold I64;omega,?_⟩,fun hno=>⟨by unfold I64;omega,⟨v+1,by push_cast;rfl,by omega,hE37,?_⟩,?_⟩⟩
   ·refine Co8 hsp (z4 v) (by omega) (by omega) fun r W46 hE46 h46=>h46.out fun s47 b48 s49 s50 b51 s52 h46=>?_
    refine Cx4 (hT.ext hE46) h46 (z2 _ hmem v hv) (z3 _ hmem v) (by omega) fun r W54 hE54 h54=>h54.out fun s55 b56 s57 s58 b59 s60 h54=>⟨by unfold I64;omega,⟨v+1,by push_cast;rfl,by omega,hE37.trans (hE46.trans hE54),?_⟩,?_⟩
    ·rw[Ci9,if_pos (by omega)]
     exact h54
    ·show 3-Int.toNat ((v:Int)+1)<3-Int.toNat (v:Int)
     omega
   ·rw[Ci9,if_neg (by omega)]
    exact hT
   ·show 3-Int.toNat ((v:Int)+1)<3-Int.toNat (v:Int)
    omega
  ·have:v=3:=by omega
   subst this
   refine Cy0 (hS.ext (hE21.trans hE37)) hT (z1 j) (z2 _ hmem 3 (Nat.le_refl _)) (by omega) fun r W62 hE62 h62=>h62.out fun s63 b64 s65 s66 b67 s68 h62=>⟨by unfold I64;omega,⟨j+1,by push_cast;rfl,by omega,hE13.trans (hE21.trans (hE37.trans hE62)),?_⟩,?_⟩
   ·rw[List.take_succ_eq_append_getElem hjl,Bt2]
    exact h62
   ·show p.length-Int.toNat ((j:Int)+1)<p.length-Int.toNat (j:Int)
    omega
 ·have:j=p.length:=by omega
  subst this
  rw[List.take_length] at hS
  exact hS.ext hE69
theorem Az5 {W0 W:PW} {M:Nat→Prop} {s:Sl} {l:List Value} {p:List Tm} {b:Nat→Iv} {k m e:Nat} {K:Value→PW→Prop} (h:Ab0 240 196 W s p) (hb:DmV 240 W l b) (hp:Bd k p) (hm: ∀i,BdI m (b i)) (he: ∀t∈p,∀i,mex t.1 i≤e) (he2:e≤255) (hm2:m≤1000) (hk:k≤200000000) (hl:p.length≤1073741824) (kont: ∀(r:List Value) (W':PW),Ext W W'→(SpV 240 W' r (Aq8 b p))→K (.agg ⟨r⟩) W'):
  Aa1 Tryz.prog W0 M 114 [.agg ⟨[s.v]⟩,.agg ⟨l⟩] W K:=
 Aa2 (fun W' hE=>Cz2 (M:=fun _=>False) (h.ext hE) (hb.ext hE) hp hm he he2 hm2 hk hl) (fun W' v W'' hE hE' hP=>by
  obtain⟨r,rfl,h⟩:=hP
  exact kont r W'' (hE.trans hE') h)
def orO (W0:PW) (p:List Tm) (b:Nat→Iv) (L:List PL) (W:PW):Prop:=match L with
 | [.val (.int .i64 i),.cells l]=>∃j:Nat,i=(j:Int)∧j≤p.length∧Ext W0 W∧Ah6 240 W l (Aq8 b (p.take j))
 | _=>False
def orI (W0:PW) (t:Tm) (b:Nat→Iv) (L:List PL) (W:PW):Prop:=match L with
 | [.val (.int .i64 i),.cells l]=>∃j:Nat,i=(j:Int)∧j≤3∧Ext W0 W∧Ah6 240 W l (Ci9 b t j)
 | _=>False
theorem Eb8 {W0:PW} {M:Nat→Prop} {s:Sl} {l:List Value} {p:List Tm} {b:Nat→Iv} {k m e:Nat} (h:Ag1 240 120 W0 s p) (hb:Cf1 240 W0 l b) (hp:Bd k p) (hm: ∀i,BdI m (b i)) (ho: ∀i,(b i).1≤(b i).2) (he: ∀t∈p,∀i,mex t.1 i≤e) (he2:e≤255) (hm2:m≤1000) (hk:k≤200000000) (hl:p.length≤1073741824):
  Aa0 Tryz.prog 53 [s.v,.agg ⟨l⟩] W0 M fun v W'=>∃(r:List Value),v = .agg ⟨r⟩∧Ah6 240 W' r (Aq8 b p):=by
 obtain⟨z1,z2,z3,z4⟩:=Fl7 hp hm he he2 hm2 hk
 have hb0:=hb
 obtain⟨b0,s0,t0,b1,s1,t1,b2,s2,t2,b3,s3,t3,b4,s4,t4,b5,s5,t5,rfl,_⟩:=hb
 apply Cj4
 have hn:=h.n
 refine Ak1 (z:=0) (by unfold I64;omega) fun b3 s4 s5 W2 hE2 h2=>⟨b3,s4,s5,rfl,Bd0 h2 fun r W7 hE7 h7=>h7.out fun b8 s9 s10 b11 s12 s13 h7=>?_⟩
 refine⟨orO W7 p b,cn1 p.length,⟨0,rfl,Nat.zero_le _,Ext.refl _,h7⟩,?_⟩
 rintro b16 s17 s18 b19 s20 s21 i22 W23 ⟨j,rfl,hj,hE23,hS⟩
 have h23:=h.ext (hE2.trans (hE7.trans hE23))
 refine⟨fun hlt=>?_,fun hge W76 hE76=>⟨_,rfl,?_⟩⟩
 ·have hjl:j<p.length:=by omega
  have hmem:=List.getElem_mem hjl
  obtain⟨h0,c1,d1,c2,_,_,e3,hq⟩:=h23.at (List.getElem?_eq_getElem hjl)
  refine⟨h23.inB (by omega) (by omega),_,_,_,e3,Bd0 hq fun r W28 hE28 h28=>h28.out fun b29 s30 s31 b32 s33 s34 h28=>?_⟩
  refine⟨orI W28 p[j] b,cn1 3,⟨0,rfl,Nat.zero_le _,Ext.refl _,h28⟩,?_⟩
  rintro b37 s38 s39 b40 s41 s42 i43 W44 ⟨v,rfl,hv,hE44,hT⟩
  refine⟨fun hlt3=>?_,fun hge3=>?_⟩
  ·have hv3:v<3:=by omega
   have h44:=h23.ext (hE28.trans hE44)
   have hbW:=(hb0.ext (hE2.trans (hE7.trans (hE23.trans (hE28.trans hE44)))))
   obtain⟨x1,y1,x2,x3,y2,x4,hbx,hsp⟩:=hbW.box hv3
   have hmx:=he _ hmem v
   have hel:Aa7 W44 s 6 j (0+Int.toNat (v:Int)*1) [.int .u8 (An6 p[j].1 v)]:=by
    obtain⟨ys,r1,a1⟩:=h44
    obtain⟨x,hx,_,d,e,f,rfl,_⟩:=a1.get (List.getElem?_eq_getElem hjl)
    rcases(by omega:v=0∨v=1∨v=2) with rfl | rfl | rfl
    ·exact r1.part hx 0 rfl
    ·exact r1.part hx 1 rfl
    ·exact r1.part hx 2 rfl
   rw[Dq6 h0 v] at hel
   refine⟨⟨by omega,by omega⟩,x1,y1,x2,x3,y2,x4,hbx,h44.inB (by omega) (by omega),⟨by omega,by omega⟩,_,hel,by unfold I64;omega,?_⟩
   refine Bw0 hsp (z4 v) (ho v) (by omega) (by omega) fun r W53 hE53 h53=>h53.out fun b54 s55 s56 b57 s58 s59 h53=>⟨hE53,?_⟩
   refine Bt1 (hT.ext hE53) h53 (z2 _ hmem v hv) (z3 _ hmem v) (by omega) fun r W61 hE61 h61=>h61.out fun b62 s63 s64 b65 s66 s67 h61=>⟨hE61,by unfold I64;omega,⟨v+1,by push_cast;rfl,by omega,hE44.trans (hE53.trans hE61),?_⟩,?_⟩
   ·rw[Ev5] at h61
    exact h61
   ·show 3-Int.toNat ((v:Int)+1)<3-Int.toNat (v:Int)
    omega
  ·have:v=3:=by omega
   subst this
   refine Bp3 (hS.ext (hE28.trans hE44)) hT (z1 j) (z2 _ hmem 3 (Nat.le_refl _)) (by omega) fun r W69 hE69 h69=>h69.out fun b70 s71 s72 b73 s74 s75 h69=>⟨by unfold I64;omega,⟨j+1,by push_cast;rfl,by omega,hE23.trans (hE28.trans (hE44.trans hE69)),?_⟩,?_⟩
   ·rw[List.take_succ_eq_append_getElem hjl,Bt2]
    exact h69
   ·show p.length-Int.toNat ((j:Int)+1)<p.length-Int.toNat (j:Int)
    omega
 ·have:j=p.length:=by omega
  subst this
  rw[List.take_length] at hS
  exact hS.ext hE76
theorem Cs3 {W0 W:PW} {M:Nat→Prop} {s:Sl} {l:List Value} {p:List Tm} {b:Nat→Iv} {k m e:Nat} {K:Value→PW→Prop} (h:Ag1 240 120 W s p) (hb:Cf1 240 W l b) (hp:Bd k p) (hm: ∀i,BdI m (b i)) (ho: ∀i,(b i).1≤(b i).2) (he: ∀t∈p,∀i,mex t.1 i≤e) (he2:e≤255) (hm2:m≤1000) (hk:k≤200000000) (hl:p.length≤1073741824) (kont: ∀(r:List Value) (W':PW),Ext W W'→(Ah6 240 W' r (Aq8 b p))→K (.agg ⟨r⟩) W'):
  Aa1 Tryz.prog W0 M 53 [s.v,.agg ⟨l⟩] W K:=
 Aa2 (fun W' hE=>Eb8 (M:=fun _=>False) (h.ext hE) (hb.ext hE) hp hm ho he he2 hm2 hk hl) (fun W' v W'' hE hE' hP=>by
  obtain⟨r,rfl,h⟩:=hP
  exact kont r W'' (hE.trans hE') h)
end Go.Proofs.YtahohahjnhfedaaGreat
/- poly.Compose, cinctureref1.Compose. -/
namespace Go.Proofs.YtahohahjnhfedaaGreat
open Go Go.SX
end Go.Proofs.YtahohahjnhfedaaGreat
/- box.Right, gram.side, gram.Sum, and the reference's. -/
namespace Go.Proofs.YtahohahjnhfedaaGreat
open Go Go.SX
def brI (W0:PW) (bs:List Iv) (L:List PL) (W:PW):Prop:=match L with
 | [.val (.int .i64 i)]=>∃j:Nat,i=(j:Int)∧j≤bs.length∧Ext W0 W∧∀x∈bs.take j,x.1<x.2
 | _=>False
theorem Ey3 {bs:List Iv} {j:Nat} (hj:j<bs.length) (h: ∀x∈bs.take j,x.1<x.2) (h2:bs[j].1<bs[j].2): ∀x∈bs.take (j+1),x.1<x.2:=fun x hx=>by
 rw[List.take_succ_eq_append_getElem hj,List.mem_append,List.mem_singleton] at hx
 rcases hx with hx | rfl
 ·exact h x hx
 ·exact h2
theorem Dk1 {W0:PW} {M:Nat→Prop} {s:Sl} {bs:List Iv} {k:Nat} (h:Bc3 240 W0 s bs) (hk: ∀x∈bs,IvS k x) (hk2:k≤1048576) (hl:bs.length≤1048576):
  Aa0 Tryz.prog 61 [s.v] W0 M fun v W'=>v = .bool (decide (Cn7 bs))∧True:=by
 apply Ck4
 have hn:=h.n
 refine⟨brI W0 bs,cn1 bs.length,⟨0,rfl,Nat.zero_le _,Ext.refl _,fun x hx=>(by cases hx)⟩,?_⟩
 rintro i3 W4 ⟨j,rfl,hj,hE4,hall⟩
 have h4:=Bc3.ext h hE4
 refine⟨fun hlt=>?_,fun hge=>?_⟩
 ·have hjl:j<bs.length:=by omega
  obtain⟨x,hx,hel⟩:=h4.at hjl
  obtain⟨s5,b6,s7,s8,b9,s10,rfl,q1,q2⟩:=hx
  have hz:=hk _ (List.getElem_mem hjl)
  refine⟨h4.inB (by omega) (by omega),s5,b6,s7,s8,b9,s10,hel 0 rfl,Aj2 q1 q2 hz.1 hz.2 (by omega) (by omega) fun W12 hE12 _=>⟨_,rfl,fun h0 W14 _=>⟨?_,trivial⟩,fun h0=>⟨by unfold I64;omega,⟨j+1,by push_cast;rfl,by omega,hE4.trans hE12,Ey3 hjl hall (At6.1 (by omega))⟩,?_⟩⟩⟩
  ·rw[decide_eq_false fun e=>Rat.not_lt.2 (El9.1 h0) (e.2 _ (List.getElem_mem hjl))]
  ·show bs.length-Int.toNat ((j:Int)+1)<bs.length-Int.toNat (j:Int)
   omega
 ·have:j=bs.length:=by omega
  subst this
  rw[List.take_length] at hall
  refine⟨fun h1 W15 _=>⟨?_,trivial⟩,fun h1 W16 _=>⟨?_,trivial⟩⟩
  ·congr 1
   rw[decide_eq_decide]
   exact⟨fun h=>⟨⟨by omega,by omega⟩,hall⟩,fun h=>by have:=h.1.2;omega⟩
  ·rw[decide_eq_false fun e=>by have:=e.1.1;omega]
theorem Cm2 {W0 W:PW} {M:Nat→Prop} {s:Sl} {bs:List Iv} {k:Nat} {K:Value→PW→Prop} (h:Bc3 240 W s bs) (hk: ∀x∈bs,IvS k x) (hk2:k≤1048576) (hl:bs.length≤1048576) (kont: ∀(W':PW),Ext W W'→(True)→K (.bool (decide (Cn7 bs))) W'):
  Aa1 Tryz.prog W0 M 61 [s.v] W K:=
 Aa2 (fun W' hE=>Dk1 (M:=fun _=>False) (h.ext hE) hk hk2 hl) (fun W' v W'' hE hE' hP=>by
  obtain⟨rfl,h⟩:=hP
  exact kont W'' (hE.trans hE') h)
theorem Hf7 {W0:PW} {M:Nat→Prop} {s:Sl} {bs:List Iv} {k:Nat} (h:Fx4 240 W0 s bs) (hk: ∀x∈bs,IvS k x) (hk2:k≤1048576) (hl:bs.length≤1048576):
  Aa0 Tryz.prog 64 [s.v] W0 M fun v W'=>v = .bool (decide (Cn7 bs))∧True:=by
 apply Hd6
 have hn:=h.n
 refine⟨fun h1 W1 _=>⟨by rw[decide_eq_false fun e=>by have:=e.1.1;omega],trivial⟩,fun h1=>⟨fun h3 W2 _=>⟨by rw[decide_eq_false fun e=>by have:=e.1.2;omega],trivial⟩,fun h3=>?_⟩⟩
 refine⟨brI W0 bs,cn1 bs.length,⟨0,rfl,Nat.zero_le _,Ext.refl _,fun x hx=>(by cases hx)⟩,?_⟩
 rintro i3 W4 ⟨j,rfl,hj,hE4,hall⟩
 have h4:=Fx4.ext h hE4
 refine⟨fun hlt=>?_,fun hge W17 _=>⟨?_,trivial⟩⟩
 ·have hjl:j<bs.length:=by omega
  obtain⟨x,hx,hel⟩:=h4.at hjl
  obtain⟨b7,s8,s9,b10,s11,s12,rfl,q1,q2⟩:=hx
  have hz:=hk _ (List.getElem_mem hjl)
  have hib:=h4.inB (i:=(j:Int)) (by omega) (by omega)
  refine⟨hib,b7,s8,s9,hel 0 rfl,hib,b10,s11,s12,hel 3 rfl,Ar1 q1 q2 hz.1 hz.2 (by omega) (by omega) fun W12 hE12 _=>⟨_,rfl,fun h0 W14 _=>⟨?_,trivial⟩,fun h0=>⟨by unfold I64;omega,⟨j+1,by push_cast;rfl,by omega,hE4.trans hE12,Ey3 hjl hall (At6.1 (by omega))⟩,?_⟩⟩⟩
  ·rw[decide_eq_false fun e=>Rat.not_lt.2 (El9.1 h0) (e.2 _ (List.getElem_mem hjl))]
  ·show bs.length-Int.toNat ((j:Int)+1)<bs.length-Int.toNat (j:Int)
   omega
 ·have:j=bs.length:=by omega
  subst this
  rw[List.take_length] at hall
  rw[decide_eq_true ⟨⟨by omega,by omega⟩,hall⟩]
theorem He1 {W0 W:PW} {M:Nat→Prop} {s:Sl} {bs:List Iv} {k:Nat} {K:Value→PW→Prop} (h:Fx4 240 W s bs) (hk: ∀x∈bs,IvS k x) (hk2:k≤1048576) (hl:bs.length≤1048576) (kont: ∀(W':PW),Ext W W'→(True)→K (.bool (decide (Cn7 bs))) W'):
  Aa1 Tryz.prog W0 M 64 [s.v] W K:=
 Aa2 (fun W' hE=>Hf7 (M:=fun _=>False) (h.ext hE) hk hk2 hl) (fun W' v W'' hE hE' hP=>by
  obtain⟨rfl,h⟩:=hP
  exact kont W'' (hE.trans hE') h)
def Fj5 (l:List SqP) (bs:List Iv):Prop:=Cn7 bs∧∀s∈l,0≤s.g∧s.g≤(bs.length:Int)
instance (l:List SqP) (bs:List Iv):Decidable (Fj5 l bs):=by unfold Fj5;infer_instance
end Go.Proofs.YtahohahjnhfedaaGreat
/- cinctureref1.times; poly.At, cinctureref1.At. -/
namespace Go.Proofs.YtahohahjnhfedaaGreat
open Go Go.SX
end Go.Proofs.YtahohahjnhfedaaGreat
/- What a polynomial comes to at a point is in what its terms come to on intervals around it: plain law. -/
namespace Go.Proofs.YtahohahjnhfedaaGreat
open Go Go.SX
end Go.Proofs.YtahohahjnhfedaaGreat
