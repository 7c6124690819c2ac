/- The reference's intervals; cincturelaw5.Is, Of; span.Parse. -/
import Derived.Test.YthpmkcidkcmlgaaGreatW16
import Derived.Test.YthpmkcidkcmlgaaGreatW10
import Derived.Test.YthpmkcidkcmlgaaGreatLib4
import Derived.Test.YthpmkcidkcmlgaaGreatW14
import Derived.Test.YthpmkcidkcmlgaaGreatR13
set_option linter.unusedVariables false
set_option linter.unusedSimpArgs false
set_option maxRecDepth 100000
set_option linter.unusedVariables false
set_option linter.unusedSimpArgs false
namespace Go.Proofs.YthpmkcidkcmlgaaGreat
open Go Go.SX
theorem refPoint_ok {W0:PW} {M:Nat→Prop} {s t:Sl} {b:Bool} {r:Rat} (h:IsRefQ 317 W0 b s t r):
  PCallsM Go.Proofs.Tryz.prog 146 [.agg ⟨[.bool b,s.v,t.v]⟩] W0 M fun v W'=>∃(l:List Value),v = .agg ⟨l⟩∧RSpV 317 W' l (ivPt r):=by
 apply callref1_Point
 exact fun W1 hE=>⟨_,rfl,RSpV.mk (x:=ivPt r) (h.ext hE) (h.ext hE)⟩
theorem refPoint_call {W0 W:PW} {M:Nat→Prop} {s t:Sl} {b:Bool} {r:Rat} {K:Value→PW→Prop} (h:IsRefQ 317 W b s t r) (kont: ∀(l:List Value) (W':PW),Ext W W'→(RSpV 317 W' l (ivPt r))→K (.agg ⟨l⟩) W'):
  callN Go.Proofs.Tryz.prog W0 M 146 [.agg ⟨[.bool b,s.v,t.v]⟩] W K:=
 callN_of (fun W' hE=>refPoint_ok (M:=fun _=>False) (h.ext hE)) (fun W' v W'' hE hE' hP=>by
  obtain⟨l,rfl,h⟩:=hP
  exact kont l W'' (hE.trans hE') h)
theorem refSpanAdd_ok {W0:PW} {M:Nat→Prop} {l1 l2:List Value} {x y:Iv} {k:Nat} (h1:RSpV 317 W0 l1 x) (h2:RSpV 317 W0 l2 y) (hx:IvS k x) (hy:IvS k y) (hk:k≤500000000):
  PCallsM Go.Proofs.Tryz.prog 57 [.agg ⟨l1⟩,.agg ⟨l2⟩] W0 M fun v W'=>∃(l:List Value),v = .agg ⟨l⟩∧RSpV 317 W' l (ivAdd x y):=by
 obtain⟨s0,b0,t0,s1,b1,t1,rfl,h1,h1'⟩:=h1
 obtain⟨s2,b2,t2,s3,b3,t3,rfl,h2,h2'⟩:=h2
 apply callref1_SpanAdd
 exact refQAdd_call h1 h2 hx.1 hy.1 hk hk fun s3 b4 s5 W2 hE2 g1=>⟨s3,b4,s5,rfl,refQAdd_call (h1'.ext hE2) (h2'.ext hE2) hx.2 hy.2 hk hk fun s8 b9 s10 W7 hE7 g2=>⟨s8,b9,s10,rfl,fun W11 hE11=>⟨_,rfl,RSpV.mk (x:=ivAdd x y) (g1.ext (hE7.trans hE11)) (g2.ext hE11)⟩⟩⟩
theorem refSpanAdd_call {W0 W:PW} {M:Nat→Prop} {l1 l2:List Value} {x y:Iv} {k:Nat} {K:Value→PW→Prop} (h1:RSpV 317 W l1 x) (h2:RSpV 317 W l2 y) (hx:IvS k x) (hy:IvS k y) (hk:k≤500000000) (kont: ∀(l:List Value) (W':PW),Ext W W'→(RSpV 317 W' l (ivAdd x y))→K (.agg ⟨l⟩) W'):
  callN Go.Proofs.Tryz.prog W0 M 57 [.agg ⟨l1⟩,.agg ⟨l2⟩] W K:=
 callN_of (fun W' hE=>refSpanAdd_ok (M:=fun _=>False) (h1.ext hE) (h2.ext hE) hx hy hk) (fun W' v W'' hE hE' hP=>by
  obtain⟨l,rfl,h⟩:=hP
  exact kont l W'' (hE.trans hE') h)
def qlist (q:List Rat) (i:Nat):Rat:=q.getD i 0
def lsI (W0:PW) (q:List Rat) (L:List PL) (W:PW):Prop:=match L with
 | [.val (.int .i64 i),.cells l]=>∃j:Nat,i=(j:Int)∧1≤j∧j≤q.length∧Ext W0 W∧RSpV 317 W l (leastL (q.take j))
 | _=>False
theorem foldl_or {f:Rat→Rat→Rat} (hf: ∀a b,f a b=a∨f a b=b): ∀(r:List Rat) (a:Rat),r.foldl f a=a∨r.foldl f a∈r
 | [],a=>.inl rfl
 | x :: r,a=>by
  rw[List.foldl_cons]
  rcases foldl_or hf r (f a x) with h | h
  ·rw[h]
   rcases hf a x with e | e
   ·exact .inl e
   ·exact .inr (by rw[e];simp)
  ·exact .inr (List.mem_cons_of_mem _ h)
theorem least_mem {q:List Rat} (h:q≠[]):(leastL q).1∈q∧(leastL q).2∈q:=by
 cases q with
 | nil=>exact absurd rfl h
 | cons a r=>
  constructor
  ·rcases foldl_or rmin_or r a with e | e
   ·show r.foldl rmin a∈_;rw[e];simp
   ·exact List.mem_cons_of_mem _ e
  ·rcases foldl_or rmax_or r a with e | e
   ·show r.foldl rmax a∈_;rw[e];simp
   ·exact List.mem_cons_of_mem _ e
theorem least_snoc {q:List Rat} {x:Rat} (h:q≠[]):leastL (q ++ [x])=(rmin (leastL q).1 x,rmax (leastL q).2 x):=by
 cases q with
 | nil=>exact absurd rfl h
 | cons a r=>simp[leastL,List.foldl_append]
theorem refLeast_ok {W0:PW} {M:Nat→Prop} {s:Sl} {q:List Rat} {k:Nat} (h:IsRQs 317 92 W0 s q.length (qlist q)) (hq: ∀x∈q,Sz k x) (h0:q≠[]) (hk:k≤500000000) (hl:q.length≤1048576):
  PCallsM Go.Proofs.Tryz.prog 200 [s.v] W0 M fun v W'=>∃(l:List Value),v = .agg ⟨l⟩∧RSpV 317 W' l (leastL q):=by
 apply callref1_Least
 have hn:=h.n
 have hpos:0<q.length:=List.length_pos_iff.2 h0
 obtain⟨s1,b1,s2,e1,g1⟩:=h.at (i:=0) hpos
 refine⟨h.inB (by omega) (by omega),b1,s1,s2,e1,h.inB (by omega) (by omega),b1,s1,s2,e1,lsI W0 q,fun L _=>match L with | [.val (.int .i64 i),_]=>q.length-i.toNat | _=>0,⟨1,rfl,Nat.le_refl _,hpos,Ext.refl _,?_⟩,?_⟩
 ·have e:q.take 1 = [qlist q 0]:=by
   cases q with
   | nil=>exact absurd rfl h0
   | cons a r=>rfl
  rw[e]
  exact RSpV.mk (x:=(qlist q 0,qlist q 0)) g1 g1
 ·rintro b9 s10 s11 b12 s13 s14 i15 W16 ⟨j,rfl,hj1,hj,hE16,hS⟩
  obtain⟨_,_,_,_,_,_,e,k1,k2⟩:=hS
  simp only[List.cons.injEq,Value.bool.injEq,and_true] at e
  obtain⟨e1,e2,e3,e4,e5,e6⟩:=e
  have e2:=Sl.v_inj e2
  have e3:=Sl.v_inj e3
  have e5:=Sl.v_inj e5
  have e6:=Sl.v_inj e6
  subst e1 e2 e3 e4 e5 e6
  have hne:q.take j≠[]:=fun e=>by
   have:=congrArg List.length e
   rw[List.length_take,List.length_nil] at this
   omega
  have hm:=least_mem hne
  have z1:=hq _ (List.mem_of_mem_take hm.1)
  have z2:=hq _ (List.mem_of_mem_take hm.2)
  refine⟨fun hlt=>?_,fun hge W44 hE44=>⟨_,rfl,?_⟩⟩
  ·have hjl:j<q.length:=by omega
   have hz:=hq _ (List.getElem_mem hjl)
   have hgq:qlist q j=q[j]:=by unfold qlist;rw[List.getD_eq_getElem?_getD,List.getElem?_eq_getElem hjl];rfl
   have fin:leastL (q.take (j+1))=(rmin (leastL (q.take j)).1 q[j],rmax (leastL (q.take j)).2 q[j]):=by rw[List.take_succ_eq_append_getElem hjl,least_snoc hne]
   have at_: ∀{W},Ext W0 W→SX.inB s (j:Int)∧∃(b:Bool) (u v:Sl),ElemAt W s 3 j 0 [.bool b,u.v,v.v]∧IsRefQ 317 W b u v q[j]:=fun {W} hE=>by
    obtain⟨s1,b1,s2,e1,g1⟩:=(h.ext hE).at hjl
    exact⟨h.inB (by omega) (by omega),b1,s1,s2,e1,hgq ▸ g1⟩
   have hmu:q.length-Int.toNat ((j:Int)+1)<q.length-Int.toNat (j:Int):=by omega
   have stepOK: ∀{W} {b u v b' u' v'},Ext W0 W→IsRefQ 317 W b u v (rmin (leastL (q.take j)).1 q[j])→IsRefQ 317 W b' u' v' (rmax (leastL (q.take j)).2 q[j])→lsI W0 q [.val (.int .i64 ((j:Int)+1)),.cells [.bool b,Sl.v u,Sl.v v,.bool b',Sl.v u',Sl.v v']] W:=fun hE p1 p2=>⟨j+1,by push_cast;rfl,by omega,by omega,hE,by rw[fin];exact RSpV.mk p1 p2⟩
   obtain⟨i1,b17,s18,s19,a17,q17⟩:=at_ hE16
   refine⟨i1,b17,s18,s19,a17,refQCmp_call q17 k1 hz z1 hk hk fun W21 hE21 _=>⟨_,rfl,fun hlo=>?_,fun hlo=>?_⟩⟩
   ·have hlo:=cmpQ_lt.1 hlo
    have emin:rmin (leastL (q.take j)).1 q[j]=q[j]:=if_pos hlo
    obtain⟨_,b23,s24,s25,a23,q23⟩:=at_ (hE16.trans hE21)
    obtain⟨_,b26,s27,s28,a26,q26⟩:=at_ (hE16.trans hE21)
    refine⟨i1,b23,s24,s25,a23,i1,b26,s27,s28,a26,refQCmp_call q26 (k2.ext hE21) hz z2 hk hk fun W30 hE30 _=>⟨_,rfl,fun hhi=>?_,fun hhi=>⟨by unfold I64;omega,stepOK ((hE16.trans hE21).trans hE30) (emin.symm ▸ q23.ext hE30) ?_,hmu⟩⟩⟩
    ·have hhi:=cmpQ_gt.1 hhi
     obtain⟨_,b32,s33,s34,a32,q32⟩:=at_ ((hE16.trans hE21).trans hE30)
     refine⟨i1,b32,s33,s34,a32,by unfold I64;omega,stepOK ((hE16.trans hE21).trans hE30) (emin.symm ▸ q23.ext hE30) ?_,hmu⟩
     rw[show rmax (leastL (q.take j)).2 q[j]=q[j] from if_pos hhi]
     exact q32
    ·rw[show rmax (leastL (q.take j)).2 q[j]=(leastL (q.take j)).2 from if_neg fun e=>hhi (cmpQ_gt.2 e)]
     exact k2.ext (hE21.trans hE30)
   ·have emin:rmin (leastL (q.take j)).1 q[j]=(leastL (q.take j)).1:=if_neg fun e=>hlo (cmpQ_lt.2 e)
    obtain⟨_,b35,s36,s37,a35,q35⟩:=at_ (hE16.trans hE21)
    refine⟨i1,b35,s36,s37,a35,refQCmp_call q35 (k2.ext hE21) hz z2 hk hk fun W39 hE39 _=>⟨_,rfl,fun hhi=>?_,fun hhi=>⟨by unfold I64;omega,stepOK ((hE16.trans hE21).trans hE39) (emin.symm ▸ k1.ext (hE21.trans hE39)) ?_,hmu⟩⟩⟩
    ·have hhi:=cmpQ_gt.1 hhi
     obtain⟨_,b41,s42,s43,a41,q41⟩:=at_ ((hE16.trans hE21).trans hE39)
     refine⟨i1,b41,s42,s43,a41,by unfold I64;omega,stepOK ((hE16.trans hE21).trans hE39) (emin.symm ▸ k1.ext (hE21.trans hE39)) ?_,hmu⟩
     rw[show rmax (leastL (q.take j)).2 q[j]=q[j] from if_pos hhi]
     exact q41
    ·rw[show rmax (leastL (q.take j)).2 q[j]=(leastL (q.take j)).2 from if_neg fun e=>hhi (cmpQ_gt.2 e)]
     exact k2.ext (hE21.trans hE39)
  ·have:j=q.length:=by omega
   subst this
   rw[List.take_length] at k1 k2
   exact RSpV.mk (k1.ext hE44) (k2.ext hE44)
theorem refLeast_call {W0 W:PW} {M:Nat→Prop} {s:Sl} {q:List Rat} {k:Nat} {K:Value→PW→Prop} (h:IsRQs 317 92 W s q.length (qlist q)) (hq: ∀x∈q,Sz k x) (h0:q≠[]) (hk:k≤500000000) (hl:q.length≤1048576) (kont: ∀(l:List Value) (W':PW),Ext W W'→(RSpV 317 W' l (leastL q))→K (.agg ⟨l⟩) W'):
  callN Go.Proofs.Tryz.prog W0 M 200 [s.v] W K:=
 callN_of (fun W' hE=>refLeast_ok (M:=fun _=>False) (h.ext hE) hq h0 hk hl) (fun W' v W'' hE hE' hP=>by
  obtain⟨l,rfl,h⟩:=hP
  exact kont l W'' (hE.trans hE') h)
theorem rqs_four {W:PW} {s:Sl} {ty:TypeId} {a b c d:Rat} {b1 b2 b3 b4:Bool} {s1 s2 s3 s4 t1 t2 t3 t4:Sl} (h1:IsRefQ 317 W b1 s1 t1 a) (h2:IsRefQ 317 W b2 s2 t2 b) (h3:IsRefQ 317 W b3 s3 t3 c) (h4:IsRefQ 317 W b4 s4 t4 d)
  (hr:Row W ty 3 s [[.bool b1,s1.v,t1.v],[.bool b2,s2.v,t2.v],[.bool b3,s3.v,t3.v],[.bool b4,s4.v,t4.v]]):IsRQs 317 ty W s [a,b,c,d].length (qlist [a,b,c,d]):=
 ⟨_,hr,rfl,fun i hi=>by
  have hi:i<4:=hi
  rcases(by omega:i=0∨i=1∨i=2∨i=3) with rfl | rfl | rfl | rfl
  ·exact⟨s1,b1,t1,rfl,h1⟩
  ·exact⟨s2,b2,t2,rfl,h2⟩
  ·exact⟨s3,b3,t3,rfl,h3⟩
  ·exact⟨s4,b4,t4,rfl,h4⟩⟩
theorem rqs_two {W:PW} {s:Sl} {ty:TypeId} {a b:Rat} {b1 b2:Bool} {s1 s2 t1 t2:Sl} (h1:IsRefQ 317 W b1 s1 t1 a) (h2:IsRefQ 317 W b2 s2 t2 b)
  (hr:Row W ty 3 s [[.bool b1,s1.v,t1.v],[.bool b2,s2.v,t2.v]]):IsRQs 317 ty W s [a,b].length (qlist [a,b]):=
 ⟨_,hr,rfl,fun i hi=>by
  have hi:i<2:=hi
  rcases(by omega:i=0∨i=1) with rfl | rfl
  ·exact⟨s1,b1,t1,rfl,h1⟩
  ·exact⟨s2,b2,t2,rfl,h2⟩⟩
theorem rqs_three {W:PW} {s:Sl} {ty:TypeId} {a b c:Rat} {b1 b2 b3:Bool} {s1 s2 s3 t1 t2 t3:Sl} (h1:IsRefQ 317 W b1 s1 t1 a) (h2:IsRefQ 317 W b2 s2 t2 b) (h3:IsRefQ 317 W b3 s3 t3 c)
  (hr:Row W ty 3 s [[.bool b1,s1.v,t1.v],[.bool b2,s2.v,t2.v],[.bool b3,s3.v,t3.v]]):IsRQs 317 ty W s [a,b,c].length (qlist [a,b,c]):=
 ⟨_,hr,rfl,fun i hi=>by
  have hi:i<3:=hi
  rcases(by omega:i=0∨i=1∨i=2) with rfl | rfl | rfl
  ·exact⟨s1,b1,t1,rfl,h1⟩
  ·exact⟨s2,b2,t2,rfl,h2⟩
  ·exact⟨s3,b3,t3,rfl,h3⟩⟩
theorem refSpanMul_ok {W0:PW} {M:Nat→Prop} {l1 l2:List Value} {x y:Iv} {k:Nat} (h1:RSpV 317 W0 l1 x) (h2:RSpV 317 W0 l2 y) (hx:IvS k x) (hy:IvS k y) (hk:k≤250000000):
  PCallsM Go.Proofs.Tryz.prog 138 [.agg ⟨l1⟩,.agg ⟨l2⟩] W0 M fun v W'=>∃(l:List Value),v = .agg ⟨l⟩∧RSpV 317 W' l (ivMul x y):=by
 obtain⟨s0,b0,t0,s1,b1,t1,rfl,h1,h1'⟩:=h1
 obtain⟨s2,b2,t2,s3,b3,t3,rfl,h2,h2'⟩:=h2
 apply callref1_SpanMul
 refine refQMul_call h1 h2 hx.1 hy.1 (by omega) (by omega) fun b3 s4 s5 W2 hE2 g1=>⟨b3,s4,s5,rfl,refQMul_call (h1.ext hE2) (h2'.ext hE2) hx.1 hy.2 (by omega) (by omega) fun b8 s9 s10 W7 hE7 g2=>⟨b8,s9,s10,rfl,?_⟩⟩
 have hE:=hE2.trans hE7
 refine refQMul_call (h1'.ext hE) (h2.ext hE) hx.2 hy.1 (by omega) (by omega) fun b13 s14 s15 W12 hE12 g3=>⟨b13,s14,s15,rfl,refQMul_call (h1'.ext (hE.trans hE12)) (h2'.ext (hE.trans hE12)) hx.2 hy.2 (by omega) (by omega) fun b18 s19 s20 W17 hE17 g4=>⟨b18,s19,s20,rfl,fun s21 W22 hE22 hO21 _=>?_⟩⟩
 have hR:=rqs_four (g1.ext (hE7.trans (hE12.trans (hE17.trans hE22)))) (g2.ext (hE12.trans (hE17.trans hE22))) (g3.ext (hE17.trans hE22)) (g4.ext hE22) hO21.row
 refine refLeast_call (k:=k+k) hR ?_ (by simp) (by omega) (by simp) fun l W24 hE24 h24=>h24.out fun b s t b' s' t' h24 W32 hE32=>⟨_,rfl,?_⟩
 ·intro z hz
  simp only[List.mem_cons,List.not_mem_nil,or_false] at hz
  rcases hz with rfl | rfl | rfl | rfl
  ·exact hx.1.mul hy.1
  ·exact hx.1.mul hy.2
  ·exact hx.2.mul hy.1
  ·exact hx.2.mul hy.2
 ·rw[least_mul] at h24
  exact h24.ext hE32
theorem refSpanMul_call {W0 W:PW} {M:Nat→Prop} {l1 l2:List Value} {x y:Iv} {k:Nat} {K:Value→PW→Prop} (h1:RSpV 317 W l1 x) (h2:RSpV 317 W l2 y) (hx:IvS k x) (hy:IvS k y) (hk:k≤250000000) (kont: ∀(l:List Value) (W':PW),Ext W W'→(RSpV 317 W' l (ivMul x y))→K (.agg ⟨l⟩) W'):
  callN Go.Proofs.Tryz.prog W0 M 138 [.agg ⟨l1⟩,.agg ⟨l2⟩] W K:=
 callN_of (fun W' hE=>refSpanMul_ok (M:=fun _=>False) (h1.ext hE) (h2.ext hE) hx hy hk) (fun W' v W'' hE hE' hP=>by
  obtain⟨l,rfl,h⟩:=hP
  exact kont l W'' (hE.trans hE') h)
def rpI (W0:PW) (q:Rat) (n:Nat) (L:List PL) (W:PW):Prop:=match L with
 | [.val (.int .i64 i),.cells [.bool x,.slice A m c,.slice A' m' c']]=>∃j:Nat,i=(j:Int)∧j≤n∧Ext W0 W∧IsRefQ 317 W x ⟨A,m,c⟩ ⟨A',m',c'⟩ (q^j)
 | _=>False
theorem refRatPow_ok {W0:PW} {M:Nat→Prop} {s t:Sl} {b:Bool} {q:Rat} {n k:Nat} (h:IsRefQ 317 W0 b s t q) (hz:Sz k q) (hk:k≤1048576) (hn:n≤255):
  PCallsM Go.Proofs.Tryz.prog 213 [.agg ⟨[.bool b,s.v,t.v]⟩,.int .i64 (n:Int)] W0 M fun v W'=>∃(b':Bool),∃(s':Sl),∃(t':Sl),v = .agg ⟨[.bool b',Sl.v s',Sl.v t']⟩∧IsRefQ 317 W' b' s' t' (q^n):=by
 apply callref1_RatPow
 have hmn:mn (mx (n:Int) 0) 255=(n:Int):=by unfold mn mx;(repeat' split)<;>omega
 unfold Rref1_RatPow
 rw[hmn]
 refine refRatOf_call (z:=1) (by unfold I64;omega) fun b3 s4 s5 W2 hE2 h2=>⟨b3,s4,s5,rfl,?_⟩
 refine⟨rpI W0 q n,fun l _=>match l with | [.val (.int .i64 i),_]=>n-i.toNat | _=>0,⟨0,rfl,by omega,hE2,by simpa using h2⟩,?_⟩
 rintro b8 s9 s10 i11 W12 ⟨j,rfl,hj,hE,hq⟩
 have hq:IsRefQ 317 W12 b8 s9 s10 (q^j):=hq
 refine⟨fun hlt=>?_,fun hge W18 hE18=>⟨b8,s9,s10,rfl,?_⟩⟩
 ·have h2:=Nat.mul_le_mul hk (by omega:j≤255)
  refine refQMul_call hq (h.ext hE) (Sz.powq hz j) hz (by omega) (by omega) fun b15 s16 s17 W14 hE14 h14=>⟨b15,s16,s17,rfl,by unfold I64;omega,⟨j+1,by push_cast;rfl,by omega,hE.trans hE14,by rw[Rat.pow_succ];exact h14⟩,?_⟩
  show n-Int.toNat ((j:Int)+1)<n-Int.toNat (j:Int)
  omega
 ·have:j=n:=by omega
  subst this
  exact hq.ext hE18
theorem refRatPow_call {W0 W:PW} {M:Nat→Prop} {s t:Sl} {b:Bool} {q:Rat} {n k:Nat} {K:Value→PW→Prop} (h:IsRefQ 317 W b s t q) (hz:Sz k q) (hk:k≤1048576) (hn:n≤255) (kont: ∀(b':Bool) (s':Sl) (t':Sl) (W':PW),Ext W W'→(IsRefQ 317 W' b' s' t' (q^n))→K (.agg ⟨[.bool b',Sl.v s',Sl.v t']⟩) W'):
  callN Go.Proofs.Tryz.prog W0 M 213 [.agg ⟨[.bool b,s.v,t.v]⟩,.int .i64 (n:Int)] W K:=
 callN_of (fun W' hE=>refRatPow_ok (M:=fun _=>False) (h.ext hE) hz hk hn) (fun W' v W'' hE hE' hP=>by
  obtain⟨b',s',t',rfl,h⟩:=hP
  exact kont b' s' t' W'' (hE.trans hE') h)
theorem refSpanPow_ok {W0:PW} {M:Nat→Prop} {l1:List Value} {x:Iv} {n k:Nat} (h1:RSpV 317 W0 l1 x) (hx:IvS k x) (hxx:x.1≤x.2) (hk:k≤1048576) (hn:n≤255):
  PCallsM Go.Proofs.Tryz.prog 147 [.agg ⟨l1⟩,.int .i64 (n:Int)] W0 M fun v W'=>∃(l:List Value),v = .agg ⟨l⟩∧RSpV 317 W' l (ivPow x n):=by
 obtain⟨s0,b0,t0,s1,b1,t1,rfl,h1,h1'⟩:=h1
 apply callref1_SpanPow
 have hm:=Nat.mul_le_mul hk hn
 have hmn:mn (mx (n:Int) 0) 255=(n:Int):=by unfold mn mx;(repeat' split)<;>omega
 unfold Rref1_SpanPow
 rw[hmn]
 have hp:=least_pow (n:=n) hxx
 refine refRatPow_call h1 hx.1 hk hn fun b3 s4 s5 W2 hE2 g1=>⟨b3,s4,s5,rfl,refRatPow_call (h1'.ext hE2) hx.2 hk hn fun b8 s9 s10 W7 hE7 g2=>⟨b8,s9,s10,rfl,?_⟩⟩
 have two: ∀(hno:¬(0<n∧n%2=0∧x.1<0∧0<x.2)) {W:PW} (hE:Ext W7 W) (s:Sl) (W':PW) (hE':Ext W W') (hO:SX.Own W' 92 3 s [[.bool b3,s4.v,s5.v],[.bool b8,s9.v,s10.v]]),
   callN Go.Proofs.Tryz.prog W0 M 200 [s.v] W' fun v57 W58=>∃(b59:Bool) (s60 s61:Sl) (b62:Bool) (s63 s64:Sl),v57 = .agg ⟨[.bool b59,s60.v,s61.v,.bool b62,s63.v,s64.v]⟩∧∀(W65:PW),Ext W58 W65→∃l,Value.agg ⟨[.bool b59,s60.v,s61.v,.bool b62,s63.v,s64.v]⟩ = .agg ⟨l⟩∧RSpV 317 W65 l (ivPow x n):=fun hno {W} hE s W' hE' hO=>by
  rw[if_neg hno] at hp
  have hR:=rqs_two (g1.ext ((hE7.trans hE).trans hE')) (g2.ext (hE.trans hE')) hO.row
  refine refLeast_call (k:=k*n+1) hR ?_ (by simp) (by omega) (by simp) fun l W24 hE24 h24=>h24.out fun b s t b' s' t' h24 W32 hE32=>⟨_,rfl,?_⟩
  ·intro z hz
   simp only[List.mem_cons,List.not_mem_nil,or_false] at hz
   rcases hz with rfl | rfl
   ·exact Sz.powq hx.1 n
   ·exact Sz.powq hx.2 n
  ·rw[hp] at h24
   exact h24.ext hE32
 refine⟨fun hpos=>⟨by omega,fun hev=>?_,fun hod s55 W56 hE56 hO55 _=>two (fun e=>hod ?_) (Ext.refl _) s55 W56 hE56 hO55⟩,fun h0 s66 W67 hE67 hO66 _=>two (fun e=>h0 ?_) (Ext.refl _) s66 W67 hE67 hO66⟩
 ·have hev':n%2=0:=by have:=Int.tmod_eq_emod_of_nonneg (a:=(n:Int)) (b:=2) (by omega);omega
  have hE:=hE2.trans hE7
  refine refSign_call (h1.ext hE).1 fun W12 hE12 _=>⟨_,rfl,fun hlo=>?_,fun hlo s44 W45 hE45 hO44 _=>two (fun e=>hlo ?_) hE12 s44 W45 hE45 hO44⟩
  ·refine refSign_call (h1'.ext (hE.trans hE12)).1 fun W15 hE15 _=>⟨_,rfl,fun hhi=>?_,fun hhi s33 W34 hE34 hO33 _=>two (fun e=>hhi ?_) (hE12.trans hE15) s33 W34 hE34 hO33⟩
   ·rw[sgnI_num] at hlo hhi
    have hlo:=cmpQ_lt.1 hlo
    have hhi:=cmpQ_gt.1 hhi
    rw[if_pos ⟨by omega,hev',hlo,hhi⟩] at hp
    refine refRatOf_call (z:=0) (by unfold I64;omega) fun b19 s20 s21 W18 hE18 h18=>⟨b19,s20,s21,rfl,by simp,fun s22 W23 hE23 hO22 _=>?_⟩
    have hEE:=((hE12.trans hE15).trans hE18).trans hE23
    have hR:=rqs_three (g1.ext (hE7.trans hEE)) (g2.ext hEE) (h18.ext hE23) hO22.row
    refine refLeast_call (k:=k*n+1) hR ?_ (by simp) (by omega) (by simp) fun l W24 hE24 h24=>h24.out fun b s t b' s' t' h24 W32 hE32=>⟨_,rfl,?_⟩
    ·intro z hz
     simp only[List.mem_cons,List.not_mem_nil,or_false] at hz
     rcases hz with rfl | rfl | rfl
     ·exact Sz.powq hx.1 n
     ·exact Sz.powq hx.2 n
     ·exact Sz.zero (by omega)
    ·rw[show((0:Int):Rat)=0 from rfl,hp] at h24
     exact h24.ext hE32
   ·rw[sgnI_num]
    exact cmpQ_gt.2 e.2.2.2
  ·rw[sgnI_num]
   exact cmpQ_lt.2 e.2.2.1
 ·have:=Int.tmod_eq_emod_of_nonneg (a:=(n:Int)) (b:=2) (by omega)
  have:=e.2.1
  omega
 ·have:=e.1
  omega
theorem refSpanPow_call {W0 W:PW} {M:Nat→Prop} {l1:List Value} {x:Iv} {n k:Nat} {K:Value→PW→Prop} (h1:RSpV 317 W l1 x) (hx:IvS k x) (hxx:x.1≤x.2) (hk:k≤1048576) (hn:n≤255) (kont: ∀(l:List Value) (W':PW),Ext W W'→(RSpV 317 W' l (ivPow x n))→K (.agg ⟨l⟩) W'):
  callN Go.Proofs.Tryz.prog W0 M 147 [.agg ⟨l1⟩,.int .i64 (n:Int)] W K:=
 callN_of (fun W' hE=>refSpanPow_ok (M:=fun _=>False) (h1.ext hE) hx hxx hk hn) (fun W' v W'' hE hE' hP=>by
  obtain⟨l,rfl,h⟩:=hP
  exact kont l W'' (hE.trans hE') h)
end Go.Proofs.YthpmkcidkcmlgaaGreat

/- bound.Over, cinctureref1.Over. -/
set_option maxRecDepth 100000
set_option linter.unusedVariables false
set_option linter.unusedSimpArgs false
namespace Go.Proofs.YthpmkcidkcmlgaaGreat
open Go Go.SX
theorem mex_eget {m:Mon} (h:m.ok) (k:Nat):eget m k=((mex m k:Nat):Int):=by
 unfold Mon.ok at h
 unfold eget mex
 (repeat' split)<;>omega
def ovO (W0:PW) (p:List Tm) (b:Nat→Iv) (L:List PL) (W:PW):Prop:=match L with
 | [.val (.int .i64 i),.cells l]=>∃j:Nat,i=(j:Int)∧j≤p.length∧Ext W0 W∧SpV 317 W l (ivOver b (p.take j))
 | _=>False
def ovI (W0:PW) (t:Tm) (b:Nat→Iv) (L:List PL) (W:PW):Prop:=match L with
 | [.val (.int .i64 i),.cells l]=>∃j:Nat,i=(j:Int)∧j≤3∧Ext W0 W∧SpV 317 W l (ivTm b t j)
 | _=>False
theorem ov_sz {b:Nat→Iv} {p:List Tm} {k m e:Nat} (hp:Bd k p) (hm: ∀i,BdI m (b i)) (he: ∀t∈p,∀i,mex t.1 i≤e) (he2:e≤255) (hm2:m≤1000) (hk:k≤200000000):
  (∀j,IvS 210000000 (ivOver b (p.take j)))∧(∀t∈p,∀j,j≤3→IvS 210000000 (ivTm b t j))∧(∀t∈p,∀j,IvS 210000000 (ivPow (b j) (mex t.1 j)))∧∀j,IvS 1048576 (b j):=by
 have hme:=Nat.mul_le_mul (show m+1≤1001 by omega) he2
 have hme':=Nat.mul_le_mul hm2 he2
 refine⟨fun j=>((ivOver_bd (hp.take j) hm fun t ht=>he t (List.mem_of_mem_take ht)).mono (by omega)).sz,fun t ht j hj=>((ivTm_bd (hp.sz t ht) hm (he t ht) j).mono ?_).sz,fun t ht j=>(((hm j).pow (mex t.1 j)).mono ?_).sz,fun j=>((hm j).mono (by omega)).sz⟩
 ·have:=Nat.mul_le_mul hj (show m*e+1≤1000*255+1 by omega)
  omega
 ·have:=Nat.mul_le_mul hm2 (Nat.le_trans (he t ht j) he2)
  omega
theorem boundOver_ok {W0:PW} {M:Nat→Prop} {s:Sl} {l:List Value} {p:List Tm} {b:Nat→Iv} {k m e:Nat} (h:IsPoly 317 188 W0 s p) (hb:DmV 317 W0 l b) (hp:Bd k p) (hm: ∀i,BdI m (b i)) (he: ∀t∈p,∀i,mex t.1 i≤e) (he2:e≤255) (hm2:m≤1000) (hk:k≤200000000) (hl:p.length≤1073741824):
  PCallsM Go.Proofs.Tryz.prog 142 [.agg ⟨[s.v]⟩,.agg ⟨l⟩] W0 M fun v W'=>∃(r:List Value),v = .agg ⟨r⟩∧SpV 317 W' r (ivOver b p):=by
 obtain⟨z1,z2,z3,z4⟩:=ov_sz hp hm he he2 hm2 hk
 have hb0:=hb
 obtain⟨s0,b0,t0,s1,b1,t1,s2,b2,t2,s3,b3,t3,s4,b4,t4,s5,b5,t5,rfl,_⟩:=hb
 apply callbound_Over
 obtain⟨xs,hr,ha⟩:=h
 have hxl:=ha.len
 refine polyTerms_call hr (by omega) fun s3 W2 hE2 ⟨_,hO⟩=>⟨s3,rfl,?_⟩
 have h3:IsPoly 317 188 W2 s3 p:=⟨xs,hO.row,ha.mono fun _ _ e=>e.ext hE2⟩
 have hn:=h3.n
 refine⟨ovO W2 p b,cn1 p.length,⟨0,rfl,Nat.zero_le _,Ext.refl _,SpV.zero W2⟩,?_⟩
 rintro s6 b7 s8 s9 b10 s11 i12 W13 ⟨j,rfl,hj,hE13,hS⟩
 refine⟨fun hlt=>?_,fun hge W69 hE69=>⟨_,rfl,?_⟩⟩
 ·have hjl:j<p.length:=by omega
  have hP:=h3.ext hE13
  have hmem:=List.getElem_mem hjl
  obtain⟨h0,c1,d1,c2,e1,_,_,hq⟩:=hP.at (List.getElem?_eq_getElem hjl)
  refine⟨hP.inB (by omega) (by omega),_,_,_,c1,d1,c2,e1,spanOf_call hq fun r W21 hE21 h21=>h21.out fun s22 b23 s24 s25 b26 s27 h21=>?_⟩
  refine⟨ovI W21 p[j] b,cn1 3,⟨0,rfl,Nat.zero_le _,Ext.refl _,h21⟩,?_⟩
  rintro s30 b31 s32 s33 b34 s35 i36 W37 ⟨v,rfl,hv,hE37,hT⟩
  refine⟨fun hlt3=>?_,fun hge3=>?_⟩
  ·have hv3:v<3:=by omega
   have hbW:=(hb0.ext (hE2.trans (hE13.trans (hE21.trans hE37))))
   obtain⟨x1,y1,x2,x3,y2,x4,hbx,hsp⟩:=hbW.box hv3
   have hmx:=he _ hmem v
   refine⟨⟨by omega,by omega⟩,_,take_mon p[j].1 hv3,?_⟩
   rw[mex_eget h0 v]
   refine⟨fun hpos=>⟨⟨by omega,by omega⟩,x1,y1,x2,x3,y2,x4,hbx,by unfold I64;omega,?_⟩,fun hno=>⟨by unfold I64;omega,⟨v+1,by push_cast;rfl,by omega,hE37,?_⟩,?_⟩⟩
   ·refine spanPow_call hsp (z4 v) (by omega) (by omega) fun r W46 hE46 h46=>h46.out fun s47 b48 s49 s50 b51 s52 h46=>?_
    refine spanMul_call (hT.ext hE46) h46 (z2 _ hmem v hv) (z3 _ hmem v) (by omega) fun r W54 hE54 h54=>h54.out fun s55 b56 s57 s58 b59 s60 h54=>⟨by unfold I64;omega,⟨v+1,by push_cast;rfl,by omega,hE37.trans (hE46.trans hE54),?_⟩,?_⟩
    ·rw[ivTm,if_pos (by omega)]
     exact h54
    ·show 3-Int.toNat ((v:Int)+1)<3-Int.toNat (v:Int)
     omega
   ·rw[ivTm,if_neg (by omega)]
    exact hT
   ·show 3-Int.toNat ((v:Int)+1)<3-Int.toNat (v:Int)
    omega
  ·have:v=3:=by omega
   subst this
   refine spanAdd_call (hS.ext (hE21.trans hE37)) hT (z1 j) (z2 _ hmem 3 (Nat.le_refl _)) (by omega) fun r W62 hE62 h62=>h62.out fun s63 b64 s65 s66 b67 s68 h62=>⟨by unfold I64;omega,⟨j+1,by push_cast;rfl,by omega,hE13.trans (hE21.trans (hE37.trans hE62)),?_⟩,?_⟩
   ·rw[List.take_succ_eq_append_getElem hjl,ivOver_snoc]
    exact h62
   ·show p.length-Int.toNat ((j:Int)+1)<p.length-Int.toNat (j:Int)
    omega
 ·have:j=p.length:=by omega
  subst this
  rw[List.take_length] at hS
  exact hS.ext hE69
theorem boundOver_call {W0 W:PW} {M:Nat→Prop} {s:Sl} {l:List Value} {p:List Tm} {b:Nat→Iv} {k m e:Nat} {K:Value→PW→Prop} (h:IsPoly 317 188 W s p) (hb:DmV 317 W l b) (hp:Bd k p) (hm: ∀i,BdI m (b i)) (he: ∀t∈p,∀i,mex t.1 i≤e) (he2:e≤255) (hm2:m≤1000) (hk:k≤200000000) (hl:p.length≤1073741824) (kont: ∀(r:List Value) (W':PW),Ext W W'→(SpV 317 W' r (ivOver b p))→K (.agg ⟨r⟩) W'):
  callN Go.Proofs.Tryz.prog W0 M 142 [.agg ⟨[s.v]⟩,.agg ⟨l⟩] W K:=
 callN_of (fun W' hE=>boundOver_ok (M:=fun _=>False) (h.ext hE) (hb.ext hE) hp hm he he2 hm2 hk hl) (fun W' v W'' hE hE' hP=>by
  obtain⟨r,rfl,h⟩:=hP
  exact kont r W'' (hE.trans hE') h)
def orO (W0:PW) (p:List Tm) (b:Nat→Iv) (L:List PL) (W:PW):Prop:=match L with
 | [.val (.int .i64 i),.cells l]=>∃j:Nat,i=(j:Int)∧j≤p.length∧Ext W0 W∧RSpV 317 W l (ivOver b (p.take j))
 | _=>False
def orI (W0:PW) (t:Tm) (b:Nat→Iv) (L:List PL) (W:PW):Prop:=match L with
 | [.val (.int .i64 i),.cells l]=>∃j:Nat,i=(j:Int)∧j≤3∧Ext W0 W∧RSpV 317 W l (ivTm b t j)
 | _=>False
theorem refOver_ok {W0:PW} {M:Nat→Prop} {s:Sl} {l:List Value} {p:List Tm} {b:Nat→Iv} {k m e:Nat} (h:IsRPoly 317 195 W0 s p) (hb:RDmV 317 W0 l b) (hp:Bd k p) (hm: ∀i,BdI m (b i)) (ho: ∀i,(b i).1≤(b i).2) (he: ∀t∈p,∀i,mex t.1 i≤e) (he2:e≤255) (hm2:m≤1000) (hk:k≤200000000) (hl:p.length≤1073741824):
  PCallsM Go.Proofs.Tryz.prog 58 [s.v,.agg ⟨l⟩] W0 M fun v W'=>∃(r:List Value),v = .agg ⟨r⟩∧RSpV 317 W' r (ivOver b p):=by
 obtain⟨z1,z2,z3,z4⟩:=ov_sz hp hm he he2 hm2 hk
 have hb0:=hb
 obtain⟨b0,s0,t0,b1,s1,t1,b2,s2,t2,b3,s3,t3,b4,s4,t4,b5,s5,t5,rfl,_⟩:=hb
 apply callref1_Over
 have hn:=h.n
 refine refRatOf_call (z:=0) (by unfold I64;omega) fun b3 s4 s5 W2 hE2 h2=>⟨b3,s4,s5,rfl,refPoint_call h2 fun r W7 hE7 h7=>h7.out fun b8 s9 s10 b11 s12 s13 h7=>?_⟩
 refine⟨orO W7 p b,cn1 p.length,⟨0,rfl,Nat.zero_le _,Ext.refl _,h7⟩,?_⟩
 rintro b16 s17 s18 b19 s20 s21 i22 W23 ⟨j,rfl,hj,hE23,hS⟩
 have h23:=h.ext (hE2.trans (hE7.trans hE23))
 refine⟨fun hlt=>?_,fun hge W76 hE76=>⟨_,rfl,?_⟩⟩
 ·have hjl:j<p.length:=by omega
  have hmem:=List.getElem_mem hjl
  obtain⟨h0,c1,d1,c2,_,_,e3,hq⟩:=h23.at (List.getElem?_eq_getElem hjl)
  refine⟨h23.inB (by omega) (by omega),_,_,_,e3,refPoint_call hq fun r W28 hE28 h28=>h28.out fun b29 s30 s31 b32 s33 s34 h28=>?_⟩
  refine⟨orI W28 p[j] b,cn1 3,⟨0,rfl,Nat.zero_le _,Ext.refl _,h28⟩,?_⟩
  rintro b37 s38 s39 b40 s41 s42 i43 W44 ⟨v,rfl,hv,hE44,hT⟩
  refine⟨fun hlt3=>?_,fun hge3=>?_⟩
  ·have hv3:v<3:=by omega
   have h44:=h23.ext (hE28.trans hE44)
   have hbW:=(hb0.ext (hE2.trans (hE7.trans (hE23.trans (hE28.trans hE44)))))
   obtain⟨x1,y1,x2,x3,y2,x4,hbx,hsp⟩:=hbW.box hv3
   have hmx:=he _ hmem v
   have hel:ElemAt W44 s 6 j (0+Int.toNat (v:Int)*1) [.int .u8 (eget p[j].1 v)]:=by
    obtain⟨ys,r1,a1⟩:=h44
    obtain⟨x,hx,_,d,e,f,rfl,_⟩:=a1.get (List.getElem?_eq_getElem hjl)
    rcases(by omega:v=0∨v=1∨v=2) with rfl | rfl | rfl
    ·exact r1.part hx 0 rfl
    ·exact r1.part hx 1 rfl
    ·exact r1.part hx 2 rfl
   rw[mex_eget h0 v] at hel
   refine⟨⟨by omega,by omega⟩,x1,y1,x2,x3,y2,x4,hbx,h44.inB (by omega) (by omega),⟨by omega,by omega⟩,_,hel,by unfold I64;omega,?_⟩
   refine refSpanPow_call hsp (z4 v) (ho v) (by omega) (by omega) fun r W53 hE53 h53=>h53.out fun b54 s55 s56 b57 s58 s59 h53=>⟨hE53,?_⟩
   refine refSpanMul_call (hT.ext hE53) h53 (z2 _ hmem v hv) (z3 _ hmem v) (by omega) fun r W61 hE61 h61=>h61.out fun b62 s63 s64 b65 s66 s67 h61=>⟨hE61,by unfold I64;omega,⟨v+1,by push_cast;rfl,by omega,hE44.trans (hE53.trans hE61),?_⟩,?_⟩
   ·rw[ivTm_all] at h61
    exact h61
   ·show 3-Int.toNat ((v:Int)+1)<3-Int.toNat (v:Int)
    omega
  ·have:v=3:=by omega
   subst this
   refine refSpanAdd_call (hS.ext (hE28.trans hE44)) hT (z1 j) (z2 _ hmem 3 (Nat.le_refl _)) (by omega) fun r W69 hE69 h69=>h69.out fun b70 s71 s72 b73 s74 s75 h69=>⟨by unfold I64;omega,⟨j+1,by push_cast;rfl,by omega,hE23.trans (hE28.trans (hE44.trans hE69)),?_⟩,?_⟩
   ·rw[List.take_succ_eq_append_getElem hjl,ivOver_snoc]
    exact h69
   ·show p.length-Int.toNat ((j:Int)+1)<p.length-Int.toNat (j:Int)
    omega
 ·have:j=p.length:=by omega
  subst this
  rw[List.take_length] at hS
  exact hS.ext hE76
theorem refOver_call {W0 W:PW} {M:Nat→Prop} {s:Sl} {l:List Value} {p:List Tm} {b:Nat→Iv} {k m e:Nat} {K:Value→PW→Prop} (h:IsRPoly 317 195 W s p) (hb:RDmV 317 W l b) (hp:Bd k p) (hm: ∀i,BdI m (b i)) (ho: ∀i,(b i).1≤(b i).2) (he: ∀t∈p,∀i,mex t.1 i≤e) (he2:e≤255) (hm2:m≤1000) (hk:k≤200000000) (hl:p.length≤1073741824) (kont: ∀(r:List Value) (W':PW),Ext W W'→(RSpV 317 W' r (ivOver b p))→K (.agg ⟨r⟩) W'):
  callN Go.Proofs.Tryz.prog W0 M 58 [s.v,.agg ⟨l⟩] W K:=
 callN_of (fun W' hE=>refOver_ok (M:=fun _=>False) (h.ext hE) (hb.ext hE) hp hm ho he he2 hm2 hk hl) (fun W' v W'' hE hE' hP=>by
  obtain⟨r,rfl,h⟩:=hP
  exact kont r W'' (hE.trans hE') h)
end Go.Proofs.YthpmkcidkcmlgaaGreat
