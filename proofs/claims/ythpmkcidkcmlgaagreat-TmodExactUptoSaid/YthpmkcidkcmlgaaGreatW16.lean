/- Values of sums, products and compositions. -/
import Derived.Test.YthpmkcidkcmlgaaGreatW14
import Derived.Test.YthpmkcidkcmlgaaGreatW15
import Derived.Test.YthpmkcidkcmlgaaGreatLib3
import Derived.Test.YthpmkcidkcmlgaaGreatLib4
import Derived.Test.YthpmkcidkcmlgaaGreatR12
set_option linter.unusedVariables false
set_option linter.unusedSimpArgs false
set_option linter.unusedVariables false
set_option linter.unusedSimpArgs false
namespace Go.Proofs.YthpmkcidkcmlgaaGreat
open Go Go.SX
theorem PExp.pairs {e f:Int} {p q:List Tm} (h:PExp e p) (k:PExp f q) (hM:MulOK p q):PExp (e+f) (pnorm (ppairs p q)):=PExp.norm fun t ht=>by
 obtain⟨a,ha,hm⟩:=List.mem_flatMap.1 ht
 obtain⟨b,hb,rfl⟩:=List.mem_map.1 hm
 have h1:=h a ha
 have h2:=k b hb
 refine⟨hM a ha b hb,?_⟩
 dsimp only[Mon.add]
 omega
end Go.Proofs.YthpmkcidkcmlgaaGreat

/- Models: what is cut, added, multiplied, taken together; how great their numbers are: plain laws. -/
set_option linter.unusedVariables false
set_option linter.unusedSimpArgs false
namespace Go.Proofs.YthpmkcidkcmlgaaGreat
open Go Go.SX
def mdMul (b:Nat→Iv) (n:Int) (x y:Mdl):Mdl:=
 ((cutP b n (pnorm (ppairs x.1 y.1))).1,ivAdd (ivAdd (ivAdd (cutP b n (pnorm (ppairs x.1 y.1))).2 (ivMul (ivOver b x.1) y.2)) (ivMul (ivOver b y.1) x.2)) (ivMul x.2 y.2))
def mdAdd (x y:Mdl):Mdl:=(pnorm (x.1 ++ y.1),ivAdd x.2 y.2)
theorem PExp.filter {e:Int} {p:List Tm} (h:PExp e p) (f:Tm→Bool):PExp e (p.filter f):=fun t ht=>h t (List.mem_filter.1 ht).1
theorem PExp.mex {e:Int} {p:List Tm} (h:PExp e p): ∀t∈p,∀i,mex t.1 i≤e.toNat:=fun t ht i=>mex_le (h t ht) i
theorem low_len (n:Int) (p:List Tm):(lowP n p).length≤p.length:=List.length_filter_le _ _
theorem high_len (n:Int) (p:List Tm):(highP n p).length≤p.length:=List.length_filter_le _ _
theorem low_exp {n:Int} {p:List Tm} (h:POk p) (hn:n≤8):PExp 8 (lowP n p):=fun t ht=>by
 obtain⟨h1,h2⟩:=List.mem_filter.1 ht
 have h2:t.1.deg≤n:=of_decide_eq_true h2
 have h3:=h t h1
 refine⟨h3,?_⟩
 unfold Mon.ok at h3
 unfold Mon.deg at h2
 omega
theorem over_bd {b:Nat→Iv} {p:List Tm} {k m:Nat} {e:Int} (hp:Bd k p) (hm: ∀i,BdI m (b i)) (hm2:m≤7) (he:PExp e p) (he2:e≤255):BdI (k+6123) (ivOver b p):=by
 have h:=ivOver_bd hp hm he.mex
 have:=Nat.mul_le_mul (show m+1≤8 by omega) (show e.toNat≤255 by omega)
 exact h.mono (by omega)
theorem MdB.cut {b:Nat→Iv} {n:Int} {p:List Tm} {k m:Nat} {e:Int} (hp:Bd k p) (hG:PGood p) (hm: ∀i,BdI m (b i)) (hm2:m≤7) (he:PExp e p) (he2:e≤255):MdB k (k+6123) e (cutP b n p):=
 ⟨hp.filter _,over_bd (hp.filter _) hm hm2 (he.filter _) he2,hG.filter _,he.filter _⟩
theorem pairs_exp {e f:Int} {p q:List Tm} (h:PExp e p) (k:PExp f q) (hef:e+f≤255):PExp (e+f) (pnorm (ppairs p q)):=PExp.pairs h k (mulOK_of h k hef)
theorem MdB.mul {b:Nat→Iv} {n:Int} {x y:Mdl} {kx rx ky ry m:Nat} {ex ey:Int} (hx:MdB kx rx ex x) (hy:MdB ky ry ey y) (hm: ∀i,BdI m (b i)) (hm2:m≤7) (he:ex+ey≤255) (he1:ex≤255) (he2:ey≤255):
  MdB (kx+ky) (2*(kx+ky)+2*(rx+ry)+18372) (ex+ey) (mdMul b n x y):=by
 have hc:=MdB.cut (n:=n) (hx.bd.pairs hy.bd).norm (pnorm_good _) hm hm2 (pairs_exp hx.ok hy.ok he) he
 have h1:=(over_bd hx.bd hm hm2 hx.ok he1).mul hy.rest
 have h2:=(over_bd hy.bd hm hm2 hy.ok he2).mul hx.rest
 have h3:=hx.rest.mul hy.rest
 exact⟨hc.bd,(((hc.rest.add h1).add h2).add h3).mono (by omega),hc.good,hc.ok⟩
theorem MdB.add {x y:Mdl} {kx rx ky ry:Nat} {e:Int} (hx:MdB kx rx e x) (hy:MdB ky ry e y):MdB (kx+ky+1) (rx+ry+1) e (mdAdd x y):=
 ⟨(hx.bd.append hy.bd).norm,hx.rest.add hy.rest,pnorm_good _,PExp.norm (PExp.append hx.ok hy.ok)⟩
end Go.Proofs.YthpmkcidkcmlgaaGreat

/- The program's intervals. -/
set_option maxRecDepth 100000
set_option linter.unusedVariables false
set_option linter.unusedSimpArgs false
namespace Go.Proofs.YthpmkcidkcmlgaaGreat
open Go Go.SX
theorem spanLess_ok {W0:PW} {M:Nat→Prop} {s t s' t':Sl} {b b':Bool} {p q:Rat} {k:Nat} (h1:IsRat 317 W0 s b t p) (h2:IsRat 317 W0 s' b' t' q) (hp:Sz k p) (hq:Sz k q) (hk:k≤34359738368):
  PCallsM Go.Proofs.Tryz.prog 234 [.agg ⟨[s.v,.bool b,t.v]⟩,.agg ⟨[s'.v,.bool b',t'.v]⟩] W0 M fun v W'=>∃(r:Sl),∃(c:Bool),∃(u:Sl),v = .agg ⟨[Sl.v r,.bool c,Sl.v u]⟩∧IsRat 317 W' r c u (rmin p q):=by
 apply callspan_less
 refine ratCmp_call h2 h1 hq hp hk hk fun W2 hE2 _=>⟨_,rfl,fun h W4 hE4=>⟨s',b',t',rfl,?_⟩,fun h W5 hE5=>⟨s,b,t,rfl,?_⟩⟩
 ·rw[rmin,if_pos (cmpQ_lt.1 h)];exact h2.ext (hE2.trans hE4)
 ·rw[rmin,if_neg (fun e=>h (cmpQ_lt.2 e))];exact h1.ext (hE2.trans hE5)
theorem spanLess_call {W0 W:PW} {M:Nat→Prop} {s t s' t':Sl} {b b':Bool} {p q:Rat} {k:Nat} {K:Value→PW→Prop} (h1:IsRat 317 W s b t p) (h2:IsRat 317 W s' b' t' q) (hp:Sz k p) (hq:Sz k q) (hk:k≤34359738368) (kont: ∀(r:Sl) (c:Bool) (u:Sl) (W':PW),Ext W W'→(IsRat 317 W' r c u (rmin p q))→K (.agg ⟨[Sl.v r,.bool c,Sl.v u]⟩) W'):
  callN Go.Proofs.Tryz.prog W0 M 234 [.agg ⟨[s.v,.bool b,t.v]⟩,.agg ⟨[s'.v,.bool b',t'.v]⟩] W K:=
 callN_of (fun W' hE=>spanLess_ok (M:=fun _=>False) (h1.ext hE) (h2.ext hE) hp hq hk) (fun W' v W'' hE hE' hP=>by
  obtain⟨r,c,u,rfl,h⟩:=hP
  exact kont r c u W'' (hE.trans hE') h)
theorem spanMore_ok {W0:PW} {M:Nat→Prop} {s t s' t':Sl} {b b':Bool} {p q:Rat} {k:Nat} (h1:IsRat 317 W0 s b t p) (h2:IsRat 317 W0 s' b' t' q) (hp:Sz k p) (hq:Sz k q) (hk:k≤34359738368):
  PCallsM Go.Proofs.Tryz.prog 235 [.agg ⟨[s.v,.bool b,t.v]⟩,.agg ⟨[s'.v,.bool b',t'.v]⟩] W0 M fun v W'=>∃(r:Sl),∃(c:Bool),∃(u:Sl),v = .agg ⟨[Sl.v r,.bool c,Sl.v u]⟩∧IsRat 317 W' r c u (rmax p q):=by
 apply callspan_more
 refine ratCmp_call h2 h1 hq hp hk hk fun W2 hE2 _=>⟨_,rfl,fun h W4 hE4=>⟨s',b',t',rfl,?_⟩,fun h W5 hE5=>⟨s,b,t,rfl,?_⟩⟩
 ·rw[rmax,if_pos (cmpQ_gt.1 h)];exact h2.ext (hE2.trans hE4)
 ·rw[rmax,if_neg (fun e=>h (cmpQ_gt.2 e))];exact h1.ext (hE2.trans hE5)
theorem spanMore_call {W0 W:PW} {M:Nat→Prop} {s t s' t':Sl} {b b':Bool} {p q:Rat} {k:Nat} {K:Value→PW→Prop} (h1:IsRat 317 W s b t p) (h2:IsRat 317 W s' b' t' q) (hp:Sz k p) (hq:Sz k q) (hk:k≤34359738368) (kont: ∀(r:Sl) (c:Bool) (u:Sl) (W':PW),Ext W W'→(IsRat 317 W' r c u (rmax p q))→K (.agg ⟨[Sl.v r,.bool c,Sl.v u]⟩) W'):
  callN Go.Proofs.Tryz.prog W0 M 235 [.agg ⟨[s.v,.bool b,t.v]⟩,.agg ⟨[s'.v,.bool b',t'.v]⟩] W K:=
 callN_of (fun W' hE=>spanMore_ok (M:=fun _=>False) (h1.ext hE) (h2.ext hE) hp hq hk) (fun W' v W'' hE hE' hP=>by
  obtain⟨r,c,u,rfl,h⟩:=hP
  exact kont r c u W'' (hE.trans hE') h)
theorem spanAround_ok {W0:PW} {M:Nat→Prop} {s t s' t':Sl} {b b':Bool} {p q:Rat} {k:Nat} (h1:IsRat 317 W0 s b t p) (h2:IsRat 317 W0 s' b' t' q) (hp:Sz k p) (hq:Sz k q) (hk:k≤34359738368):
  PCallsM Go.Proofs.Tryz.prog 196 [.agg ⟨[s.v,.bool b,t.v]⟩,.agg ⟨[s'.v,.bool b',t'.v]⟩] W0 M fun v W'=>∃(l:List Value),v = .agg ⟨l⟩∧SpV 317 W' l (ivAround p q):=by
 apply callspan_around
 exact spanLess_call h1 h2 hp hq hk fun s3 b4 s5 W2 hE2 g1=>⟨s3,b4,s5,rfl,spanMore_call (h1.ext hE2) (h2.ext hE2) hp hq hk fun s8 b9 s10 W7 hE7 g2=>⟨s8,b9,s10,rfl,fun W11 hE11=>⟨_,rfl,SpV.mk (x:=ivAround p q) (g1.ext (hE7.trans hE11)) (g2.ext hE11)⟩⟩⟩
theorem spanAround_call {W0 W:PW} {M:Nat→Prop} {s t s' t':Sl} {b b':Bool} {p q:Rat} {k:Nat} {K:Value→PW→Prop} (h1:IsRat 317 W s b t p) (h2:IsRat 317 W s' b' t' q) (hp:Sz k p) (hq:Sz k q) (hk:k≤34359738368) (kont: ∀(l:List Value) (W':PW),Ext W W'→(SpV 317 W' l (ivAround p q))→K (.agg ⟨l⟩) W'):
  callN Go.Proofs.Tryz.prog W0 M 196 [.agg ⟨[s.v,.bool b,t.v]⟩,.agg ⟨[s'.v,.bool b',t'.v]⟩] W K:=
 callN_of (fun W' hE=>spanAround_ok (M:=fun _=>False) (h1.ext hE) (h2.ext hE) hp hq hk) (fun W' v W'' hE hE' hP=>by
  obtain⟨l,rfl,h⟩:=hP
  exact kont l W'' (hE.trans hE') h)
theorem spanHull_ok {W0:PW} {M:Nat→Prop} {l1 l2:List Value} {x y:Iv} {k:Nat} (h1:SpV 317 W0 l1 x) (h2:SpV 317 W0 l2 y) (hx:IvS k x) (hy:IvS k y) (hk:k≤34359738368):
  PCallsM Go.Proofs.Tryz.prog 195 [.agg ⟨l1⟩,.agg ⟨l2⟩] W0 M fun v W'=>∃(l:List Value),v = .agg ⟨l⟩∧SpV 317 W' l (ivHull x y):=by
 obtain⟨s0,b0,t0,s1,b1,t1,rfl,h1,h1'⟩:=h1
 obtain⟨s2,b2,t2,s3,b3,t3,rfl,h2,h2'⟩:=h2
 apply callspan_Hull
 exact spanLess_call h1 h2 hx.1 hy.1 hk fun s3 b4 s5 W2 hE2 g1=>⟨s3,b4,s5,rfl,spanMore_call (h1'.ext hE2) (h2'.ext hE2) hx.2 hy.2 hk fun s8 b9 s10 W7 hE7 g2=>⟨s8,b9,s10,rfl,fun W11 hE11=>⟨_,rfl,SpV.mk (x:=ivHull x y) (g1.ext (hE7.trans hE11)) (g2.ext hE11)⟩⟩⟩
theorem spanHull_call {W0 W:PW} {M:Nat→Prop} {l1 l2:List Value} {x y:Iv} {k:Nat} {K:Value→PW→Prop} (h1:SpV 317 W l1 x) (h2:SpV 317 W l2 y) (hx:IvS k x) (hy:IvS k y) (hk:k≤34359738368) (kont: ∀(l:List Value) (W':PW),Ext W W'→(SpV 317 W' l (ivHull x y))→K (.agg ⟨l⟩) W'):
  callN Go.Proofs.Tryz.prog W0 M 195 [.agg ⟨l1⟩,.agg ⟨l2⟩] W K:=
 callN_of (fun W' hE=>spanHull_ok (M:=fun _=>False) (h1.ext hE) (h2.ext hE) hx hy hk) (fun W' v W'' hE hE' hP=>by
  obtain⟨l,rfl,h⟩:=hP
  exact kont l W'' (hE.trans hE') h)
theorem spanAdd_ok {W0:PW} {M:Nat→Prop} {l1 l2:List Value} {x y:Iv} {k:Nat} (h1:SpV 317 W0 l1 x) (h2:SpV 317 W0 l2 y) (hx:IvS k x) (hy:IvS k y) (hk:k≤8589934592):
  PCallsM Go.Proofs.Tryz.prog 134 [.agg ⟨l1⟩,.agg ⟨l2⟩] W0 M fun v W'=>∃(l:List Value),v = .agg ⟨l⟩∧SpV 317 W' l (ivAdd x y):=by
 obtain⟨s0,b0,t0,s1,b1,t1,rfl,h1,h1'⟩:=h1
 obtain⟨s2,b2,t2,s3,b3,t3,rfl,h2,h2'⟩:=h2
 apply callspan_Add
 exact ratAdd_call h1 h2 hx.1 hy.1 hk hk fun s3 b4 s5 W2 hE2 g1=>⟨s3,b4,s5,rfl,ratAdd_call (h1'.ext hE2) (h2'.ext hE2) hx.2 hy.2 hk hk fun s8 b9 s10 W7 hE7 g2=>⟨s8,b9,s10,rfl,fun W11 hE11=>⟨_,rfl,SpV.mk (x:=ivAdd x y) (g1.ext (hE7.trans hE11)) (g2.ext hE11)⟩⟩⟩
theorem spanAdd_call {W0 W:PW} {M:Nat→Prop} {l1 l2:List Value} {x y:Iv} {k:Nat} {K:Value→PW→Prop} (h1:SpV 317 W l1 x) (h2:SpV 317 W l2 y) (hx:IvS k x) (hy:IvS k y) (hk:k≤8589934592) (kont: ∀(l:List Value) (W':PW),Ext W W'→(SpV 317 W' l (ivAdd x y))→K (.agg ⟨l⟩) W'):
  callN Go.Proofs.Tryz.prog W0 M 134 [.agg ⟨l1⟩,.agg ⟨l2⟩] W K:=
 callN_of (fun W' hE=>spanAdd_ok (M:=fun _=>False) (h1.ext hE) (h2.ext hE) hx hy hk) (fun W' v W'' hE hE' hP=>by
  obtain⟨l,rfl,h⟩:=hP
  exact kont l W'' (hE.trans hE') h)
theorem spanMul_ok {W0:PW} {M:Nat→Prop} {l1 l2:List Value} {x y:Iv} {k:Nat} (h1:SpV 317 W0 l1 x) (h2:SpV 317 W0 l2 y) (hx:IvS k x) (hy:IvS k y) (hk:k≤8589934592):
  PCallsM Go.Proofs.Tryz.prog 135 [.agg ⟨l1⟩,.agg ⟨l2⟩] W0 M fun v W'=>∃(l:List Value),v = .agg ⟨l⟩∧SpV 317 W' l (ivMul x y):=by
 obtain⟨s0,b0,t0,s1,b1,t1,rfl,h1,h1'⟩:=h1
 obtain⟨s2,b2,t2,s3,b3,t3,rfl,h2,h2'⟩:=h2
 apply callspan_Mul
 have z1:=hx.1.mul hy.1
 have z2:=hx.2.mul hy.2
 have z3:=hx.1.mul hy.2
 have z4:=hx.2.mul hy.1
 have zm: ∀{a b:Rat},Sz (k+k) a→Sz (k+k) b→IvS (k+k) (ivAround a b):=fun ha hb=>⟨by rcases rmin_or _ _ with e | e<;>rw[ivAround,e]<;>assumption,by rcases rmax_or _ _ with e | e<;>rw[ivAround,e]<;>assumption⟩
 refine ratMul_call h1 h2 hx.1 hy.1 hk hk fun s3 b4 s5 W2 hE2 g1=>⟨s3,b4,s5,rfl,ratMul_call (h1'.ext hE2) (h2'.ext hE2) hx.2 hy.2 hk hk fun s8 b9 s10 W7 hE7 g2=>⟨s8,b9,s10,rfl,spanAround_call (g1.ext hE7) g2 z1 z2 (by omega) fun l W12 hE12 h12=>h12.out fun s13 b14 s15 s16 b17 s18 h12=>?_⟩⟩
 have hE:=(hE2.trans hE7).trans hE12
 refine ratMul_call (h1.ext hE) (h2'.ext hE) hx.1 hy.2 hk hk fun s3 b4 s5 W20 hE20 g1=>⟨s3,b4,s5,rfl,ratMul_call (h1'.ext (hE.trans hE20)) (h2.ext (hE.trans hE20)) hx.2 hy.1 hk hk fun s8 b9 s10 W25 hE25 g2=>⟨s8,b9,s10,rfl,spanAround_call (g1.ext hE25) g2 z3 z4 (by omega) fun l W30 hE30 h30=>h30.out fun s31 b32 s33 s34 b35 s36 h30=>?_⟩⟩
 exact spanHull_call (h12.ext ((hE20.trans hE25).trans hE30)) h30 (zm z1 z2) (zm z3 z4) (by omega) fun l W38 hE38 h38=>h38.out fun s39 b40 s41 s42 b43 s44 h38 W45 hE45=>⟨_,rfl,h38.ext hE45⟩
theorem spanMul_call {W0 W:PW} {M:Nat→Prop} {l1 l2:List Value} {x y:Iv} {k:Nat} {K:Value→PW→Prop} (h1:SpV 317 W l1 x) (h2:SpV 317 W l2 y) (hx:IvS k x) (hy:IvS k y) (hk:k≤8589934592) (kont: ∀(l:List Value) (W':PW),Ext W W'→(SpV 317 W' l (ivMul x y))→K (.agg ⟨l⟩) W'):
  callN Go.Proofs.Tryz.prog W0 M 135 [.agg ⟨l1⟩,.agg ⟨l2⟩] W K:=
 callN_of (fun W' hE=>spanMul_ok (M:=fun _=>False) (h1.ext hE) (h2.ext hE) hx hy hk) (fun W' v W'' hE hE' hP=>by
  obtain⟨l,rfl,h⟩:=hP
  exact kont l W'' (hE.trans hE') h)
theorem spanOf_ok {W0:PW} {M:Nat→Prop} {s t:Sl} {b:Bool} {r:Rat} (h:IsRat 317 W0 s b t r):
  PCallsM Go.Proofs.Tryz.prog 208 [.agg ⟨[s.v,.bool b,t.v]⟩] W0 M fun v W'=>∃(l:List Value),v = .agg ⟨l⟩∧SpV 317 W' l (ivPt r):=by
 apply callspan_Of
 exact fun W1 hE=>⟨_,rfl,SpV.mk (x:=ivPt r) (h.ext hE) (h.ext hE)⟩
theorem spanOf_call {W0 W:PW} {M:Nat→Prop} {s t:Sl} {b:Bool} {r:Rat} {K:Value→PW→Prop} (h:IsRat 317 W s b t r) (kont: ∀(l:List Value) (W':PW),Ext W W'→(SpV 317 W' l (ivPt r))→K (.agg ⟨l⟩) W'):
  callN Go.Proofs.Tryz.prog W0 M 208 [.agg ⟨[s.v,.bool b,t.v]⟩] W K:=
 callN_of (fun W' hE=>spanOf_ok (M:=fun _=>False) (h.ext hE)) (fun W' v W'' hE hE' hP=>by
  obtain⟨l,rfl,h⟩:=hP
  exact kont l W'' (hE.trans hE') h)
theorem spanHas_ok {W0:PW} {M:Nat→Prop} {l1:List Value} {s t:Sl} {b:Bool} {x:Iv} {r:Rat} {k:Nat} (h1:SpV 317 W0 l1 x) (h2:IsRat 317 W0 s b t r) (hx:IvS k x) (hr:Sz k r) (hk:k≤8589934592):
  PCallsM Go.Proofs.Tryz.prog 72 [.agg ⟨l1⟩,.agg ⟨[s.v,.bool b,t.v]⟩] W0 M fun v W'=>v = .bool (decide (x.1≤r∧r≤x.2))∧True:=by
 obtain⟨s0,b0,t0,s1,b1,t1,rfl,h1,h1'⟩:=h1
 apply callspan_Has
 refine ratCmp_call h1 h2 hx.1 hr (by omega) (by omega) fun W2 hE2 _=>⟨_,rfl,fun h=>ratCmp_call (h2.ext hE2) (h1'.ext hE2) hr hx.2 (by omega) (by omega) fun W5 hE5 _=>⟨_,rfl,fun W7 hE7=>⟨?_,trivial⟩⟩,fun h W8 hE8=>⟨?_,trivial⟩⟩
 ·have h:=cmpQ_le.1 h
  congr 1
  rw[decide_eq_decide,cmpQ_le]
  exact⟨fun e=>⟨h,e⟩,fun e=>e.2⟩
 ·rw[decide_eq_false fun e=>h (cmpQ_le.2 e.1)]
theorem spanHas_call {W0 W:PW} {M:Nat→Prop} {l1:List Value} {s t:Sl} {b:Bool} {x:Iv} {r:Rat} {k:Nat} {K:Value→PW→Prop} (h1:SpV 317 W l1 x) (h2:IsRat 317 W s b t r) (hx:IvS k x) (hr:Sz k r) (hk:k≤8589934592) (kont: ∀(W':PW),Ext W W'→(True)→K (.bool (decide (x.1≤r∧r≤x.2))) W'):
  callN Go.Proofs.Tryz.prog W0 M 72 [.agg ⟨l1⟩,.agg ⟨[s.v,.bool b,t.v]⟩] W K:=
 callN_of (fun W' hE=>spanHas_ok (M:=fun _=>False) (h1.ext hE) (h2.ext hE) hx hr hk) (fun W' v W'' hE hE' hP=>by
  obtain⟨rfl,h⟩:=hP
  exact kont W'' (hE.trans hE') h)
theorem spanPow_ok {W0:PW} {M:Nat→Prop} {l1:List Value} {x:Iv} {n k:Nat} (h1:SpV 317 W0 l1 x) (hx:IvS k x) (hk:k≤1048576) (hn:n≤255):
  PCallsM Go.Proofs.Tryz.prog 209 [.agg ⟨l1⟩,.int .i64 (n:Int)] W0 M fun v W'=>∃(l:List Value),v = .agg ⟨l⟩∧SpV 317 W' l (ivPow x n):=by
 obtain⟨s0,b0,t0,s1,b1,t1,rfl,h1,h1'⟩:=h1
 apply callspan_Pow
 have hm:=Nat.mul_le_mul hk hn
 have hmn:mn (mx (n:Int) 0) 255=(n:Int):=by unfold mn mx;(repeat' split)<;>omega
 unfold Rspan_Pow
 rw[hmn]
 refine ratPow_call h1 hx.1 hk hn fun s3 b4 s5 W2 hE2 g1=>⟨s3,b4,s5,rfl,ratPow_call (h1'.ext hE2) hx.2 hk hn fun s8 b9 s10 W7 hE7 g2=>⟨s8,b9,s10,rfl,spanAround_call (g1.ext hE7) g2 (Sz.powq hx.1 n) (Sz.powq hx.2 n) (by omega) fun l W12 hE12 h12=>h12.out fun s13 b14 s15 s16 b17 s18 h12=>⟨fun hpos=>⟨by omega,fun hev=>?_,fun hod W24 hE24=>⟨_,rfl,?_⟩⟩,fun h0 W25 hE25=>⟨_,rfl,?_⟩⟩⟩⟩
 ·have hev':n%2=0:=by have:=Int.tmod_eq_emod_of_nonneg (a:=(n:Int)) (b:=2) (by omega);omega
  have hE:=(hE2.trans hE7).trans hE12
  refine spanHas_call (s:=⟨none,0,0⟩) (b:=false) (t:=⟨none,0,0⟩) (k:=k+1) (SpV.mk (h1.ext hE) (h1'.ext hE)) (isRat_zero W12) ⟨hx.1.mono (by omega),hx.2.mono (by omega)⟩ (Sz.zero (by omega)) (by omega) fun W20 hE20 _=>⟨_,rfl,fun hb W22 hE22=>⟨_,rfl,?_⟩,fun hb W23 hE23=>⟨_,rfl,?_⟩⟩
  ·have hb:=of_decide_eq_true hb
   rw[ivPow,if_pos ⟨by omega,hev',hb⟩]
   obtain⟨_,_,_,_,_,_,e,k1,k2⟩:=h12.ext (hE20.trans hE22)
   simp only[List.cons.injEq,Value.bool.injEq,and_true] at e
   obtain⟨e1,e2,e3,e4,e5,e6⟩:=e
   have e4:=Sl.v_inj e4
   have e6:=Sl.v_inj e6
   subst e4 e5 e6
   exact⟨⟨none,0,0⟩,false,⟨none,0,0⟩,_,_,_,rfl,isRat_zero _,k2⟩
  ·have hb:=of_decide_eq_false hb
   rw[ivPow,if_neg fun e=>hb e.2.2]
   exact h12.ext (hE20.trans hE23)
 ·rw[ivPow,if_neg]
  ·exact h12.ext hE24
  ·intro e
   apply hod
   have:=Int.tmod_eq_emod_of_nonneg (a:=(n:Int)) (b:=2) (by omega)
   have:=e.2.1
   omega
 ·rw[ivPow,if_neg fun e=>h0 (by have:=e.1;omega)]
  exact h12.ext hE25
theorem spanPow_call {W0 W:PW} {M:Nat→Prop} {l1:List Value} {x:Iv} {n k:Nat} {K:Value→PW→Prop} (h1:SpV 317 W l1 x) (hx:IvS k x) (hk:k≤1048576) (hn:n≤255) (kont: ∀(l:List Value) (W':PW),Ext W W'→(SpV 317 W' l (ivPow x n))→K (.agg ⟨l⟩) W'):
  callN Go.Proofs.Tryz.prog W0 M 209 [.agg ⟨l1⟩,.int .i64 (n:Int)] W K:=
 callN_of (fun W' hE=>spanPow_ok (M:=fun _=>False) (h1.ext hE) hx hk hn) (fun W' v W'' hE hE' hP=>by
  obtain⟨l,rfl,h⟩:=hP
  exact kont l W'' (hE.trans hE') h)
theorem spanNew_ok {W0:PW} {M:Nat→Prop} {s t s' t':Sl} {b b':Bool} {p q:Rat} {k:Nat} (h1:IsRat 317 W0 s b t p) (h2:IsRat 317 W0 s' b' t' q) (hp:Sz k p) (hq:Sz k q) (hk:k≤34359738368):
  PCallsM Go.Proofs.Tryz.prog 36 [.agg ⟨[s.v,.bool b,t.v]⟩,.agg ⟨[s'.v,.bool b',t'.v]⟩] W0 M fun v W'=>∃(l:List Value),v = .tuple ⟨[.agg ⟨l⟩,.bool (decide (p≤q))]⟩∧SpV 317 W' l (if p≤q then(p,q) else(0,0)):=by
 apply callspan_New
 refine ratCmp_call h1 h2 hp hq hk hk fun W2 hE2 _=>⟨_,rfl,fun h W4 hE4=>?_,fun h W5 hE5=>?_⟩
 ·have h:=cmpQ_gt.1 h
  have h':¬p≤q:=Rat.not_le.2 h
  rw[if_neg h',decide_eq_false h']
  exact⟨_,rfl,SpV.zero W4⟩
 ·have h':p≤q:=Rat.not_lt.1 fun e=>h (cmpQ_gt.2 e)
  rw[if_pos h',decide_eq_true h']
  exact⟨_,rfl,SpV.mk (x:=(p,q)) (h1.ext (hE2.trans hE5)) (h2.ext (hE2.trans hE5))⟩
theorem spanNew_call {W0 W:PW} {M:Nat→Prop} {s t s' t':Sl} {b b':Bool} {p q:Rat} {k:Nat} {K:Value→PW→Prop} (h1:IsRat 317 W s b t p) (h2:IsRat 317 W s' b' t' q) (hp:Sz k p) (hq:Sz k q) (hk:k≤34359738368) (kont: ∀(l:List Value) (W':PW),Ext W W'→(SpV 317 W' l (if p≤q then(p,q) else(0,0)))→K (.tuple ⟨[.agg ⟨l⟩,.bool (decide (p≤q))]⟩) W'):
  callN Go.Proofs.Tryz.prog W0 M 36 [.agg ⟨[s.v,.bool b,t.v]⟩,.agg ⟨[s'.v,.bool b',t'.v]⟩] W K:=
 callN_of (fun W' hE=>spanNew_ok (M:=fun _=>False) (h1.ext hE) (h2.ext hE) hp hq hk) (fun W' v W'' hE hE' hP=>by
  obtain⟨l,rfl,h⟩:=hP
  exact kont l W'' (hE.trans hE') h)
end Go.Proofs.YthpmkcidkcmlgaaGreat
