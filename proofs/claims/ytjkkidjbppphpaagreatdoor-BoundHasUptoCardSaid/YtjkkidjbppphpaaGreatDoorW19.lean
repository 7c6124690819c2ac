/- A polynomial's value is that at another point, and slopes times how far they are apart: plain law. -/
import Derived.Test.YtjkkidjbppphpaaGreatDoorW17
import Derived.Test.YtjkkidjbppphpaaGreatDoorW18
import Derived.Test.YtjkkidjbppphpaaGreatDoorLib5
import Derived.Test.YtjkkidjbppphpaaGreatDoorW15
import Derived.Test.YtjkkidjbppphpaaGreatDoorR17
import Derived.Test.YtjkkidjbppphpaaGreatDoorR18
set_option linter.unusedVariables false
set_option linter.unusedSimpArgs false
set_option maxRecDepth 100000
set_option linter.unusedVariables false
set_option linter.unusedSimpArgs false
namespace Go.Proofs.YtjkkidjbppphpaaGreatDoor
open Go Go.SX
def wv (c:Rat) (w:Nat→Rat):Nat→Rat
 | 0=>c
 | j+1=>wv c w j*w j
theorem in_wv {b:Nat→Iv} {m:Mon} {c:Rat} {w:Nat→Rat} (h: ∀i,i<3→inI (ivPow (b i) (mex m i)) (w i)): ∀j,j≤3→inI (ivTm b (m,c) j) (wv c w j)
 | 0,_=>⟨Rat.le_refl,Rat.le_refl⟩
 | j+1,hj=>by
  have ih:=in_wv (c:=c) h j (by omega)
  have hw:=h j (by omega)
  rw[ivTm,wv]
  split
  ·exact in_mul ih hw
  ·rename_i h0
   rw[show mex m j=0 from by simpa using h0,ivPow_zero] at hw
   obtain⟨h1,h2⟩:=hw
   have h1:1≤w j:=h1
   have h2:w j≤1:=h2
   rw[show w j=1 by grind,Rat.mul_one]
   exact ih
theorem var_slope {x:Iv} {a b:Rat} (ha:inI x a) (hb:inI x b) (e:Nat): ∃g,(0<e→inI (ivPow x (e-1)) g)∧a^e-b^e=(e:Rat)*g*(a-b):=by
 cases e with
 | zero=>exact⟨0,fun h=>by omega,by rw[Rat.pow_zero,Rat.pow_zero];grind⟩
 | succ n=>
  obtain⟨g,h1,h2⟩:=slope ha hb n
  exact⟨g,fun _=>h1,h2⟩
theorem mex_dec {m:Mon} {i:Nat} (hi:i<3) (j:Nat) (hj:j<3):mex (decM m i) j=if j=i then mex m i-1 else mex m j:=by
 unfold mex decM
 rcases(by omega:i=0∨i=1∨i=2) with rfl | rfl | rfl<;>rcases(by omega:j=0∨j=1∨j=2) with rfl | rfl | rfl<;>simp<;>omega
theorem in_dterm {b:Nat→Iv} {t:Tm} {i:Nat} (hi:i<3) (ho:t.1.ok) {w:Nat→Rat} (h: ∀j,j<3→j≠i→inI (ivPow (b j) (mex t.1 j)) (w j)) (hg:0<mex t.1 i→inI (ivPow (b i) (mex t.1 i-1)) (w i)):inI (ovS b (dterm i t)) (wv (t.2*((mex t.1 i:Nat):Rat)) w 3):=by
 have he:eget t.1 i=((mex t.1 i:Nat):Int):=by
  have:=mex_egetI t.1 i
  have h2:=(eget_ok ho i).1
  omega
 unfold dterm
 rw[he]
 by_cases h0:0<mex t.1 i
 ·rw[if_pos (by omega)]
  have:=in_add (in_wv (b:=b) (m:=decM t.1 i) (c:=t.2*(((mex t.1 i:Nat):Int):Rat)) (w:=w) (fun j hj=>by
   rw[mex_dec hi j hj]
   split
   ·rename_i e;subst e;exact hg h0
   ·rename_i e;exact h j hj e) 3 (Nat.le_refl _)) (y:=(0,0)) (w:=0) ⟨Rat.le_refl,Rat.le_refl⟩
  rw[Rat.add_zero] at this
  exact this
 ·rw[if_neg (by omega),show mex t.1 i=0 by omega]
  have:wv (t.2*((0:Nat):Rat)) w 3=0:=by
   simp only[wv]
   show t.2*0*w 0*w 1*w 2=0
   grind
  rw[this]
  exact⟨Rat.le_refl,Rat.le_refl⟩
theorem ctm3 {t:Tm} (u:Pt):ctm t u 3=t.2*u.x^mex t.1 0*u.y^mex t.1 1*u.z^mex t.1 2:=by
 simp only[ctm,←mex_egetI]
 rfl
theorem tm_slopes {b:Nat→Iv} {u v:Pt} (hu:inB3 b u) (hv:inB3 b v) {t:Tm} (ho:t.1.ok): ∃h0 h1 h2:Rat,inI (ovS b (dterm 0 t)) h0∧inI (ovS b (dterm 1 t)) h1∧inI (ovS b (dterm 2 t)) h2∧
  ctm t u 3=ctm t v 3+h0*(u.x-v.x)+h1*(u.y-v.y)+h2*(u.z-v.z):=by
 have u0:inI (b 0) u.x:=hu 0 (by omega)
 have u1:inI (b 1) u.y:=hu 1 (by omega)
 have u2:inI (b 2) u.z:=hu 2 (by omega)
 have v0:inI (b 0) v.x:=hv 0 (by omega)
 have v1:inI (b 1) v.y:=hv 1 (by omega)
 have v2:inI (b 2) v.z:=hv 2 (by omega)
 obtain⟨g0,a0,e0⟩:=var_slope u0 v0 (mex t.1 0)
 obtain⟨g1,a1,e1⟩:=var_slope u1 v1 (mex t.1 1)
 obtain⟨g2,a2,e2⟩:=var_slope u2 v2 (mex t.1 2)
 have p1:=in_pow u1 (mex t.1 1)
 have p2:=in_pow u2 (mex t.1 2)
 have q0:=in_pow v0 (mex t.1 0)
 have q1:=in_pow v1 (mex t.1 1)
 refine⟨_,_,_,in_dterm (i:=0) (w:=fun j=>if j=0 then g0 else if j=1 then u.y^mex t.1 1 else u.z^mex t.1 2) (by omega) ho (fun j hj hne=>?_) (fun h=>a0 h),in_dterm (i:=1) (w:=fun j=>if j=0 then v.x^mex t.1 0 else if j=1 then g1 else u.z^mex t.1 2) (by omega) ho (fun j hj hne=>?_) (fun h=>a1 h),
  in_dterm (i:=2) (w:=fun j=>if j=0 then v.x^mex t.1 0 else if j=1 then v.y^mex t.1 1 else g2) (by omega) ho (fun j hj hne=>?_) (fun h=>a2 h),?_⟩
 ·rcases(by omega:j=1∨j=2) with rfl | rfl
  ·exact p1
  ·exact p2
 ·rcases(by omega:j=0∨j=2) with rfl | rfl
  ·exact q0
  ·exact p2
 ·rcases(by omega:j=0∨j=1) with rfl | rfl
  ·exact q0
  ·exact q1
 ·rw[ctm3,ctm3]
  show _=_+t.2*((mex t.1 0:Nat):Rat)*g0*u.y^mex t.1 1*u.z^mex t.1 2*(u.x-v.x)+t.2*((mex t.1 1:Nat):Rat)*v.x^mex t.1 0*g1*u.z^mex t.1 2*(u.y-v.y)+t.2*((mex t.1 2:Nat):Rat)*v.x^mex t.1 0*v.y^mex t.1 1*g2*(u.z-v.z)
  rw[show t.2*((mex t.1 0:Nat):Rat)*g0*u.y^mex t.1 1*u.z^mex t.1 2*(u.x-v.x)=t.2*(((mex t.1 0:Nat):Rat)*g0*(u.x-v.x))*u.y^mex t.1 1*u.z^mex t.1 2 by grind,←e0,
   show t.2*((mex t.1 1:Nat):Rat)*v.x^mex t.1 0*g1*u.z^mex t.1 2*(u.y-v.y)=t.2*v.x^mex t.1 0*(((mex t.1 1:Nat):Rat)*g1*(u.y-v.y))*u.z^mex t.1 2 by grind,←e1,
   show t.2*((mex t.1 2:Nat):Rat)*v.x^mex t.1 0*v.y^mex t.1 1*g2*(u.z-v.z)=t.2*v.x^mex t.1 0*v.y^mex t.1 1*(((mex t.1 2:Nat):Rat)*g2*(u.z-v.z)) by grind,←e2]
  grind
def atS (u:Pt):List Tm→Rat
 | []=>0
 | t :: p=>ctm t u 3+atS u p
theorem atQ_S (u:Pt) (p:List Tm):atQ u p=atS u p:=by
 have key: ∀(p:List Tm) (a:Rat),p.foldl (fun a t=>a+ctm t u 3) a=a+atS u p:=by
  intro p
  induction p with
  | nil=>intro a;exact(Rat.add_zero a).symm
  | cons t p ih=>intro a;rw[List.foldl_cons,ih,atS,Rat.add_assoc]
 rw[atQ,key,Rat.zero_add]
theorem dlist_cons' (t:Tm) (p:List Tm) (i:Nat):dlist (t :: p) i=dterm i t ++ dlist p i:=rfl
theorem at_slopes {b:Nat→Iv} {u v:Pt} (hu:inB3 b u) (hv:inB3 b v): ∀p:List Tm,POk p→∃h0 h1 h2:Rat,inI (ovS b (dlist p 0)) h0∧inI (ovS b (dlist p 1)) h1∧inI (ovS b (dlist p 2)) h2∧
  atS u p=atS v p+h0*(u.x-v.x)+h1*(u.y-v.y)+h2*(u.z-v.z)
 | [],_=>⟨0,0,0,⟨Rat.le_refl,Rat.le_refl⟩,⟨Rat.le_refl,Rat.le_refl⟩,⟨Rat.le_refl,Rat.le_refl⟩,by show(0:Rat)=0+0*_+0*_+0*_;grind⟩
 | t :: p,ho=>by
  obtain⟨g0,g1,g2,k0,k1,k2,ke⟩:=tm_slopes hu hv (ho t (by simp))
  obtain⟨h0,h1,h2,j0,j1,j2,je⟩:=at_slopes hu hv p fun x hx=>ho x (by simp[hx])
  refine⟨g0+h0,g1+h1,g2+h2,?_,?_,?_,?_⟩
  ·rw[dlist_cons',ovS_app];exact in_add k0 j0
  ·rw[dlist_cons',ovS_app];exact in_add k1 j1
  ·rw[dlist_cons',ovS_app];exact in_add k2 j2
  ·rw[atS,atS,ke,je]
   grind
/-! ### Derivatives stay in order. -/
theorem dec_lt {a b : Mon} (h : a.lt b) (i : Nat) : (decM a i).lt (decM b i) := by
  unfold Mon.lt Mon.deg at *
  unfold decM
  (repeat' split) <;> dsimp only <;> omega
theorem mem_dlist {p:List Tm} {i:Nat} {x:Tm} (h:x∈dlist p i): ∃s∈p,0<eget s.1 i∧x=(decM s.1 i,s.2*((eget s.1 i:Int):Rat)):=by
 obtain⟨s,hs,hx⟩:=List.mem_flatMap.1 h
 unfold dterm at hx
 split at hx
 ·exact⟨s,hs,by assumption,List.mem_singleton.1 hx⟩
 ·cases hx
theorem dlist_srt: ∀{p:List Tm} (_:p.Pairwise fun a b=>a.1.lt b.1) (i:Nat),(dlist p i).Pairwise fun a b=>a.1.lt b.1
 | [],_,_=>List.Pairwise.nil
 | t :: p,h,i=>by
  obtain⟨h1,h2⟩:=List.pairwise_cons.1 h
  have ih:=dlist_srt h2 i
  rw[dlist_cons']
  unfold dterm
  split
  ·refine List.pairwise_cons.2 ⟨fun x hx=>?_,ih⟩
   obtain⟨s,hs,_,rfl⟩:=mem_dlist hx
   exact dec_lt (h1 s hs) i
  ·exact ih
theorem dlist_good {p:List Tm} (h:PGood p) (i:Nat):PGood (dlist p i):=⟨dlist_srt h.srt i,fun x hx=>by
 obtain⟨s,hs,hp,rfl⟩:=mem_dlist hx
 have h1:=h.nz s hs
 have h2:(0:Rat)<((eget s.1 i:Int):Rat):=Rat.intCast_pos.2 hp
 show s.2*((eget s.1 i:Int):Rat)≠0
 rw[ne_eq,Rat.mul_eq_zero]
 rintro(e | e)
 ·exact h1 e
 ·rw[e] at h2;exact absurd h2 (by decide)⟩
theorem diffP_eq {p:List Tm} (h:PGood p) {i:Nat} (hi:i<3):diffP p (i:Int)=dlist p i:=by
 unfold diffP
 rw[if_pos ⟨by omega,by omega⟩,Int.toNat_natCast]
 exact(pnorm_good _).uniq (dlist_good h i) fun m=>ptot_pnorm _ m
/-! ### A box; its middle; a polynomial there. -/
def ptMid (bs : List Iv) : Pt := ⟨ivMid (boxF bs 0), ivMid (boxF bs 1), ivMid (boxF bs 2)⟩
theorem ptMid_get (bs:List Iv) {i:Nat} (hi:i<3):(ptMid bs).get i=ivMid (boxF bs i):=by
 rcases(by omega:i=0∨i=1∨i=2) with rfl | rfl | rfl<;>rfl
def meanS (p:List Tm) (bs:List Iv):Nat→Iv
 | 0=>ivPt (atQ (ptMid bs) p)
 | j+1=>ivAdd (meanS p bs j) (ivMul (ivOver (boxF bs) (diffP p (j:Int))) (ivSub (boxF bs j) (ivPt ((ptMid bs).get j))))
theorem half_in {x:Iv} (h:x.1≤x.2):inI x (ivMid x):=by
 unfold ivMid
 have two:(0:Rat)<2:=by decide
 exact⟨Rat.not_lt.1 fun e=>by have:=(Rat.div_lt_iff two).1 e;grind,Rat.not_lt.1 fun e=>by have:=(Rat.lt_div_iff two).1 e;grind⟩
theorem mid_in {bs:List Iv} (h: ∀x∈bs,x.1≤x.2):inB3 (boxF bs) (ptMid bs):=fun i hi=>by
 rw[ptMid_get bs hi]
 exact half_in (boxF_ord h i)
theorem in_sub {x:Iv} {v w:Rat} (h:inI x v):inI (ivSub x (ivPt w)) (v-w):=by
 obtain⟨h1,h2⟩:=h
 exact⟨by show x.1-w≤v-w;grind,by show v-w≤x.2-w;grind⟩
theorem in_mean {bs:List Iv} (hb: ∀x∈bs,x.1≤x.2) (hl:bs.length≤3) {p:List Tm} (hg:PGood p) (ho:POk p) {u:Pt} (hu:inB3 (boxF bs) u):inI (meanS p bs bs.length) (atQ u p):=by
 have hm:=mid_in hb
 obtain⟨h0,h1,h2,j0,j1,j2,e⟩:=at_slopes hu hm p ho
 rw[←atQ_S,←atQ_S] at e
 have z: ∀i,bs.length≤i→i<3→u.get i=0∧(ptMid bs).get i=0:=fun i hi h3=>by
  have a:=hu i h3
  have c:=hm i h3
  rw[boxF_out hi] at a c
  obtain⟨a1,a2⟩:=a
  obtain⟨c1,c2⟩:=c
  have a1:0≤u.get i:=a1
  have a2:u.get i≤0:=a2
  have c1:0≤(ptMid bs).get i:=c1
  have c2:(ptMid bs).get i≤0:=c2
  exact⟨by grind,by grind⟩
 have st: ∀{i:Nat} {h a c:Rat},i<3→inI (ovS (boxF bs) (dlist p i)) h→inI (boxF bs i) a→inI (ivMul (ivOver (boxF bs) (diffP p (i:Int))) (ivSub (boxF bs i) (ivPt c))) (h*(a-c)):=fun hi h k=>by
  rw[ivOver_S,diffP_eq hg hi]
  exact in_mul h (in_sub k)
 have s0:=st (c:=(ptMid bs).get 0) (by omega) j0 (hu 0 (by omega))
 have s1:=st (c:=(ptMid bs).get 1) (by omega) j1 (hu 1 (by omega))
 have s2:=st (c:=(ptMid bs).get 2) (by omega) j2 (hu 2 (by omega))
 have m0:inI (meanS p bs 0) (atQ (ptMid bs) p):=⟨Rat.le_refl,Rat.le_refl⟩
 have e0:u.get 0=u.x:=rfl
 have e1:u.get 1=u.y:=rfl
 have e2:u.get 2=u.z:=rfl
 have f0:(ptMid bs).get 0=(ptMid bs).x:=rfl
 have f1:(ptMid bs).get 1=(ptMid bs).y:=rfl
 have f2:(ptMid bs).get 2=(ptMid bs).z:=rfl
 rw[e0,f0] at s0
 rw[e1,f1] at s1
 rw[e2,f2] at s2
 have m1:=in_add m0 s0
 have m2:=in_add m1 s1
 have m3:=in_add m2 s2
 have z0:=z 0
 have z1:=z 1
 have z2:=z 2
 rw[e0,f0] at z0
 rw[e1,f1] at z1
 rw[e2,f2] at z2
 rcases(by omega:bs.length=0∨bs.length=1∨bs.length=2∨bs.length=3) with hn | hn | hn | hn<;>rw[hn]
 ·rw[hn] at z0 z1 z2
  rw[show atQ u p=atQ (ptMid bs) p by rw[e,(z0 (by omega) (by omega)).1,(z0 (by omega) (by omega)).2,(z1 (by omega) (by omega)).1,(z1 (by omega) (by omega)).2,(z2 (by omega) (by omega)).1,(z2 (by omega) (by omega)).2];grind]
  exact m0
 ·rw[hn] at z1 z2
  rw[show atQ u p=atQ (ptMid bs) p+h0*(u.x-(ptMid bs).x) by rw[e,(z1 (by omega) (by omega)).1,(z1 (by omega) (by omega)).2,(z2 (by omega) (by omega)).1,(z2 (by omega) (by omega)).2];grind]
  exact m1
 ·rw[hn] at z2
  rw[show atQ u p=atQ (ptMid bs) p+h0*(u.x-(ptMid bs).x)+h1*(u.y-(ptMid bs).y) by rw[e,(z2 (by omega) (by omega)).1,(z2 (by omega) (by omega)).2];grind]
  exact m2
 ·rw[e]
  exact m3
end Go.Proofs.YtjkkidjbppphpaaGreatDoor

/- span.Sub, Mid, Within, Same, Meet; box.Mid; bound.Sides, three, Natural, Mean, Best. -/
set_option maxRecDepth 100000
set_option linter.unusedVariables false
set_option linter.unusedSimpArgs false
namespace Go.Proofs.YtjkkidjbppphpaaGreatDoor
open Go Go.SX
theorem spanSub_ok {W0:PW} {M:Nat→Prop} {l1 l2:List Value} {x y:Iv} {k:Nat} (h1:SpV 284 W0 l1 x) (h2:SpV 284 W0 l2 y) (hx:IvS k x) (hy:IvS k y) (hk:k≤8589934592):
  PCallsM Go.Proofs.Tryz.prog 129 [.agg ⟨l1⟩,.agg ⟨l2⟩] W0 M fun v W'=>∃(l:List Value),v = .agg ⟨l⟩∧SpV 284 W' l (ivSub x y):=by
 obtain⟨s0,b0,t0,s1,b1,t1,rfl,h1,h1'⟩:=h1
 obtain⟨s2,b2,t2,s3,b3,t3,rfl,h2,h2'⟩:=h2
 apply callspan_Sub
 exact ratSub_call h1 h2' hx.1 hy.2 hk hk fun s3 b4 s5 W2 hE2 g1=>⟨s3,b4,s5,rfl,ratSub_call (h1'.ext hE2) (h2.ext hE2) hx.2 hy.1 hk hk fun s8 b9 s10 W7 hE7 g2=>⟨s8,b9,s10,rfl,fun W11 hE11=>⟨_,rfl,SpV.mk (x:=ivSub x y) (g1.ext (hE7.trans hE11)) (g2.ext hE11)⟩⟩⟩
theorem spanSub_call {W0 W:PW} {M:Nat→Prop} {l1 l2:List Value} {x y:Iv} {k:Nat} {K:Value→PW→Prop} (h1:SpV 284 W l1 x) (h2:SpV 284 W l2 y) (hx:IvS k x) (hy:IvS k y) (hk:k≤8589934592) (kont: ∀(l:List Value) (W':PW),Ext W W'→(SpV 284 W' l (ivSub x y))→K (.agg ⟨l⟩) W'):
  callN Go.Proofs.Tryz.prog W0 M 129 [.agg ⟨l1⟩,.agg ⟨l2⟩] W K:=
 callN_of (fun W' hE=>spanSub_ok (M:=fun _=>False) (h1.ext hE) (h2.ext hE) hx hy hk) (fun W' v W'' hE hE' hP=>by
  obtain⟨l,rfl,h⟩:=hP
  exact kont l W'' (hE.trans hE') h)
theorem sz_two:Sz 1 ((2:Int):Rat):=⟨by rw[Rat.num_intCast];exact nl_le (by decide),by rw[Rat.den_intCast,nl_one];omega⟩
theorem spanHalf_ok {W0:PW} {M:Nat→Prop} {s t:Sl} {b:Bool} {q:Rat} {k:Nat} (h:IsRat 284 W0 s b t q) (hq:Sz k q) (hk:k≤8589934592):
  PCallsM Go.Proofs.Tryz.prog 177 [.agg ⟨[s.v,.bool b,t.v]⟩] W0 M fun v W'=>∃(r:Sl),∃(c:Bool),∃(u:Sl),v = .agg ⟨[Sl.v r,.bool c,Sl.v u]⟩∧IsRat 284 W' r c u (q/2):=by
 apply callspan_half
 exact ratOf_call (z:=2) (by unfold I64;omega) fun s3 b4 s5 W2 hE2 h2=>⟨s3,b4,s5,rfl,ratDiv_call (h.ext hE2) h2 hq sz_two hk (by omega) (by omega) fun s8 b9 s10 W7 hE7 h7=>⟨s8,b9,s10,_,rfl,fun W12 hE12=>⟨s8,b9,s10,rfl,h7.ext hE12⟩⟩⟩
theorem spanHalf_call {W0 W:PW} {M:Nat→Prop} {s t:Sl} {b:Bool} {q:Rat} {k:Nat} {K:Value→PW→Prop} (h:IsRat 284 W s b t q) (hq:Sz k q) (hk:k≤8589934592) (kont: ∀(r:Sl) (c:Bool) (u:Sl) (W':PW),Ext W W'→(IsRat 284 W' r c u (q/2))→K (.agg ⟨[Sl.v r,.bool c,Sl.v u]⟩) W'):
  callN Go.Proofs.Tryz.prog W0 M 177 [.agg ⟨[s.v,.bool b,t.v]⟩] W K:=
 callN_of (fun W' hE=>spanHalf_ok (M:=fun _=>False) (h.ext hE) hq hk) (fun W' v W'' hE hE' hP=>by
  obtain⟨r,c,u,rfl,h⟩:=hP
  exact kont r c u W'' (hE.trans hE') h)
theorem spanMid_ok {W0:PW} {M:Nat→Prop} {l1:List Value} {x:Iv} {k:Nat} (h1:SpV 284 W0 l1 x) (hx:IvS k x) (hk:k≤1073741824):
  PCallsM Go.Proofs.Tryz.prog 100 [.agg ⟨l1⟩] W0 M fun v W'=>∃(r:Sl),∃(c:Bool),∃(u:Sl),v = .agg ⟨[Sl.v r,.bool c,Sl.v u]⟩∧IsRat 284 W' r c u (ivMid x):=by
 obtain⟨s0,b0,t0,s1,b1,t1,rfl,h1,h1'⟩:=h1
 apply callspan_Mid
 exact ratAdd_call h1 h1' hx.1 hx.2 (by omega) (by omega) fun s3 b4 s5 W2 hE2 h2=>⟨s3,b4,s5,rfl,spanHalf_call h2 (hx.1.add hx.2) (by omega) fun s8 b9 s10 W7 hE7 h7=>⟨s8,b9,s10,rfl,fun W12 hE12=>⟨s8,b9,s10,rfl,h7.ext hE12⟩⟩⟩
theorem spanMid_call {W0 W:PW} {M:Nat→Prop} {l1:List Value} {x:Iv} {k:Nat} {K:Value→PW→Prop} (h1:SpV 284 W l1 x) (hx:IvS k x) (hk:k≤1073741824) (kont: ∀(r:Sl) (c:Bool) (u:Sl) (W':PW),Ext W W'→(IsRat 284 W' r c u (ivMid x))→K (.agg ⟨[Sl.v r,.bool c,Sl.v u]⟩) W'):
  callN Go.Proofs.Tryz.prog W0 M 100 [.agg ⟨l1⟩] W K:=
 callN_of (fun W' hE=>spanMid_ok (M:=fun _=>False) (h1.ext hE) hx hk) (fun W' v W'' hE hE' hP=>by
  obtain⟨r,c,u,rfl,h⟩:=hP
  exact kont r c u W'' (hE.trans hE') h)
instance (x y:Iv):Decidable (ivLe x y):=by unfold ivLe;infer_instance
theorem spanWithin_ok {W0:PW} {M:Nat→Prop} {l1 l2:List Value} {x y:Iv} {k:Nat} (h1:SpV 284 W0 l1 x) (h2:SpV 284 W0 l2 y) (hx:IvS k x) (hy:IvS k y) (hk:k≤8589934592):
  PCallsM Go.Proofs.Tryz.prog 27 [.agg ⟨l1⟩,.agg ⟨l2⟩] W0 M fun v W'=>v = .bool (decide (ivLe x y))∧True:=by
 obtain⟨s0,b0,t0,s1,b1,t1,rfl,h1,h1'⟩:=h1
 obtain⟨s2,b2,t2,s3,b3,t3,rfl,h2,h2'⟩:=h2
 apply callspan_Within
 refine ratCmp_call h2 h1 hy.1 hx.1 (by omega) (by omega) fun W2 hE2 _=>⟨_,rfl,fun h=>ratCmp_call (h1'.ext hE2) (h2'.ext hE2) hx.2 hy.2 (by omega) (by omega) fun W5 hE5 _=>⟨_,rfl,fun W7 hE7=>⟨?_,trivial⟩⟩,fun h W8 hE8=>⟨?_,trivial⟩⟩
 ·have h:=cmpQ_le.1 h
  congr 1
  rw[decide_eq_decide,cmpQ_le]
  exact⟨fun e=>⟨h,e⟩,fun e=>e.2⟩
 ·rw[decide_eq_false fun e=>h (cmpQ_le.2 e.1)]
theorem spanWithin_call {W0 W:PW} {M:Nat→Prop} {l1 l2:List Value} {x y:Iv} {k:Nat} {K:Value→PW→Prop} (h1:SpV 284 W l1 x) (h2:SpV 284 W l2 y) (hx:IvS k x) (hy:IvS k y) (hk:k≤8589934592) (kont: ∀(W':PW),Ext W W'→(True)→K (.bool (decide (ivLe x y))) W'):
  callN Go.Proofs.Tryz.prog W0 M 27 [.agg ⟨l1⟩,.agg ⟨l2⟩] W K:=
 callN_of (fun W' hE=>spanWithin_ok (M:=fun _=>False) (h1.ext hE) (h2.ext hE) hx hy hk) (fun W' v W'' hE hE' hP=>by
  obtain⟨rfl,h⟩:=hP
  exact kont W'' (hE.trans hE') h)
def ivMeet (x y:Iv):Iv:=if rmax x.1 y.1≤rmin x.2 y.2 then(rmax x.1 y.1,rmin x.2 y.2) else(0,0)
theorem rmin_sz {k:Nat} {a b:Rat} (ha:Sz k a) (hb:Sz k b):Sz k (rmin a b):=by rcases rmin_or a b with e | e<;>rw[e]<;>assumption
theorem rmax_sz {k:Nat} {a b:Rat} (ha:Sz k a) (hb:Sz k b):Sz k (rmax a b):=by rcases rmax_or a b with e | e<;>rw[e]<;>assumption
theorem spanMeet_ok {W0:PW} {M:Nat→Prop} {l1 l2:List Value} {x y:Iv} {k:Nat} (h1:SpV 284 W0 l1 x) (h2:SpV 284 W0 l2 y) (hx:IvS k x) (hy:IvS k y) (hk:k≤8589934592):
  PCallsM Go.Proofs.Tryz.prog 147 [.agg ⟨l1⟩,.agg ⟨l2⟩] W0 M fun v W'=>∃(l:List Value),v = .tuple ⟨[.agg ⟨l⟩,.bool (decide (rmax x.1 y.1≤rmin x.2 y.2))]⟩∧SpV 284 W' l (ivMeet x y):=by
 obtain⟨s0,b0,t0,s1,b1,t1,rfl,h1,h1'⟩:=h1
 obtain⟨s2,b2,t2,s3,b3,t3,rfl,h2,h2'⟩:=h2
 apply callspan_Meet
 refine spanMore_call h1 h2 hx.1 hy.1 (by omega) fun s3 b4 s5 W2 hE2 g1=>⟨s3,b4,s5,rfl,spanLess_call (h1'.ext hE2) (h2'.ext hE2) hx.2 hy.2 (by omega) fun s8 b9 s10 W7 hE7 g2=>⟨s8,b9,s10,rfl,?_⟩⟩
 refine spanNew_call (g1.ext hE7) g2 (rmax_sz hx.1 hy.1) (rmin_sz hx.2 hy.2) (by omega) fun l W12 hE12 h12=>?_
 obtain⟨s13,b14,s15,s16,b17,s18,rfl,q1,q2⟩:=h12
 exact⟨s13,b14,s15,s16,b17,s18,_,rfl,fun W20 hE20=>⟨_,rfl,SpV.mk (x:=ivMeet x y) (q1.ext hE20) (q2.ext hE20)⟩⟩
theorem spanMeet_call {W0 W:PW} {M:Nat→Prop} {l1 l2:List Value} {x y:Iv} {k:Nat} {K:Value→PW→Prop} (h1:SpV 284 W l1 x) (h2:SpV 284 W l2 y) (hx:IvS k x) (hy:IvS k y) (hk:k≤8589934592) (kont: ∀(l:List Value) (W':PW),Ext W W'→(SpV 284 W' l (ivMeet x y))→K (.tuple ⟨[.agg ⟨l⟩,.bool (decide (rmax x.1 y.1≤rmin x.2 y.2))]⟩) W'):
  callN Go.Proofs.Tryz.prog W0 M 147 [.agg ⟨l1⟩,.agg ⟨l2⟩] W K:=
 callN_of (fun W' hE=>spanMeet_ok (M:=fun _=>False) (h1.ext hE) (h2.ext hE) hx hy hk) (fun W' v W'' hE hE' hP=>by
  obtain⟨l,rfl,h⟩:=hP
  exact kont l W'' (hE.trans hE') h)
def SidesOK (p:List Tm) (bs:List Iv):Prop:=BoxOK bs∧maxf varsM 0 p≤(bs.length:Int)
instance (p:List Tm) (bs:List Iv):Decidable (SidesOK p bs):=by unfold SidesOK;infer_instance
theorem boundSides_ok {W0:PW} {M:Nat→Prop} {s sb:Sl} {p:List Tm} {bs:List Iv} {k:Nat} (h:IsPoly 284 165 W0 s p) (hb:IsBox 284 W0 sb bs) (hk: ∀x∈bs,IvS k x) (hk2:k≤1048576) (hl:bs.length≤1048576) (hp:p.length≤1099511627776):
  PCallsM Go.Proofs.Tryz.prog 62 [.agg ⟨[s.v]⟩,sb.v] W0 M fun v W'=>v = .bool (decide (SidesOK p bs))∧True:=by
 apply callbound_Sides
 have hn:=hb.n
 refine boxRight_call hb hk hk2 hl fun W2 hE2 _=>⟨_,rfl,fun hr=>polyVars_call (h.ext hE2) hp fun W5 hE5 _=>⟨_,rfl,fun W7 _=>⟨?_,trivial⟩⟩,fun hr W8 _=>⟨?_,trivial⟩⟩
 ·have hr:=of_decide_eq_true hr
  congr 1
  rw[decide_eq_decide,hn]
  exact⟨fun e=>⟨hr,e⟩,fun e=>e.2⟩
 ·have hr:=of_decide_eq_false hr
  rw[decide_eq_false (p:=SidesOK p bs) fun e=>hr e.1]
theorem boundSides_call {W0 W:PW} {M:Nat→Prop} {s sb:Sl} {p:List Tm} {bs:List Iv} {k:Nat} {K:Value→PW→Prop} (h:IsPoly 284 165 W s p) (hb:IsBox 284 W sb bs) (hk: ∀x∈bs,IvS k x) (hk2:k≤1048576) (hl:bs.length≤1048576) (hp:p.length≤1099511627776) (kont: ∀(W':PW),Ext W W'→(True)→K (.bool (decide (SidesOK p bs))) W'):
  callN Go.Proofs.Tryz.prog W0 M 62 [.agg ⟨[s.v]⟩,sb.v] W K:=
 callN_of (fun W' hE=>boundSides_ok (M:=fun _=>False) (h.ext hE) (hb.ext hE) hk hk2 hl hp) (fun W' v W'' hE hE' hP=>by
  obtain⟨rfl,h⟩:=hP
  exact kont W'' (hE.trans hE') h)
theorem boundThree_ok {W0:PW} {M:Nat→Prop} {sb:Sl} {bs:List Iv} (hb:IsBox 284 W0 sb bs):
  PCallsM Go.Proofs.Tryz.prog 93 [sb.v] W0 M fun v W'=>∃(l:List Value),v = .agg ⟨l⟩∧DmV 284 W' l (boxF bs):=by
 apply callbound_three
 obtain⟨ys,hr,ha⟩:=hb
 have hd:=three_cells ha
 refine⟨ys,hr,hd.shp,fun s2 b3 s4 s5 b6 s7 s8 b9 s10 s11 b12 s13 s14 b15 s16 s17 b18 s19 he W20 hE20=>⟨_,rfl,?_⟩⟩
 rw[he]
 exact hd.ext hE20
theorem boundThree_call {W0 W:PW} {M:Nat→Prop} {sb:Sl} {bs:List Iv} {K:Value→PW→Prop} (hb:IsBox 284 W sb bs) (kont: ∀(l:List Value) (W':PW),Ext W W'→(DmV 284 W' l (boxF bs))→K (.agg ⟨l⟩) W'):
  callN Go.Proofs.Tryz.prog W0 M 93 [sb.v] W K:=
 callN_of (fun W' hE=>boundThree_ok (M:=fun _=>False) (hb.ext hE)) (fun W' v W'' hE hE' hP=>by
  obtain⟨l,rfl,h⟩:=hP
  exact kont l W'' (hE.trans hE') h)
structure BxN (k m:Nat) (p:List Tm) (bs:List Iv):Prop where
 bd:Bd k p
 sd: ∀x∈bs,IvS m x
 ok:POk p
 len:p.length≤1000000
 k1:k≤100000000
 m1:m≤100
 bl:bs.length≤1000
structure BxB (k m:Nat) (p:List Tm) (bs:List Iv):Prop where
 n:BxN k m p bs
 len:p.length≤30
 k1:k≤300000
 bl:bs.length≤100
theorem BxN.side {k m:Nat} {p:List Tm} {bs:List Iv} (h:BxN k m p bs) (i:Nat):BdI (2*m+1) (boxF bs i):=boxF_bd h.sd i
theorem mex_255 {p:List Tm} (h:POk p): ∀t∈p,∀i,mex t.1 i≤255:=fun t ht i=>by
 have:=h t ht
 unfold Mon.ok at this
 unfold SX.mex
 (repeat' split)<;>omega
theorem BxN.over {k m:Nat} {p:List Tm} {bs:List Iv} (h:BxN k m p bs):BdI (k+3*((2*m+1+1)*255+1)) (ivOver (boxF bs) p):=ivOver_bd h.bd h.side (mex_255 h.ok)
theorem boundNatural_ok {W0:PW} {M:Nat→Prop} {s sb:Sl} {p:List Tm} {bs:List Iv} {k m:Nat} (h:IsPoly 284 165 W0 s p) (hb:IsBox 284 W0 sb bs) (hz:BxN k m p bs):
  PCallsM Go.Proofs.Tryz.prog 24 [.agg ⟨[s.v]⟩,sb.v] W0 M fun v W'=>∃(l:List Value),v = .tuple ⟨[.agg ⟨l⟩,.bool (decide (SidesOK p bs))]⟩∧SpV 284 W' l (if SidesOK p bs then ivOver (boxF bs) p else(0,0)):=by
 apply callbound_Natural
 have z1:=hz.m1
 have z2:=hz.len
 have z3:=hz.k1
 have z4:=hz.bl
 refine boundSides_call h hb hz.sd (by omega) (by omega) (by omega) fun W2 hE2 _=>⟨_,rfl,fun hno W4 hE4=>?_,fun hyes=>?_⟩
 ·have hno:¬SidesOK p bs:=by simpa using hno
  rw[if_neg hno,decide_eq_false hno]
  exact⟨_,rfl,SpV.zero W4⟩
 ·have hyes:SidesOK p bs:=by simpa using hyes
  rw[if_pos hyes,decide_eq_true hyes]
  refine boundThree_call (hb.ext hE2) fun l W6 hE6 hd=>?_
  obtain⟨s7,b8,s9,s10,b11,s12,s13,b14,s15,s16,b17,s18,s19,b20,s21,s22,b23,s24,rfl,hd'⟩:=id hd
  refine⟨s7,b8,s9,s10,b11,s12,s13,b14,s15,s16,b17,s18,s19,b20,s21,s22,b23,s24,rfl,?_⟩
  exact boundOver_call (h.ext (hE2.trans hE6)) hd hz.bd hz.side (mex_255 hz.ok) (Nat.le_refl 255) (by omega) (by omega) (by omega) fun r W26 hE26 h26=>h26.out fun s27 b28 s29 s30 b31 s32 h26 W33 hE33=>⟨_,rfl,h26.ext hE33⟩
theorem boundNatural_call {W0 W:PW} {M:Nat→Prop} {s sb:Sl} {p:List Tm} {bs:List Iv} {k m:Nat} {K:Value→PW→Prop} (h:IsPoly 284 165 W s p) (hb:IsBox 284 W sb bs) (hz:BxN k m p bs) (kont: ∀(l:List Value) (W':PW),Ext W W'→(SpV 284 W' l (if SidesOK p bs then ivOver (boxF bs) p else(0,0)))→K (.tuple ⟨[.agg ⟨l⟩,.bool (decide (SidesOK p bs))]⟩) W'):
  callN Go.Proofs.Tryz.prog W0 M 24 [.agg ⟨[s.v]⟩,sb.v] W K:=
 callN_of (fun W' hE=>boundNatural_ok (M:=fun _=>False) (h.ext hE) (hb.ext hE) hz) (fun W' v W'' hE hE' hP=>by
  obtain⟨l,rfl,h⟩:=hP
  exact kont l W'' (hE.trans hE') h)
def cnB (n:Nat) (L:List PL) (_:PW):Nat:=match L with
 | [_,.val (.int .i64 z)]=>n-z.toNat
 | _=>0
def mids (bs:List Iv):List Rat:=bs.map ivMid
def bmI (W0:PW) (bs:List Iv) (L:List PL) (W:PW):Prop:=match L with
 | [.row l,.val (.int .i64 i)]=>∃j:Nat,i=(j:Int)∧j≤bs.length∧Ext W0 W∧All2 (QtV 284 W) l (mids (bs.take j))
 | _=>False
theorem boxMid_ok {W0:PW} {M:Nat→Prop} {sb:Sl} {bs:List Iv} {k:Nat} (hb:IsBox 284 W0 sb bs) (hk: ∀x∈bs,IvS k x) (hk2:k≤1048576) (hl:bs.length≤1048576):
  PCallsM Go.Proofs.Tryz.prog 127 [sb.v] W0 M fun v W'=>∃(s:Sl),v=Sl.v s∧IsNums 284 W' s (if BoxOK bs then mids bs else[]):=by
 apply callbox_Mid
 have hn:=hb.n
 refine boxRight_call hb hk hk2 hl fun W2 hE2 _=>⟨_,rfl,fun hno W4 hE4=>⟨⟨none,0,0⟩,rfl,?_⟩,fun hyes=>?_⟩
 ·have hno:¬BoxOK bs:=by simpa using hno
  rw[if_neg hno]
  exact LstA.nil W4
 have hyes:BoxOK bs:=by simpa using hyes
 rw[if_pos hyes]
 refine⟨bmI W2 bs,cnB bs.length,⟨0,rfl,Nat.zero_le _,Ext.refl _,trivial⟩,?_⟩
 rintro l7 i8 W9 ⟨j,rfl,hj,hE9,ha⟩
 have hal:=ha.len
 unfold mids at hal
 rw[List.length_map,List.length_take] at hal
 refine⟨fun hlt=>?_,fun hge s21 W22 hE22 hO _ W23 hE23=>⟨s21,rfl,⟨l7,⟨_,hO.row.ext hE23⟩,?_⟩⟩⟩
 ·have hjl:j<bs.length:=by omega
  have h9:=hb.ext (hE2.trans hE9)
  obtain⟨x,⟨s,b,t,s',b',t',rfl,q1,q2⟩,hel⟩:=h9.at hjl
  refine⟨h9.inB (by omega) (by omega),s,b,t,s',b',t',hel 0 rfl,?_⟩
  refine spanMid_call (SpV.mk q1 q2) (hk _ (List.getElem_mem hjl)) (by omega) fun s18 b19 s20 W17 hE17 h17=>⟨s18,b19,s20,rfl,by simp only[List.length_cons,List.length_nil];omega,by unfold I64;omega,⟨j+1,by push_cast;rfl,by omega,hE9.trans hE17,?_⟩,?_⟩
  ·unfold mids at ha⊢
   rw[List.take_succ_eq_append_getElem hjl,List.map_append]
   exact(ha.mono fun _ _ h=>h.ext hE17).append ⟨⟨s18,b19,s20,rfl,h17⟩,trivial⟩
  ·show bs.length-Int.toNat ((j:Int)+1)<bs.length-Int.toNat (j:Int)
   omega
 ·have:j=bs.length:=by omega
  subst this
  rw[List.take_length] at ha
  exact ha.mono fun _ _ h=>h.ext (hE22.trans hE23)
theorem boxMid_call {W0 W:PW} {M:Nat→Prop} {sb:Sl} {bs:List Iv} {k:Nat} {K:Value→PW→Prop} (hb:IsBox 284 W sb bs) (hk: ∀x∈bs,IvS k x) (hk2:k≤1048576) (hl:bs.length≤1048576) (kont: ∀(s:Sl) (W':PW),Ext W W'→(IsNums 284 W' s (if BoxOK bs then mids bs else[]))→K (Sl.v s) W'):
  callN Go.Proofs.Tryz.prog W0 M 127 [sb.v] W K:=
 callN_of (fun W' hE=>boxMid_ok (M:=fun _=>False) (hb.ext hE) hk hk2 hl) (fun W' v W'' hE hE' hP=>by
  obtain⟨s,rfl,h⟩:=hP
  exact kont s W'' (hE.trans hE') h)
end Go.Proofs.YtjkkidjbppphpaaGreatDoor

/- bound.Mean, Best. -/
set_option maxRecDepth 100000
set_option linter.unusedVariables false
set_option linter.unusedSimpArgs false
namespace Go.Proofs.YtjkkidjbppphpaaGreatDoor
open Go Go.SX
theorem mids_get (bs:List Iv) {i:Nat} (hi:i<3):(mids bs).getD i 0=(ptMid bs).get i:=by
 rw[ptMid_get bs hi]
 unfold mids boxF
 rw[List.getD_eq_getElem?_getD,List.getD_eq_getElem?_getD,List.getElem?_map]
 cases bs[i]? with
 | none=>show(0:Rat)=(0+0)/2;decide +kernel
 | some x=>rfl
theorem ivMid_sz {m:Nat} {x:Iv} (h:BdI m x):Sz (2*m+2) (ivMid x):=by
 have:=(h.sz.1.add h.sz.2).div sz_two (Nat.le_refl 1)
 exact this.mono (by omega)
theorem ptMid_sz {k m:Nat} {p:List Tm} {bs:List Iv} (h:BxB k m p bs) (i:Nat):Sz 404 ((ptMid bs).get i):=by
 have hm:=h.n.m1
 have e:=fun i=>(ivMid_sz (h.n.side i)).mono (show 2*(2*m+1)+2≤404 by omega)
 unfold Pt.get
 (repeat' split)
 ·exact e 0
 ·exact e 1
 ·exact e 2
theorem at_arith {a k:Nat} (h1:a≤30) (h2:k≤300000):a*(k+3*(404*255+1)+1)+1≤19000000:=by
 have h3:k+3*(404*255+1)+1≤609064:=by omega
 have h4:a*(k+3*(404*255+1)+1)≤30*609064:=Nat.mul_le_mul h1 h3
 exact Nat.le_trans (Nat.add_le_add_right h4 1) (by decide)
theorem BxB.atMid {k m:Nat} {p:List Tm} {bs:List Iv} (h:BxB k m p bs):Sz 19000000 (atQ (ptMid bs) p):=
 (atQ_sz h.n.bd.sz (ptMid_sz h) (e:=255) fun t ht i=>eget_le (h.n.ok t ht) i).mono (at_arith h.len h.k1)
theorem BxB.dover {k m:Nat} {p:List Tm} {bs:List Iv} (h:BxB k m p bs) (i:Int):BdI 460000 (ivOver (boxF bs) (diffP p i)):=by
 have h2:=h.k1
 have h3:=h.n.m1
 exact(ivOver_bd (diffP_bd h.n.bd h.n.ok i) h.n.side (mex_255 (diffP_ok h.n.ok i))).mono (by omega)
theorem BxB.dsub {k m:Nat} {p:List Tm} {bs:List Iv} (h:BxB k m p bs) (i j:Nat):BdI 2000 (ivSub (boxF bs i) (ivPt ((ptMid bs).get j))):=by
 have h3:=h.n.m1
 have z1:=(h.n.side i).sz
 have z2:=ptMid_sz h j
 exact(BdI.of_sz (x:=ivSub (boxF bs i) (ivPt ((ptMid bs).get j))) ⟨(z1.1.sub z2).mono (show _≤700 by omega),(z1.2.sub z2).mono (by omega)⟩).mono (by omega)
theorem BxB.mean {k m:Nat} {p:List Tm} {bs:List Iv} (h:BxB k m p bs): ∀j,BdI (19000000+j*470000) (meanS p bs j)
 | 0=>by rw[meanS];exact(BdI.pt h.atMid).mono (by omega)
 | j+1=>by
  rw[meanS]
  exact((h.mean j).add ((h.dover j).mul (h.dsub j j))).mono (by omega)
def mnI (W0:PW) (p:List Tm) (bs:List Iv) (L:List PL) (W:PW):Prop:=match L with
 | [.val (.int .i64 i),.cells l]=>∃j:Nat,i=(j:Int)∧j≤bs.length∧Ext W0 W∧SpV 284 W l (meanS p bs j)
 | _=>False
theorem boundMean_ok {W0:PW} {M:Nat→Prop} {s sb:Sl} {p:List Tm} {bs:List Iv} {k m:Nat} (h:IsPoly 284 165 W0 s p) (hb:IsBox 284 W0 sb bs) (hz:BxB k m p bs):
  PCallsM Go.Proofs.Tryz.prog 50 [.agg ⟨[s.v]⟩,sb.v] W0 M fun v W'=>∃(l:List Value),v = .tuple ⟨[.agg ⟨l⟩,.bool (decide (SidesOK p bs))]⟩∧SpV 284 W' l (if SidesOK p bs then meanS p bs bs.length else(0,0)):=by
 apply callbound_Mean
 have z1:=hz.n.m1
 have z2:=hz.len
 have z3:=hz.k1
 have z4:=hz.bl
 have hn:=hb.n
 refine boundSides_call h hb hz.n.sd (by omega) (by omega) (by omega) fun W2 hE2 _=>⟨_,rfl,fun hno W4 hE4=>?_,fun hyes=>?_⟩
 ·have hno:¬SidesOK p bs:=by simpa using hno
  rw[if_neg hno,decide_eq_false hno]
  exact⟨_,rfl,SpV.zero W4⟩
 have hyes:SidesOK p bs:=by simpa using hyes
 rw[if_pos hyes,decide_eq_true hyes]
 have hb3:=hyes.1.1.2
 refine boxMid_call (hb.ext hE2) hz.n.sd (by omega) (by omega) fun s7 W6 hE6 hm=>⟨s7,rfl,?_⟩
 rw[if_pos hyes.1] at hm
 obtain⟨l8,hr8,ha8⟩:=hm
 have hc:=nums_cells ha8
 refine⟨l8,hr8,hc.shp,fun s9 b10 s11 s12 b13 s14 s15 b16 s17 he=>?_⟩
 have hc:NmV 284 W6 [s9.v,.bool b10,s11.v,s12.v,.bool b13,s14.v,s15.v,.bool b16,s17.v] (fun i=>(mids bs).getD i 0):=by rw[he];exact hc
 obtain⟨g0,g1,g2⟩:=hc.three
 rw[mids_get bs (by omega)] at g0 g1 g2
 have E6:=hE2.trans hE6
 refine polyAt_call (u:=ptMid bs) (l:=404) (h.ext E6) g0 g1 g2 hz.n.bd.sz (ptMid_sz hz) (by omega) (Nat.le_trans (at_arith z2 z3) (by omega)) (by omega) fun s20 b21 s22 W19 hE19 h19=>⟨s20,b21,s22,rfl,?_⟩
 refine spanOf_call h19 fun l W24 hE24 h24=>h24.out fun s25 b26 s27 s28 b29 s30 h24=>?_
 refine⟨mnI W24 p bs,cn1 bs.length,⟨0,rfl,Nat.zero_le _,Ext.refl _,h24⟩,?_⟩
 rintro s33 b34 s35 s36 b37 s38 i39 W40 ⟨j,rfl,hj,hE40,hS⟩
 refine⟨fun hlt=>?_,fun hge W113 hE113=>⟨_,rfl,?_⟩⟩
 ·have hjl:j<bs.length:=by omega
  have E24:=E6.trans (hE19.trans hE24)
  have E40:=E24.trans hE40
  have hB:=hb.ext E40
  obtain⟨x,⟨s41,b42,s43,s44,b45,s46,rfl,q1,q2⟩,hel⟩:=hB.at hjl
  refine⟨hB.inB (by omega) (by omega),s41,b42,s43,s44,b45,s46,hel 0 rfl,?_⟩
  refine polyDiff_call (i:=(j:Int)) (h.ext E40) hz.n.bd (by omega) (by omega) fun s49 W48 hE48 h48=>⟨s49,rfl,?_⟩
  refine boundThree_call (hb.ext (E40.trans hE48)) fun l W51 hE51 hd=>?_
  obtain⟨s52,b53,s54,s55,b56,s57,s58,b59,s60,s61,b62,s63,s64,b65,s66,s67,b68,s69,rfl,hd'⟩:=id hd
  refine⟨s52,b53,s54,s55,b56,s57,s58,b59,s60,s61,b62,s63,s64,b65,s66,s67,b68,s69,rfl,?_⟩
  have hdl:=diffP_len p (j:Int)
  refine boundOver_call (h48.ext hE51) hd (diffP_bd hz.n.bd hz.n.ok j) hz.n.side (mex_255 (diffP_ok hz.n.ok j)) (Nat.le_refl 255) (by omega) (by omega) (by omega) fun r W71 hE71 h71=>h71.out fun s72 b73 s74 s75 b76 s77 h71=>?_
  have E71:=hE48.trans (hE51.trans hE71)
  obtain⟨s78,b79,s80,hbx,hq⟩:=hc.box (j:=j) (by omega)
  rw[mids_get bs (by omega)] at hq
  refine⟨⟨by omega,by omega⟩,s78,b79,s80,hbx,?_⟩
  refine spanOf_call (hq.ext (hE19.trans (hE24.trans (hE40.trans E71)))) fun l W82 hE82 h82=>h82.out fun s83 b84 s85 s86 b87 s88 h82=>?_
  have zs:=(hz.n.side j).sz
  have zm:=ptMid_sz hz j
  have hbj:=boxF_at hjl
  refine spanSub_call (x:=boxF bs j) (k:=404) (hbj ▸ SpV.mk (q1.ext (E71.trans hE82)) (q2.ext (E71.trans hE82))) h82 ⟨zs.1.mono (by omega),zs.2.mono (by omega)⟩ ⟨zm,zm⟩ (by omega) fun l W90 hE90 h90=>h90.out fun s91 b92 s93 s94 b95 s96 h90=>?_
  have zo:=(hz.dover (j:Int)).sz
  have zd:=((hz.dsub j j).mono (show 2000≤460000 by omega)).sz
  refine spanMul_call (h71.ext (hE82.trans hE90)) h90 zo zd (by omega) fun l W98 hE98 h98=>h98.out fun s99 b100 s101 s102 b103 s104 h98=>?_
  have ze:=((hz.dover (j:Int)).mul (hz.dsub j j)).sz
  have zn:=((hz.mean j).mono (show _≤67000000 by omega)).sz
  refine spanAdd_call (k:=67000000) (hS.ext (E71.trans (hE82.trans (hE90.trans hE98)))) h98 zn ⟨ze.1.mono (by omega),ze.2.mono (by omega)⟩ (by omega) fun l W106 hE106 h106=>h106.out fun s107 b108 s109 s110 b111 s112 h106=>⟨by unfold I64;omega,⟨j+1,by push_cast;rfl,by omega,hE40.trans (E71.trans (hE82.trans (hE90.trans (hE98.trans hE106)))),?_⟩,?_⟩
  ·exact h106
  ·show bs.length-Int.toNat ((j:Int)+1)<bs.length-Int.toNat (j:Int)
   omega
 ·have:j=bs.length:=by omega
  subst this
  exact hS.ext hE113
theorem boundMean_call {W0 W:PW} {M:Nat→Prop} {s sb:Sl} {p:List Tm} {bs:List Iv} {k m:Nat} {K:Value→PW→Prop} (h:IsPoly 284 165 W s p) (hb:IsBox 284 W sb bs) (hz:BxB k m p bs) (kont: ∀(l:List Value) (W':PW),Ext W W'→(SpV 284 W' l (if SidesOK p bs then meanS p bs bs.length else(0,0)))→K (.tuple ⟨[.agg ⟨l⟩,.bool (decide (SidesOK p bs))]⟩) W'):
  callN Go.Proofs.Tryz.prog W0 M 50 [.agg ⟨[s.v]⟩,sb.v] W K:=
 callN_of (fun W' hE=>boundMean_ok (M:=fun _=>False) (h.ext hE) (hb.ext hE) hz) (fun W' v W'' hE hE' hP=>by
  obtain⟨l,rfl,h⟩:=hP
  exact kont l W'' (hE.trans hE') h)
theorem BxB.mean' {k m:Nat} {p:List Tm} {bs:List Iv} (h:BxB k m p bs):IvS 67000000 (meanS p bs bs.length):=by
 have:=h.bl
 exact((h.mean bs.length).mono (by omega)).sz
def bestI (p:List Tm) (bs:List Iv):Iv:=ivMeet (ivOver (boxF bs) p) (meanS p bs bs.length)
theorem boundBest_ok {W0:PW} {M:Nat→Prop} {s sb:Sl} {p:List Tm} {bs:List Iv} {k m:Nat} (h:IsPoly 284 165 W0 s p) (hb:IsBox 284 W0 sb bs) (hz:BxB k m p bs):
  PCallsM Go.Proofs.Tryz.prog 60 [.agg ⟨[s.v]⟩,sb.v] W0 M fun v W'=>∃(l:List Value),∃(ok:Bool),v = .tuple ⟨[.agg ⟨l⟩,.bool ok]⟩∧SpV 284 W' l (if SidesOK p bs then bestI p bs else(0,0))∧ok=decide (SidesOK p bs∧rmax (ivOver (boxF bs) p).1 (meanS p bs bs.length).1≤rmin (ivOver (boxF bs) p).2 (meanS p bs bs.length).2):=by
 apply callbound_Best
 refine boundNatural_call h hb hz.n fun l W2 hE2 h2=>?_
 obtain⟨s3,b4,s5,s6,b7,s8,rfl,u1,u2⟩:=h2
 refine⟨s3,b4,s5,s6,b7,s8,_,rfl,boundMean_call (h.ext hE2) (hb.ext hE2) hz fun l W11 hE11 h11=>?_⟩
 obtain⟨s12,b13,s14,s15,b16,s17,rfl,v1,v2⟩:=h11
 refine⟨s12,b13,s14,s15,b16,s17,_,rfl,fun hno W19 _=>?_,fun hyes=>?_⟩
 ·have hno:¬SidesOK p bs:=by simpa using hno
  rw[if_neg hno]
  exact⟨_,false,rfl,SpV.zero W19,(decide_eq_false fun e=>hno e.1).symm⟩
 ·have hyes:SidesOK p bs:=by simpa using hyes
  rw[if_pos hyes] at u1 u2 v1 v2⊢
  have z1:=hz.n.m1
  have z3:=hz.k1
  have zo:=(hz.n.over.mono (show _≤67000000 by omega)).sz
  refine spanMeet_call (SpV.mk (u1.ext hE11) (u2.ext hE11)) (SpV.mk v1 v2) zo hz.mean' (by omega) fun l W21 hE21 h21=>?_
  obtain⟨s22,b23,s24,s25,b26,s27,rfl,w1,w2⟩:=h21
  refine⟨s22,b23,s24,s25,b26,s27,_,rfl,fun W29 hE29=>⟨_,_,rfl,SpV.mk (x:=bestI p bs) (w1.ext hE29) (w2.ext hE29),?_⟩⟩
  rw[decide_eq_decide]
  exact⟨fun e=>⟨hyes,e⟩,fun e=>e.2⟩
theorem boundBest_call {W0 W:PW} {M:Nat→Prop} {s sb:Sl} {p:List Tm} {bs:List Iv} {k m:Nat} {K:Value→PW→Prop} (h:IsPoly 284 165 W s p) (hb:IsBox 284 W sb bs) (hz:BxB k m p bs) (kont: ∀(l:List Value) (ok:Bool) (W':PW),Ext W W'→(SpV 284 W' l (if SidesOK p bs then bestI p bs else(0,0))∧ok=decide (SidesOK p bs∧rmax (ivOver (boxF bs) p).1 (meanS p bs bs.length).1≤rmin (ivOver (boxF bs) p).2 (meanS p bs bs.length).2))→K (.tuple ⟨[.agg ⟨l⟩,.bool ok]⟩) W'):
  callN Go.Proofs.Tryz.prog W0 M 60 [.agg ⟨[s.v]⟩,sb.v] W K:=
 callN_of (fun W' hE=>boundBest_ok (M:=fun _=>False) (h.ext hE) (hb.ext hE) hz) (fun W' v W'' hE hE' hP=>by
  obtain⟨l,ok,rfl,h⟩:=hP
  exact kont l ok W'' (hE.trans hE') h)
theorem best_ok {p:List Tm} {bs:List Iv} (hg:PGood p) (ho:POk p) (hs:SidesOK p bs):rmax (ivOver (boxF bs) p).1 (meanS p bs bs.length).1≤rmin (ivOver (boxF bs) p).2 (meanS p bs bs.length).2:=by
 have hord: ∀x∈bs,x.1≤x.2:=fun x hx=>Rat.le_of_lt (hs.1.2 x hx)
 have hm:=mid_in hord
 have h1:=in_over hm p
 have h2:=in_mean hord hs.1.1.2 hg ho hm
 obtain⟨a1,a2⟩:=h1
 obtain⟨b1,b2⟩:=h2
 have c1:rmax (ivOver (boxF bs) p).1 (meanS p bs bs.length).1≤atQ (ptMid bs) p:=by rcases rmax_or (ivOver (boxF bs) p).1 (meanS p bs bs.length).1 with e | e<;>rw[e]<;>assumption
 have c2:atQ (ptMid bs) p≤rmin (ivOver (boxF bs) p).2 (meanS p bs bs.length).2:=by rcases rmin_or (ivOver (boxF bs) p).2 (meanS p bs bs.length).2 with e | e<;>rw[e]<;>assumption
 exact Rat.le_trans c1 c2
end Go.Proofs.YtjkkidjbppphpaaGreatDoor
