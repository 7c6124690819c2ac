/- slices.Backward of bytes; mono.Vars. -/
import Derived.Test.YtjkkidjbppphpaaGreatDoorW2
import Derived.Test.YtjkkidjbppphpaaGreatDoorW6
import Derived.Test.YtjkkidjbppphpaaGreatDoorW7
import Derived.Test.YtjkkidjbppphpaaGreatDoorR12
import Derived.Test.YtjkkidjbppphpaaGreatDoorW9
import Derived.Test.YtjkkidjbppphpaaGreatDoorLib4
import Derived.Test.YtjkkidjbppphpaaGreatDoorW8
import Derived.Test.YtjkkidjbppphpaaGreatDoorR11
import Derived.Test.YtjkkidjbppphpaaGreatDoorLib5
import Derived.Test.YtjkkidjbppphpaaGreatDoorLib6
import Derived.Test.YtjkkidjbppphpaaGreatDoorR17
import Derived.Test.YtjkkidjbppphpaaGreatDoorR18
set_option linter.unusedVariables false
set_option linter.unusedSimpArgs false
namespace Go.Proofs.YtjkkidjbppphpaaGreatDoor
open Go Go.SX Go.RowKit Go.Shelf
attribute [local go_sem] Oper.semAt_some
def Cx8 (m:Mon):Int:=if 0<m.z then 3 else if 0<m.y then 2 else if 0<m.x then 1 else 0
end Go.Proofs.YtjkkidjbppphpaaGreatDoor
/- poly.Degree, poly.Top. -/
set_option maxRecDepth 100000
namespace Go.Proofs.YtjkkidjbppphpaaGreatDoor
open Go Go.SX
def Fv8 (i:Int) (m:Mon):Int:=if 0≤i∧i<3 then An6 m i.toNat else 0
def Fw5 (W0:PW) (p:List Tm) (i:Int) (L:List PL) (W:PW):Prop:=match L with
 | [.val (.int .i64 a),.val (.int .i64 k)]=>∃j:Nat,k=(j:Int)∧j≤p.length∧Ext W0 W∧a=Fd0 (Fv8 i) 0 (p.take j)
 | _=>False
def Fv5 (p:List Tm) (L:List PL) (_:PW):Nat:=match L with
 | [_,.val (.int .i64 k)]=>p.length-k.toNat
 | _=>0
end Go.Proofs.YtjkkidjbppphpaaGreatDoor
/- cinctureref1.times; poly.At, cinctureref1.At. -/
namespace Go.Proofs.YtjkkidjbppphpaaGreatDoor
open Go Go.SX
structure Pt where
 x:Rat
 y:Rat
 z:Rat
def Pt.get (u:Pt) (k:Nat):Rat:=if k=0 then u.x else if k=1 then u.y else u.z
def ctm (t:Tm) (u:Pt):Nat→Rat
 | 0=>t.2
 | j+1=>ctm t u j*u.get j^(An6 t.1 j).toNat
def atQ (u:Pt) (p:List Tm):Rat:=p.foldl (fun a t=>a+ctm t u 3) 0
theorem Gs5 (u:Pt) (l:List Tm) (t:Tm):atQ u (l ++ [t])=atQ u l+ctm t u 3:=by simp[atQ]
theorem Gu9 {t:Tm} {u:Pt} {k l e:Nat} (ht:Sz k t.2) (hu: ∀i,Sz l (u.get i)) (he: ∀i,(An6 t.1 i).toNat≤e): ∀j,Sz (k+j*(l*e+1)) (ctm t u j)
 | 0=>by rw[Nat.zero_mul,Nat.add_zero];exact ht
 | j+1=>by
  have h1:=Gu9 ht hu he j
  have h2:=Sz.Fe7 (hu j) (An6 t.1 j).toNat
  have h3:=Nat.mul_le_mul_left l (he j)
  exact(h1.mul h2).mono (by rw[Nat.add_mul,Nat.one_mul];omega)
theorem Gx6 {u:Pt} {k l e:Nat} {p:List Tm} (hp: ∀t∈p,Sz k t.2) (hu: ∀i,Sz l (u.get i)) (he: ∀t∈p,∀i,(An6 t.1 i).toNat≤e):Sz (p.length*(k+3*(l*e+1)+1)+1) (atQ u p):=by
 have key: ∀j,j≤p.length→Sz (j*(k+3*(l*e+1)+1)+1) (atQ u (p.take j)):=by
  intro j
  induction j with
  | zero=>intro _;exact Sz.zero (by omega)
  | succ j ih=>
   intro hj
   have hjl:j<p.length:=by omega
   rw[Ce0 hjl,Gs5]
   have h1:=ih (by omega)
   have h2:=Gu9 (hp _ (List.getElem_mem hjl)) hu (he _ (List.getElem_mem hjl)) 3
   refine(h1.add h2).mono ?_
   rw[Nat.add_mul,Nat.one_mul]
   omega
 have:=key p.length (Nat.le_refl _)
 rwa [List.take_length] at this
theorem Gq6 {m:Mon} (h:m.ok) (i:Nat):(An6 m i).toNat≤255:=by
 have:=Dg9 h i
 omega
def atO (W0:PW) (p:List Tm) (u:Pt) (L:List PL) (W:PW):Prop:=match L with
 | [.val (.int .i64 i),.cells [.slice A m c,.bool x,.slice A' m' c']]=>∃j:Nat,i=(j:Int)∧j≤p.length∧Ext W0 W∧Ab3 284 W ⟨A,m,c⟩ x ⟨A',m',c'⟩ (atQ u (p.take j))
 | _=>False
def atI (W1:PW) (t:Tm) (u:Pt) (L:List PL) (W:PW):Prop:=match L with
 | [.val (.int .i64 i),.cells [.slice A m c,.bool x,.slice A' m' c']]=>∃j:Nat,i=(j:Int)∧j≤3∧Ext W1 W∧Ab3 284 W ⟨A,m,c⟩ x ⟨A',m',c'⟩ (ctm t u j)
 | _=>False
theorem Gv4 {W0:PW} {M:Nat→Prop} {s s0 t0 s1 t1 s2 t2:Sl} {b0 b1 b2:Bool} {p:List Tm} {u:Pt} {k l:Nat} (h:Ab0 284 165 W0 s p) (g0:Ab3 284 W0 s0 b0 t0 u.x) (g1:Ab3 284 W0 s1 b1 t1 u.y) (g2:Ab3 284 W0 s2 b2 t2 u.z) (hp: ∀t∈p,Sz k t.2) (hu: ∀i,Sz l (u.get i)) (hl:l≤100000) (hb:p.length*(k+3*(l*255+1)+1)+1≤400000000) (hk:k+3*(l*255+1)≤400000000):
  Aa0 Tryz.prog 39 [.agg ⟨[s.v]⟩,.agg ⟨[s0.v,.bool b0,t0.v,s1.v,.bool b1,t1.v,s2.v,.bool b2,t2.v]⟩] W0 M fun v W'=>∃(s':Sl),∃(b':Bool),∃(t':Sl),v = .agg ⟨[Sl.v s',.bool b',Sl.v t']⟩∧Ab3 284 W' s' b' t' (atQ u p):=by
 apply Gq4
 have hn:=h.n
 have hpl:p.length≤400000000:=by
  have:=Nat.le_mul_of_pos_right p.length (show 0<k+3*(l*255+1)+1 by omega)
  omega
 refine⟨atO W0 p u,cn1 p.length,⟨0,rfl,by omega,Ext.refl _,Ar9 W0⟩,?_⟩
 rintro s3 b4 s5 i6 W7 ⟨j,rfl,hj,hE7,hs⟩
 have hs:Ab3 284 W7 s3 b4 s5 (atQ u (p.take j)):=hs
 refine⟨fun hlt=>?_,fun hge W40 hE40=>⟨s3,b4,s5,rfl,?_⟩⟩
 ·have hjl:j<p.length:=by omega
  have hP:=h.ext hE7
  have hm:=List.getElem_mem hjl
  obtain⟨h0,c1,d1,c2,e1,_,_,hr⟩:=hP.at (List.getElem?_eq_getElem hjl)
  have hcs:=fun i=>Gu9 (j:=i) (hp _ hm) hu (fun i=>Gq6 h0 i)
  have hbd: ∀i,i≤3→k+i*(l*255+1)≤400000000:=fun i hi=>by
   have:=Nat.mul_le_mul_right (l*255+1) hi
   omega
  refine⟨hP.inB (by omega) (by omega),_,_,_,c1,d1,c2,e1,atI W7 p[j] u,cn1 3,⟨0,rfl,by omega,Ext.refl _,hr⟩,?_⟩
  rintro s16 b17 s18 i19 W20 ⟨m,rfl,hm3,hE20,hc⟩
  have hc:Ab3 284 W20 s16 b17 s18 (ctm p[j] u m):=hc
  refine⟨fun hlt'=>?_,fun hge'=>?_⟩
  ·have hm3':m<3:=by omega
   have hmr:(0:Int)≤(m:Int)∧(m:Int)<3:=⟨by omega,by omega⟩
   have hek:=Dg9 h0 m
   have hE:=hE7.trans hE20
   obtain⟨x1,y1,z1,hbx,hux⟩: ∃(x1:Sl) (y1:Bool) (z1:Sl),As9 [s0.v,.bool b0,t0.v,s1.v,.bool b1,t1.v,s2.v,.bool b2,t2.v] (0+Int.toNat (m:Int)*3+0) [x1.v,.bool y1,z1.v]∧Ab3 284 W20 x1 y1 z1 (u.get m):=by
    rcases(by omega:m=0∨m=1∨m=2) with rfl | rfl | rfl
    ·exact⟨s0,b0,t0,⟨by simp,rfl⟩,g0.ext hE⟩
    ·exact⟨s1,b1,t1,⟨by simp,rfl⟩,g1.ext hE⟩
    ·exact⟨s2,b2,t2,⟨by simp,rfl⟩,g2.ext hE⟩
   obtain⟨n,hnn⟩:=Int.eq_ofNat_of_zero_le hek.1
   refine⟨hmr,_,Cn5 p[j].1 hm3',hmr,x1,y1,z1,hbx,by unfold I64;omega,?_⟩
   rw[hnn]
   have hp2:=Nat.mul_le_mul_left l (by omega:n≤255)
   refine Bq4 hux (hu m) (by omega) (by omega) fun s27 b28 s29 W26 hE26 h26=>⟨s27,b28,s29,rfl,Ak9 (hc.ext hE26) h26 (hcs m) (Sz.Fe7 (hu m) n) (by have:=hbd m (by omega);omega) (by omega) fun s32 b33 s34 W31 hE31 h31=>⟨s32,b33,s34,rfl,by unfold I64;omega,⟨m+1,by push_cast;rfl,by omega,hE20.trans (hE26.trans hE31),?_⟩,?_⟩⟩
   ·show Ab3 284 W31 s32 b33 s34 (ctm p[j] u m*u.get m^(An6 p[j].1 m).toNat)
    rw[hnn]
    exact h31
   ·show 3-Int.toNat ((m:Int)+1)<3-Int.toNat (m:Int)
    omega
  ·have:m=3:=by omega
   subst this
   have hsz:=Gx6 (u:=u) (p:=p.take j) (k:=k) (l:=l) (e:=255) (fun t ht=>hp t (List.mem_of_mem_take ht)) hu (fun t ht i=>Gq6 (h.ok t (List.mem_of_mem_take ht)) i)
   have hl2:(p.take j).length*(k+3*(l*255+1)+1)≤p.length*(k+3*(l*255+1)+1):=Nat.mul_le_mul_right _ (by rw[List.length_take];omega)
   refine At2 (hs.ext hE20) hc hsz (hcs 3) (by omega) (by omega) fun s37 b38 s39 W36 hE36 h36=>⟨s37,b38,s39,rfl,by unfold I64;omega,⟨j+1,by push_cast;rfl,by omega,hE7.trans (hE20.trans hE36),?_⟩,?_⟩
   ·rw[Ce0 hjl,Gs5]
    exact h36
   ·show p.length-Int.toNat ((j:Int)+1)<p.length-Int.toNat (j:Int)
    omega
 ·have:j=p.length:=by omega
  subst this
  rw[List.take_length] at hs
  exact hs.ext hE40
theorem Gr5 {W0 W:PW} {M:Nat→Prop} {s s0 t0 s1 t1 s2 t2:Sl} {b0 b1 b2:Bool} {p:List Tm} {u:Pt} {k l:Nat} {K:Value→PW→Prop} (h:Ab0 284 165 W s p) (g0:Ab3 284 W s0 b0 t0 u.x) (g1:Ab3 284 W s1 b1 t1 u.y) (g2:Ab3 284 W s2 b2 t2 u.z) (hp: ∀t∈p,Sz k t.2) (hu: ∀i,Sz l (u.get i)) (hl:l≤100000) (hb:p.length*(k+3*(l*255+1)+1)+1≤400000000) (hk:k+3*(l*255+1)≤400000000) (kont: ∀(s':Sl) (b':Bool) (t':Sl) (W':PW),Ext W W'→(Ab3 284 W' s' b' t' (atQ u p))→K (.agg ⟨[Sl.v s',.bool b',Sl.v t']⟩) W'):
  Aa1 Tryz.prog W0 M 39 [.agg ⟨[s.v]⟩,.agg ⟨[s0.v,.bool b0,t0.v,s1.v,.bool b1,t1.v,s2.v,.bool b2,t2.v]⟩] W K:=
 Aa2 (fun W' hE=>Gv4 (M:=fun _=>False) (h.ext hE) (g0.ext hE) (g1.ext hE) (g2.ext hE) hp hu hl hb hk) (fun W' v W'' hE hE' hP=>by
  obtain⟨s',b',t',rfl,h⟩:=hP
  exact kont s' b' t' W'' (hE.trans hE') h)
end Go.Proofs.YtjkkidjbppphpaaGreatDoor
/- What a polynomial comes to at a point is in what its terms come to on intervals around it: plain law. -/
namespace Go.Proofs.YtjkkidjbppphpaaGreatDoor
open Go Go.SX
def Ha3 (b:Nat→Iv) (u:Pt):Prop:=∀i,i<3→inI (b i) (u.get i)
theorem Ha7 {x:Iv} (ho:x.1≤x.2) {i:Int} (h0:0≤i) (h8:i≤8):inI x (x.1+(x.2-x.1)*((i:Rat)/((8:Int):Rat))):=by
 have h1:(0:Rat)≤(i:Rat)/((8:Int):Rat):=by
  rw[Rat.div_def]
  exact Rat.mul_nonneg (by exact_mod_cast h0) (by decide +kernel)
 have h2:(i:Rat)/((8:Int):Rat)≤1:=by
  have h3:(0:Rat)≤((8-i:Int):Rat)*(((8:Int):Rat))⁻¹:=Rat.mul_nonneg (by exact_mod_cast (show(0:Int)≤8-i by omega)) (by decide +kernel)
  have h8:(((8:Int):Rat))*(((8:Int):Rat))⁻¹ = 1:=by decide +kernel
  rw[Rat.intCast_sub] at h3
  rw[Rat.div_def]
  generalize (((8:Int):Rat))⁻¹ = c at h3 h8⊢
  generalize ((8:Int):Rat)=d at h3 h8⊢
  grind
 have h4:=Rat.mul_nonneg (show 0≤x.2-x.1 by grind) h1
 have h5:=Rat.mul_nonneg (show 0≤x.2-x.1 by grind) (show 0≤1-(i:Rat)/((8:Int):Rat) by grind)
 exact⟨by grind,by grind⟩
theorem Gs8 {z:Int} (h0:0≤z) (h:z≤255):Sz 1 (z:Rat):=
 (Ak3.int z).sz (by decide) (by rw[Ax0];omega) (Bc6 (Nat.lt_of_le_of_lt (show _≤255 by omega) (by decide:255<B^1)))
end Go.Proofs.YtjkkidjbppphpaaGreatDoor
/- A polynomial's value is that at another point, and slopes times how far they are apart: plain law. -/
namespace Go.Proofs.YtjkkidjbppphpaaGreatDoor
open Go Go.SX
end Go.Proofs.YtjkkidjbppphpaaGreatDoor
/- span.Sub, Mid, Within, Same, Meet; box.Mid; bound.Sides, three, Natural, Mean, Best. -/
namespace Go.Proofs.YtjkkidjbppphpaaGreatDoor
open Go Go.SX
instance (x y:Iv):Decidable (Ft1 x y):=by unfold Ft1;infer_instance
def An3 (p:List Tm) (bs:List Iv):Prop:=Cn7 bs∧Fd0 Cx8 0 p≤(bs.length:Int)
instance (p:List Tm) (bs:List Iv):Decidable (An3 p bs):=by unfold An3;infer_instance
end Go.Proofs.YtjkkidjbppphpaaGreatDoor
