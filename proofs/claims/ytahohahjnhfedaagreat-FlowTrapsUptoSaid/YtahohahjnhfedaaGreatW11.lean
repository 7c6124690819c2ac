/- A polynomial's value is that at another point, and slopes times how far they are apart: plain law. -/
import Derived.Test.YtahohahjnhfedaaGreatW8
import Derived.Test.YtahohahjnhfedaaGreatW10
import Derived.Test.YtahohahjnhfedaaGreatLib5
import Derived.Test.YtahohahjnhfedaaGreatR14
import Derived.Test.YtahohahjnhfedaaGreatR15
import Derived.Test.YtahohahjnhfedaaGreatW9
import Derived.Test.YtahohahjnhfedaaGreatW6
import Derived.Test.YtahohahjnhfedaaGreatW5
set_option linter.unusedVariables false
set_option linter.unusedSimpArgs false
set_option maxRecDepth 100000
namespace Go.Proofs.YtahohahjnhfedaaGreat
open Go Go.SX
end Go.Proofs.YtahohahjnhfedaaGreat
/- span.Sub, Mid, Within, Same, Meet; box.Mid; bound.Sides, three, Natural, Mean, Best. -/
namespace Go.Proofs.YtahohahjnhfedaaGreat
open Go Go.SX
instance (x y:Iv):Decidable (Ft1 x y):=by unfold Ft1;infer_instance
theorem Fz5 {W0:PW} {M:Nat→Prop} {l1 l2:List Value} {x y:Iv} {k:Nat} (h1:SpV 240 W0 l1 x) (h2:SpV 240 W0 l2 y) (hx:IvS k x) (hy:IvS k y) (hk:k≤8589934592):
  Aa0 Tryz.prog 56 [.agg ⟨l1⟩,.agg ⟨l2⟩] W0 M fun v W'=>v = .bool (decide (Ft1 x y))∧True:=by
 obtain⟨s0,b0,t0,s1,b1,t1,rfl,h1,h1'⟩:=h1
 obtain⟨s2,b2,t2,s3,b3,t3,rfl,h2,h2'⟩:=h2
 apply Fy3
 refine Aj2 h2 h1 hy.1 hx.1 (by omega) (by omega) fun W2 hE2 _=>⟨_,rfl,fun h=>Aj2 (h1'.ext hE2) (h2'.ext hE2) hx.2 hy.2 (by omega) (by omega) fun W5 hE5 _=>⟨_,rfl,fun W7 hE7=>⟨?_,trivial⟩⟩,fun h W8 hE8=>⟨?_,trivial⟩⟩
 ·have h:=Dn3.1 h
  congr 1
  rw[decide_eq_decide,Dn3]
  exact⟨fun e=>⟨h,e⟩,fun e=>e.2⟩
 ·rw[decide_eq_false fun e=>h (Dn3.2 e.1)]
theorem Fx1 {W0 W:PW} {M:Nat→Prop} {l1 l2:List Value} {x y:Iv} {k:Nat} {K:Value→PW→Prop} (h1:SpV 240 W l1 x) (h2:SpV 240 W l2 y) (hx:IvS k x) (hy:IvS k y) (hk:k≤8589934592) (kont: ∀(W':PW),Ext W W'→(True)→K (.bool (decide (Ft1 x y))) W'):
  Aa1 Tryz.prog W0 M 56 [.agg ⟨l1⟩,.agg ⟨l2⟩] W K:=
 Aa2 (fun W' hE=>Fz5 (M:=fun _=>False) (h1.ext hE) (h2.ext hE) hx hy hk) (fun W' v W'' hE hE' hP=>by
  obtain⟨rfl,h⟩:=hP
  exact kont W'' (hE.trans hE') h)
def An3 (p:List Tm) (bs:List Iv):Prop:=Cn7 bs∧Fd0 Cx8 0 p≤(bs.length:Int)
instance (p:List Tm) (bs:List Iv):Decidable (An3 p bs):=by unfold An3;infer_instance
theorem Cm8 {W0:PW} {M:Nat→Prop} {s sb:Sl} {p:List Tm} {bs:List Iv} {k:Nat} (h:Ab0 240 196 W0 s p) (hb:Bc3 240 W0 sb bs) (hk: ∀x∈bs,IvS k x) (hk2:k≤1048576) (hl:bs.length≤1048576) (hp:p.length≤1099511627776):
  Aa0 Tryz.prog 113 [.agg ⟨[s.v]⟩,sb.v] W0 M fun v W'=>v = .bool (decide (An3 p bs))∧True:=by
 apply Bw2
 have hn:=hb.n
 refine Cm2 hb hk hk2 hl fun W2 hE2 _=>⟨_,rfl,fun hr=>Co3 (h.ext hE2) hp fun W5 hE5 _=>⟨_,rfl,fun W7 _=>⟨?_,trivial⟩⟩,fun hr W8 _=>⟨?_,trivial⟩⟩
 ·have hr:=of_decide_eq_true hr
  congr 1
  rw[decide_eq_decide,hn]
  exact⟨fun e=>⟨hr,e⟩,fun e=>e.2⟩
 ·have hr:=of_decide_eq_false hr
  rw[decide_eq_false (p:=An3 p bs) fun e=>hr e.1]
theorem Bv2 {W0 W:PW} {M:Nat→Prop} {s sb:Sl} {p:List Tm} {bs:List Iv} {k:Nat} {K:Value→PW→Prop} (h:Ab0 240 196 W s p) (hb:Bc3 240 W sb bs) (hk: ∀x∈bs,IvS k x) (hk2:k≤1048576) (hl:bs.length≤1048576) (hp:p.length≤1099511627776) (kont: ∀(W':PW),Ext W W'→(True)→K (.bool (decide (An3 p bs))) W'):
  Aa1 Tryz.prog W0 M 113 [.agg ⟨[s.v]⟩,sb.v] W K:=
 Aa2 (fun W' hE=>Cm8 (M:=fun _=>False) (h.ext hE) (hb.ext hE) hk hk2 hl hp) (fun W' v W'' hE hE' hP=>by
  obtain⟨rfl,h⟩:=hP
  exact kont W'' (hE.trans hE') h)
theorem Cj1 {W0:PW} {M:Nat→Prop} {sb:Sl} {bs:List Iv} (hb:Bc3 240 W0 sb bs):
  Aa0 Tryz.prog 115 [sb.v] W0 M fun v W'=>∃(l:List Value),v = .agg ⟨l⟩∧DmV 240 W' l (Bm3 bs):=by
 apply Bx9
 obtain⟨ys,hr,ha⟩:=hb
 have hd:=Br4 ha
 refine⟨ys,hr,hd.shp,fun s2 b3 s4 s5 b6 s7 s8 b9 s10 s11 b12 s13 s14 b15 s16 s17 b18 s19 he W20 hE20=>⟨_,rfl,?_⟩⟩
 rw[he]
 exact hd.ext hE20
theorem Bu1 {W0 W:PW} {M:Nat→Prop} {sb:Sl} {bs:List Iv} {K:Value→PW→Prop} (hb:Bc3 240 W sb bs) (kont: ∀(l:List Value) (W':PW),Ext W W'→(DmV 240 W' l (Bm3 bs))→K (.agg ⟨l⟩) W'):
  Aa1 Tryz.prog W0 M 115 [sb.v] W K:=
 Aa2 (fun W' hE=>Cj1 (M:=fun _=>False) (hb.ext hE)) (fun W' v W'' hE hE' hP=>by
  obtain⟨l,rfl,h⟩:=hP
  exact kont l W'' (hE.trans hE') h)
structure BxN (k m:Nat) (p:List Tm) (bs:List Iv):Prop where
 bd:Bd k p
 sd: ∀x∈bs,IvS m x
 ok:POk p
 len:p.length≤20000000
 k1:k≤100000000
 m1:m≤100
 bl:bs.length≤1000
theorem BxN.side {k m:Nat} {p:List Tm} {bs:List Iv} (h:BxN k m p bs) (i:Nat):BdI (2*m+1) (Bm3 bs i):=Ep8 h.sd i
theorem Cl1 {p:List Tm} (h:POk p): ∀t∈p,∀i,mex t.1 i≤255:=fun t ht i=>by
 have:=h t ht
 unfold Mon.ok at this
 unfold SX.mex
 (repeat' split)<;>omega
theorem BxN.Kq8 {k m:Nat} {p:List Tm} {bs:List Iv} (h:BxN k m p bs):BdI (k+3*((2*m+1+1)*255+1)) (Aq8 (Bm3 bs) p):=Cv6 h.bd h.side (Cl1 h.ok)
theorem Bs5 {W0:PW} {M:Nat→Prop} {s sb:Sl} {p:List Tm} {bs:List Iv} {k m:Nat} (h:Ab0 240 196 W0 s p) (hb:Bc3 240 W0 sb bs) (hz:BxN k m p bs):
  Aa0 Tryz.prog 43 [.agg ⟨[s.v]⟩,sb.v] W0 M fun v W'=>∃(l:List Value),v = .tuple ⟨[.agg ⟨l⟩,.bool (decide (An3 p bs))]⟩∧SpV 240 W' l (if An3 p bs then Aq8 (Bm3 bs) p else(0,0)):=by
 apply Bh7
 have z1:=hz.m1
 have z2:=hz.len
 have z3:=hz.k1
 have z4:=hz.bl
 refine Bv2 h hb hz.sd (by omega) (by omega) (by omega) fun W2 hE2 _=>⟨_,rfl,fun hno W4 hE4=>?_,fun hyes=>?_⟩
 ·have hno:¬An3 p bs:=by simpa using hno
  rw[if_neg hno,decide_eq_false hno]
  exact⟨_,rfl,SpV.zero W4⟩
 ·have hyes:An3 p bs:=by simpa using hyes
  rw[if_pos hyes,decide_eq_true hyes]
  refine Bu1 (hb.ext hE2) fun l W6 hE6 hd=>?_
  obtain⟨s7,b8,s9,s10,b11,s12,s13,b14,s15,s16,b17,s18,s19,b20,s21,s22,b23,s24,rfl,hd'⟩:=id hd
  refine⟨s7,b8,s9,s10,b11,s12,s13,b14,s15,s16,b17,s18,s19,b20,s21,s22,b23,s24,rfl,?_⟩
  exact Az5 (h.ext (hE2.trans hE6)) hd hz.bd hz.side (Cl1 hz.ok) (Nat.le_refl 255) (by omega) (by omega) (by omega) fun r W26 hE26 h26=>h26.out fun s27 b28 s29 s30 b31 s32 h26 W33 hE33=>⟨_,rfl,h26.ext hE33⟩
theorem Bi4 {W0 W:PW} {M:Nat→Prop} {s sb:Sl} {p:List Tm} {bs:List Iv} {k m:Nat} {K:Value→PW→Prop} (h:Ab0 240 196 W s p) (hb:Bc3 240 W sb bs) (hz:BxN k m p bs) (kont: ∀(l:List Value) (W':PW),Ext W W'→(SpV 240 W' l (if An3 p bs then Aq8 (Bm3 bs) p else(0,0)))→K (.tuple ⟨[.agg ⟨l⟩,.bool (decide (An3 p bs))]⟩) W'):
  Aa1 Tryz.prog W0 M 43 [.agg ⟨[s.v]⟩,sb.v] W K:=
 Aa2 (fun W' hE=>Bs5 (M:=fun _=>False) (h.ext hE) (hb.ext hE) hz) (fun W' v W'' hE hE' hP=>by
  obtain⟨l,rfl,h⟩:=hP
  exact kont l W'' (hE.trans hE') h)
end Go.Proofs.YtahohahjnhfedaaGreat
/- flow.Trap and flow.End: what they tell: plain law. -/
namespace Go.Proofs.YtahohahjnhfedaaGreat
open Go Go.SX
/-! ### No variable behind the last. -/
def VN (n : Nat) (m : Mon) : Prop := (n ≤ 1 → m.y = 0) ∧ (n ≤ 2 → m.z = 0)
def VNs (n:Nat) (p:List Tm):Prop:=∀t∈p,VN n t.1
theorem VNs.norm {n:Nat} {p:List Tm} (h:VNs n p):VNs n (Ag2 p):=fun t ht=>by
 obtain⟨u,hu,e⟩:=Gu2 ht
 rw[e]
 exact h u hu
theorem VNs.append {n:Nat} {p q:List Tm} (h:VNs n p) (k:VNs n q):VNs n (p ++ q):=fun t ht=>by
 rcases List.mem_append.1 ht with h1 | h1
 ·exact h t h1
 ·exact k t h1
theorem VNs.Ff3 {n:Nat} {p q:List Tm} (h:VNs n p) (k:VNs n q):VNs n (An8 p q):=fun t ht=>by
 obtain⟨a,ha,hm⟩:=List.mem_flatMap.1 ht
 obtain⟨b,hb,rfl⟩:=List.mem_map.1 hm
 have h1:=h a ha
 have h2:=k b hb
 exact⟨fun e=>by show a.1.y+b.1.y=0;rw[h1.1 e,h2.1 e];rfl,fun e=>by show a.1.z+b.1.z=0;rw[h1.2 e,h2.2 e];rfl⟩
theorem VNs.diff {n:Nat} {p:List Tm} (h:VNs n p) (i:Int):VNs n (Hc3 p i):=by
 unfold Hc3
 split
 ·refine VNs.norm fun t ht=>?_
  obtain⟨a,ha,hm⟩:=List.mem_flatMap.1 ht
  have h1:=h a ha
  unfold Hc2 at hm
  split at hm
  ·rename_i hp
   rw[List.mem_singleton.1 hm]
   show VN n (Hj5 a.1 i.toNat)
   unfold Hj5
   unfold An6 at hp
   constructor
   ·intro e
    have:=h1.1 e
    (repeat' split at hp)<;>(repeat' split)<;>simp_all
   ·intro e
    have:=h1.2 e
    (repeat' split at hp)<;>(repeat' split)<;>simp_all
  ·cases hm
 ·intro t ht;cases ht
theorem Kn6 {n:Nat} (h1:1≤n) (h2:n≤2) {m:Mon} (hm:m.ok):Cx8 m≤(n:Int)↔VN n m:=by
 obtain⟨⟨x0,_⟩,⟨y0,_⟩,z0,_⟩:=hm
 unfold Cx8 VN
 rcases(by omega:n=1∨n=2) with rfl | rfl
 ·(repeat' split)<;>omega
 ·(repeat' split)<;>omega
theorem Kk7 {n:Nat} (h1:1≤n) (h2:n≤2) {p:List Tm} (ho:POk p):Fd0 Cx8 0 p≤(n:Int)↔VNs n p:=by
 constructor
 ·intro h t ht
  exact(Kn6 h1 h2 (ho t ht)).1 (Int.le_trans ((Hv3 (w:=Cx8) (n:=0) (p:=p)).2 t ht) h)
 ·intro h
  exact Hx0 (by omega) fun t ht=>(Kn6 h1 h2 (ho t ht)).2 (h t ht)
theorem Kk5 {f:List (List Tm)} {g:List Tm} {n:Nat} (hf: ∀q∈f,VNs n q) (hg:VNs n g): ∀{j:Nat} {a:List Tm} (_:j≤f.length) (_:Jz9 f g j=some a),VNs n a
 | 0,a,_,h=>by
  simp only[Jz9,Option.some.injEq] at h
  subst h
  exact fun t ht=>by cases ht
 | j+1,a,hj,h=>by
  rw[Jz9] at h
  split at h
  ·cases h
  ·rename_i a' ha'
   split at h
   ·simp only[Option.some.injEq] at h
    subst h
    have hq:VNs n (f.getD j []):=by rw[Jy8 (show j<f.length by omega)];exact hf _ (List.getElem_mem _)
    exact((Kk5 hf hg (by omega) ha').append ((hg.diff _).Ff3 hq).norm).norm
   ·cases h
theorem Ko1 {f:List (List Tm)} {n:Nat} (hf: ∀q∈f,VNs n q) {i:Nat} (hi:i<n) (hn:n≤2): ∀{k:Nat} {g:List Tm} (_:Jz7 f i k=some g),VNs n g
 | 0,g,h=>by
  simp only[Jz7,Option.some.injEq] at h
  subst h
  unfold Dc6
  rw[if_pos ⟨by omega,by omega⟩,Int.toNat_natCast]
  intro t ht
  rw[List.mem_singleton.1 ht]
  show VN n (Da3 i)
  rcases(by omega:i=0∨(i=1∧n=2)) with rfl | ⟨rfl,rfl⟩
  ·exact⟨fun _=>rfl,fun _=>rfl⟩
  ·exact⟨fun e=>by omega,fun _=>rfl⟩
 | k+1,g,h=>by
  rw[Jz7] at h
  split at h
  ·cases h
  ·rename_i g' hg'
   exact Kk5 hf (Ko1 hf hi hn hg') (Nat.le_refl _) h
/-! ### What is told. -/
def Jy9 (f : List (List Tm)) (x e : List Iv) (h : Rat) : Prop := Jz8 f ∧ Cn7 x ∧ Cn7 e ∧ x.length = f.length ∧ e.length = f.length ∧ 0 < h
instance (f:List (List Tm)) (x e:List Iv) (h:Rat):Decidable (Jy9 f x e h):=by unfold Jy9;infer_instance
def Kn0 (f:List (List Tm)) (x e:List Iv) (h:Rat) (i:Nat):Iv:=Cb5 (Bm3 x i) (Ay9 (0,h) (Aq8 (Bm3 e) (f.getD i [])))
def Kc4 (f:List (List Tm)) (x e:List Iv) (h:Rat):Prop:=Jy9 f x e h∧∀i,i<f.length→Ft1 (Kn0 f x e h i) (Bm3 e i)
instance (f:List (List Tm)) (x e:List Iv) (h:Rat):Decidable (Kc4 f x e h):=by unfold Kc4;infer_instance
def wS (h:Rat):Nat→Rat
 | 0=>1
 | j+1=>wS h j*h/((j+1:Nat):Rat)
def onB (x e:List Iv) (k j:Nat):List Iv:=if j=k then e else x
def enS (f:List (List Tm)) (x e:List Iv) (h:Rat) (k i:Nat):Nat→Iv
 | 0=>(0,0)
 | j+1=>Cb5 (enS f x e h k i j) (De8 (Aq8 (Bm3 (onB x e k j)) ((Jz7 f i j).getD [])) (wS h j))
def Jz2 (f:List (List Tm)) (x e:List Iv) (h:Rat) (k:Int):Prop:=Jy9 f x e h∧(1≤k∧k≤4)∧(Ke7 f k).isSome=true
noncomputable instance (f:List (List Tm)) (x e:List Iv) (h:Rat) (k:Int):Decidable (Jz2 f x e h k):=by unfold Jz2;infer_instance
theorem Jz2.lie {f:List (List Tm)} {x e:List Iv} {h:Rat} {k:Int} (ok:Jz2 f x e h k) {j:Nat} (hj:(j:Int)≤k):Jz6 f (j:Int):=by
 have hL:Jz6 f k:=by
  refine Classical.byContradiction fun hno=>?_
  have:=ok.2.2
  rw[Kd3 hno] at this
  cases this
 refine⟨hL.1,⟨by omega,by have:=hL.2.1;omega⟩,fun i hi=>?_⟩
 rw[Int.toNat_natCast]
 cases hl:Jz7 f i j with
 | some g=>rfl
 | none=>
  have:=Kb0 hl k.toNat (by omega)
  have h2:=hL.2.2 i hi
  rw[this] at h2
  cases h2
theorem Jz2.not {f:List (List Tm)} {x e:List Iv} {h:Rat} {k:Int} {j:Nat} (hj:(j:Int)≤k) (hn:Ke7 f (j:Int)=none):¬Jz2 f x e h k:=fun ok=>by
 rw[Jz3 (ok.lie hj)] at hn
 cases hn
theorem Kk1 {c:Nat} (h:c≤65536):Sz 1 ((c:Nat):Rat):=
 ⟨by rw[Rat.num_natCast];exact Bc6 (Nat.lt_of_le_of_lt h (by decide +kernel)),by rw[Rat.den_natCast,Ax0];exact Nat.le_refl _⟩
theorem Ki2 {h:Rat} (hz:Sz 4 h): ∀j,j≤5→Sz (1+j*6) (wS h j)
 | 0,_=>Sz.one (Nat.le_refl 1)
 | j+1,hj=>by
  have h1:=(Ki2 hz j (by omega)).mul hz
  exact(h1.div (Kk1 (c:=j+1) (by omega)) (Nat.le_refl 1)).mono (by omega)
end Go.Proofs.YtahohahjnhfedaaGreat
/- flow.fits, Trap, End. -/
namespace Go.Proofs.YtahohahjnhfedaaGreat
open Go Go.SX
theorem Kj6 {W0:PW} {M:Nat→Prop} {s sx se u t:Sl} {b:Bool} {f:List (List Tm)} {x e:List Iv} {h:Rat} {k:Nat} (hf:Ps W0 s f) (hx:Bc3 240 W0 sx x) (he:Bc3 240 W0 se e) (hh:Ab3 240 W0 u b t h) (hl:f.length≤1000) (hp: ∀p∈f,p.length≤1099511627776) (kx: ∀y∈x,IvS k y) (ke: ∀y∈e,IvS k y) (hk:k≤1000) (lx:x.length≤1000) (le:e.length≤1000) (hz:Sz k h):
  Aa0 Tryz.prog 40 [s.v,sx.v,se.v,.agg ⟨[u.v,.bool b,t.v]⟩] W0 M fun v W'=>v = .bool (decide (Jy9 f x e h))∧True:=by
 apply Kg2
 have n0:=hf.n
 have n1:=hx.n
 have n2:=he.n
 have no:¬Jy9 f x e h→Value.bool false = .bool (decide (Jy9 f x e h))∧True:=fun hno=>⟨by rw[decide_eq_false hno],trivial⟩
 refine Jz5 hf (by omega) hp fun W2 hE2 _=>⟨_,rfl,fun b1=>?_,fun b1 W _=>no fun ok=>of_decide_eq_false b1 ok.1⟩
 refine Cm2 (hx.ext hE2) kx (by omega) (by omega) fun W5 hE5 _=>⟨_,rfl,fun b2=>?_,fun b2 W _=>no fun ok=>of_decide_eq_false b2 ok.2.1⟩
 refine Cm2 (he.ext (hE2.trans hE5)) ke (by omega) (by omega) fun W8 hE8 _=>⟨_,rfl,fun b3=>⟨fun h1=>⟨fun h2=>?_,fun h2 W _=>no fun ok=>h2 (by have:=ok.2.2.2.2.1;omega)⟩,fun h1 W _=>no fun ok=>h1 (by have:=ok.2.2.2.1;omega)⟩,fun b3 W _=>no fun ok=>of_decide_eq_false b3 ok.2.2.1⟩
 refine Bk6 (hh.ext (hE2.trans (hE5.trans hE8))) hz (by omega) fun W11 hE11 _=>⟨_,rfl,fun W13 _=>⟨?_,trivial⟩⟩
 congr 1
 rw[decide_eq_decide,Al3]
 exact⟨fun h3=>⟨of_decide_eq_true b1,of_decide_eq_true b2,of_decide_eq_true b3,by omega,by omega,h3⟩,fun ok=>ok.2.2.2.2.2⟩
theorem Ka7 {W0 W:PW} {M:Nat→Prop} {s sx se u t:Sl} {b:Bool} {f:List (List Tm)} {x e:List Iv} {h:Rat} {k:Nat} {K:Value→PW→Prop} (hf:Ps W s f) (hx:Bc3 240 W sx x) (he:Bc3 240 W se e) (hh:Ab3 240 W u b t h) (hl:f.length≤1000) (hp: ∀p∈f,p.length≤1099511627776) (kx: ∀y∈x,IvS k y) (ke: ∀y∈e,IvS k y) (hk:k≤1000) (lx:x.length≤1000) (le:e.length≤1000) (hz:Sz k h) (kont: ∀(W':PW),Ext W W'→(True)→K (.bool (decide (Jy9 f x e h))) W'):
  Aa1 Tryz.prog W0 M 40 [s.v,sx.v,se.v,.agg ⟨[u.v,.bool b,t.v]⟩] W K:=
 Aa2 (fun W' hE=>Kj6 (M:=fun _=>False) (hf.ext hE) (hx.ext hE) (he.ext hE) (hh.ext hE) hl hp kx ke hk lx le hz) (fun W' v W'' hE hE' hP=>by
  obtain⟨rfl,h⟩:=hP
  exact kont W'' (hE.trans hE') h)
def ftI (W0:PW) (f:List (List Tm)) (x e:List Iv) (h:Rat) (L:List PL) (W:PW):Prop:=match L with
 | [.val (.int .i64 i)]=>∃j:Nat,i=(j:Int)∧j≤f.length∧Ext W0 W∧∀y,y<j→Ft1 (Kn0 f x e h y) (Bm3 e y)
 | _=>False
theorem Kk4 {f:List (List Tm)} {x e:List Iv} {h:Rat} (ok:Jy9 f x e h) {p:List Tm} (hp:p∈f):An3 p e:=⟨ok.2.2.1,by have:=ok.1.1 p hp;have:=ok.2.2.2.2.1;omega⟩
theorem Kp2 {h:Rat} {y:Iv} (hz:Sz 4 h) {K:Nat} (hy:BdI K y):BdI (9+K) (Ay9 (0,h) y):=(BdI.Co7 (k:=4) (x:=(0,h)) ⟨Sz.zero (by omega),hz⟩).mul hy
theorem Kn9 {f:List (List Tm)} {x e:List Iv} {h:Rat} (hb: ∀q∈f,Bd 56029 q∧q.length≤14) (ho: ∀q∈f,POk q) (kx: ∀y∈x,IvS 4 y) (ke: ∀y∈e,IvS 4 y) (hl:e.length≤5) (hz:Sz 4 h) {i:Nat} (hi:i<f.length):BdI 100000 (Aq8 (Bm3 e) (f.getD i []))∧BdI 100010 (Ay9 (0,h) (Aq8 (Bm3 e) (f.getD i [])))∧BdI 100030 (Kn0 f x e h i):=by
 have hm:=List.getElem_mem hi
 have hz1:BxN 56029 4 f[i] e:=⟨(hb _ hm).1,ke,ho _ hm,by have:=(hb _ hm).2;omega,by omega,by omega,by omega⟩
 have h1:BdI 100000 (Aq8 (Bm3 e) (f.getD i [])):=by rw[Jy8 hi];exact hz1.Kq8.mono (by omega)
 have h2:=(Kp2 hz h1).mono (show _≤100010 by omega)
 have hx:BdI 9 (Bm3 x i):=Ep8 kx i
 exact⟨h1,h2,(hx.add h2).mono (by omega)⟩
theorem Kk0 {W0:PW} {M:Nat→Prop} {s sx se u t:Sl} {b:Bool} {f:List (List Tm)} {x e:List Iv} {h:Rat} (hf:Ps W0 s f) (hx:Bc3 240 W0 sx x) (he:Bc3 240 W0 se e) (hh:Ab3 240 W0 u b t h) (hl:f.length≤4) (hb: ∀q∈f,Bd 56029 q∧q.length≤14) (ho: ∀q∈f,POk q) (kx: ∀y∈x,IvS 4 y) (ke: ∀y∈e,IvS 4 y) (lx:x.length≤5) (le:e.length≤5) (hz:Sz 4 h):
  Aa0 Tryz.prog 13 [s.v,sx.v,se.v,.agg ⟨[u.v,.bool b,t.v]⟩] W0 M fun v W'=>v = .bool (decide (Kc4 f x e h))∧True:=by
 apply Kf7
 have n0:=hf.n
 have no:¬Kc4 f x e h→Value.bool false = .bool (decide (Kc4 f x e h))∧True:=fun hno=>⟨by rw[decide_eq_false hno],trivial⟩
 refine Ka7 hf hx he hh (by omega) (fun p hp=>by have:=(hb p hp).2;omega) kx ke (by omega) (by omega) (by omega) hz fun W2 hE2 _=>⟨_,rfl,fun b1 W _=>no fun ok=>by simp[ok.1] at b1,fun b1=>?_⟩
 have fit:Jy9 f x e h:=by simpa using b1
 refine⟨ftI W2 f x e h,Kq0 f.length,⟨0,rfl,Nat.zero_le _,Ext.refl _,fun y hy=>absurd hy (Nat.not_lt_zero _)⟩,?_⟩
 rintro i7 W8 ⟨j,rfl,hj,hE8,hall⟩
 refine⟨fun hlt=>?_,fun hge W52 _=>⟨?_,trivial⟩⟩
 rotate_left
 ·have:j=f.length:=by omega
  subst this
  rw[decide_eq_true (show Kc4 f x e h from⟨fit,hall⟩)]
 have hjl:j<f.length:=by omega
 have E8:=hE2.trans hE8
 obtain⟨s9,e9,hq⟩:=(hf.ext E8).at hjl
 have hm:=List.getElem_mem hjl
 have hz1:BxN 56029 4 f[j] e:=⟨(hb _ hm).1,ke,ho _ hm,by have:=(hb _ hm).2;omega,by omega,by omega,by omega⟩
 have hs:=Kk4 fit hm
 obtain⟨b1,b2,b3⟩:=Kn9 hb ho kx ke le hz hjl
 refine⟨(hf.ext E8).inB (by omega) (by omega),s9,e9,Bi4 hq (he.ext E8) hz1 fun l W11 hE11 h11=>h11.Ge9 fun s12 b13 s14 s15 b16 s17 h11=>?_⟩
 rw[if_pos hs,←Jy8 hjl] at h11
 have hH:SpV 240 W11 [.slice none 0 0,.bool false,.slice none 0 0,u.v,.bool b,t.v] (0,h):=SpV.mk (s:=⟨none,0,0⟩) (t:=⟨none,0,0⟩) (x:=(0,h)) (Ar9 W11) (hh.ext (E8.trans hE11))
 have y1:IvS 100000 ((0:Rat),h):=⟨Sz.zero (by omega),hz.mono (by omega)⟩
 refine Cx4 hH h11 y1 b1.sz (by omega) fun l W20 hE20 h20=>h20.out fun s21 b22 s23 s24 b25 s26 h20=>?_
 refine⟨fun e0=>absurd e0 (by rw[decide_eq_true hs];decide),fun _=>?_⟩
 have E20:=E8.trans (hE11.trans hE20)
 have lxx:j<x.length:=by have:=fit.2.2.2.1;omega
 have lee:j<e.length:=by have:=fit.2.2.2.2.1;omega
 obtain⟨y,⟨s28,b29,s30,s31,b32,s33,rfl,v1,v2⟩,el1⟩:=(hx.ext E20).at lxx
 obtain⟨y',⟨s34,b35,s36,s37,b38,s39,rfl,v3,v4⟩,el2⟩:=(he.ext E20).at lee
 rw[←Fi1 lxx] at v1 v2
 rw[←Fi1 lee] at v3 v4
 have zx:BdI 9 (Bm3 x j):=Ep8 kx j
 have ze:BdI 9 (Bm3 e j):=Ep8 ke j
 refine⟨(hx.ext E20).inB (by omega) (by omega),s28,b29,s30,s31,b32,s33,el1 0 rfl,(he.ext E20).inB (by omega) (by omega),s34,b35,s36,s37,b38,s39,el2 0 rfl,?_⟩
 refine Cy0 (SpV.mk v1 v2) h20 (zx.mono (show 9≤100010 by omega)).sz b2.sz (by omega) fun l W41 hE41 h41=>h41.out fun s42 b43 s44 s45 b46 s47 h41=>⟨hE41,?_⟩
 refine Fx1 h41 (SpV.mk (v3.ext hE41) (v4.ext hE41)) b3.sz (ze.mono (show 9≤100030 by omega)).sz (by omega) fun W49 hE49 _=>⟨_,rfl,fun b5 W _=>no fun ok=>?_,fun b5=>⟨by unfold I64;omega,⟨j+1,by push_cast;rfl,by omega,hE8.trans (hE11.trans (hE20.trans (hE41.trans hE49))),fun y hy=>?_⟩,by show f.length-Int.toNat ((j:Int)+1)<f.length-Int.toNat (j:Int);omega⟩⟩
 ·have hq:Ft1 (Kn0 f x e h j) (Bm3 e j):=ok.2 j hjl
  exact absurd b5 (by rw[decide_eq_true (show Ft1 (Cb5 (Bm3 x j) (Ay9 (0,h) (Aq8 (Bm3 e) (f.getD j [])))) (Bm3 e j) from hq)];decide)
 ·by_cases e1:y=j
  ·rw[e1]
   have:decide (Ft1 (Cb5 (Bm3 x j) (Ay9 (0,h) (Aq8 (Bm3 e) (f.getD j [])))) (Bm3 e j))=true:=by simpa using b5
   exact of_decide_eq_true this
  ·exact hall y (by omega)
theorem Kf6 {W0 W:PW} {M:Nat→Prop} {s sx se u t:Sl} {b:Bool} {f:List (List Tm)} {x e:List Iv} {h:Rat} {K:Value→PW→Prop} (hf:Ps W s f) (hx:Bc3 240 W sx x) (he:Bc3 240 W se e) (hh:Ab3 240 W u b t h) (hl:f.length≤4) (hb: ∀q∈f,Bd 56029 q∧q.length≤14) (ho: ∀q∈f,POk q) (kx: ∀y∈x,IvS 4 y) (ke: ∀y∈e,IvS 4 y) (lx:x.length≤5) (le:e.length≤5) (hz:Sz 4 h) (kont: ∀(W':PW),Ext W W'→(True)→K (.bool (decide (Kc4 f x e h))) W'):
  Aa1 Tryz.prog W0 M 13 [s.v,sx.v,se.v,.agg ⟨[u.v,.bool b,t.v]⟩] W K:=
 Aa2 (fun W' hE=>Kk0 (M:=fun _=>False) (hf.ext hE) (hx.ext hE) (he.ext hE) (hh.ext hE) hl hb ho kx ke lx le hz) (fun W' v W'' hE hE' hP=>by
  obtain⟨rfl,h⟩:=hP
  exact kont W'' (hE.trans hE') h)
/-! ### End. -/
def Km7 (a b : Nat → Iv) (n t : Nat) : List Iv := (List.range n).map fun i => if i < t then b i else a i
theorem Kh0 (a b:Nat→Iv) (n:Nat):Km7 a b n 0=(List.range n).map a:=List.map_congr_left fun i _=>if_neg (Nat.not_lt_zero _)
theorem Kk8 (a b:Nat→Iv) (n:Nat):Km7 a b n n=(List.range n).map b:=List.map_congr_left fun i hi=>if_pos (List.mem_range.1 hi)
theorem Kk9 (a b:Nat→Iv) (n t:Nat):(Km7 a b n t).length=n:=by unfold Km7;rw[List.length_map,List.length_range]
theorem Kn1 {a b:Nat→Iv} {n t:Nat} (h:t<n):(Km7 a b n t)[t]?=some (a t):=by
 unfold Km7
 rw[List.getElem?_map,List.getElem?_range h]
 show some (if t<t then b t else a t)=some (a t)
 rw[if_neg (Nat.lt_irrefl t)]
theorem Kl0 {a b:Nat→Iv} {n t:Nat} (h:t<n):(Km7 a b n t).set t (b t)=Km7 a b n (t+1):=by
 apply List.ext_getElem?
 intro i
 unfold Km7
 rw[List.getElem?_set]
 by_cases e:t=i
 ·subst e
  rw[if_pos rfl,List.length_map,List.length_range,if_pos h,List.getElem?_map,List.getElem?_range h]
  show some (b t)=some (if t<t+1 then b t else a t)
  rw[if_pos (Nat.lt_succ_self t)]
 ·rw[if_neg e]
  by_cases hi:i<n
  ·rw[List.getElem?_map,List.getElem?_map,List.getElem?_range hi]
   show some (if i<t then b i else a i)=some (if i<t+1 then b i else a i)
   by_cases h2:i<t
   ·rw[if_pos h2,if_pos (by omega)]
   ·rw[if_neg h2,if_neg (by omega)]
  ·rw[List.getElem?_eq_none (by simp;omega),List.getElem?_eq_none (by simp;omega)]
def enL (f:List (List Tm)) (x e:List Iv) (h:Rat) (k j:Nat):List Iv:=(List.range f.length).map fun i=>enS f x e h k i j
def Kr4 (W0:PW) (M:Nat→Prop) (sl sx sb:Sl) (bb:Bool) (tb:Sl) (l17:List (List Value)) (W36:PW) (K:List (List Value)→PW→Prop):Prop:=
 ∃(F41:List PL→PW→Prop) (F42:List PL→PW→Nat),F41 [PL.val (.int IntKind.i64 0),PL.row l17] W36∧∀(l43:List (List Value)) (i44:Int) (W45:PW),F41 [PL.val (.int IntKind.i64 i44),PL.row l43] W45→
  (i44<↑sl.2→inB sl i44∧∃s46:Sl,Aa7 W45 sl 1 (Int.toNat i44) 0 [Sl.v s46]∧Aa1 Tryz.prog W0 M 43 [.agg ⟨[Sl.v s46]⟩,Sl.v sx] W45 fun v47 W48=>∃(s49:Sl) (b50:Bool) (s51 s52:Sl) (b53:Bool) (s54:Sl) (b55:Bool),v47 = .tuple ⟨[.agg ⟨[Sl.v s49,.bool b50,Sl.v s51,Sl.v s52,.bool b53,Sl.v s54]⟩,.bool b55]⟩∧
   (0≤i44∧i44<↑(List.length l43))∧∃(s56:Sl) (b57:Bool) (s58 s59:Sl) (b60:Bool) (s61:Sl),Ck3 l43 (Int.toNat i44) 0 [Sl.v s56,.bool b57,Sl.v s58,Sl.v s59,.bool b60,Sl.v s61]∧
   Aa1 Tryz.prog W0 M 45 [.agg ⟨[Sl.v s49,.bool b50,Sl.v s51,Sl.v s52,.bool b53,Sl.v s54]⟩,.agg ⟨[Sl.v sb,.bool bb,Sl.v tb]⟩] W48 fun v62 W63=>∃(s64:Sl) (b65:Bool) (s66 s67:Sl) (b68:Bool) (s69:Sl),v62 = .agg ⟨[Sl.v s64,.bool b65,Sl.v s66,Sl.v s67,.bool b68,Sl.v s69]⟩∧
   Aa1 Tryz.prog W0 M 44 [.agg ⟨[Sl.v s56,.bool b57,Sl.v s58,Sl.v s59,.bool b60,Sl.v s61]⟩,.agg ⟨[Sl.v s64,.bool b65,Sl.v s66,Sl.v s67,.bool b68,Sl.v s69]⟩] W63 fun v70 W71=>∃(s72:Sl) (b73:Bool) (s74 s75:Sl) (b76:Bool) (s77:Sl),v70 = .agg ⟨[Sl.v s72,.bool b73,Sl.v s74,Sl.v s75,.bool b76,Sl.v s77]⟩∧
   (0≤i44∧i44<↑(List.length l43))∧Int.toNat i44<List.length l43∧I64 (i44+1)∧stp F41 F42 [PL.val (.int IntKind.i64 (i44+1)),PL.row (List.set l43 (Int.toNat i44) [Sl.v s72,.bool b73,Sl.v s74,Sl.v s75,.bool b76,Sl.v s77])] W71 [PL.val (.int IntKind.i64 i44),PL.row l43] W45)∧
  (¬i44<↑sl.2→K l43 W45)
def elI (W0:PW) (a b:Nat→Iv) (n:Nat) (L:List PL) (W:PW):Prop:=match L with
 | [.val (.int .i64 z),.row l]=>∃t:Nat,z=(t:Int)∧t≤n∧Ext W0 W∧An5 (SpV 240 W) l (Km7 a b n t)
 | _=>False
def Kq9 (n:Nat) (L:List PL) (_:PW):Nat:=match L with
 | [.val (.int .i64 z),_]=>n-z.toNat
 | _=>0
theorem Ki4 {W0 W:PW} {M:Nat→Prop} {sl sx sb:Sl} {bb:Bool} {tb:Sl} {l17:List (List Value)} {K:List (List Value)→PW→Prop} {X:List Iv} {gs:List (List Tm)} {a:Nat→Iv} {r:Rat} {KA:Nat} (hg:Ps W sl gs) (hx:Bc3 240 W sx X) (hr:Ab3 240 W sb bb tb r) (ha:An5 (SpV 240 W) l17 ((List.range gs.length).map a))
  (hn:gs.length≤4) (hB:Cn7 X) (kX: ∀y∈X,IvS 4 y) (hgs: ∀g∈gs,GOK 2000000 g∧Fd0 Cx8 0 g≤(X.length:Int)) (zr:Sz 40 r) (za: ∀i,i<gs.length→IvS KA (a i)) (hKA:KA≤100000000)
  (kont: ∀l W',Ext W W'→An5 (SpV 240 W') l ((List.range gs.length).map fun i=>Cb5 (a i) (De8 (Aq8 (Bm3 X) (gs.getD i [])) r))→K l W'):Kr4 W0 M sl sx sb bb tb l17 W K:=by
 have n0:=hg.n
 refine⟨elI W a (fun i=>Cb5 (a i) (De8 (Aq8 (Bm3 X) (gs.getD i [])) r)) gs.length,Kq9 gs.length,⟨0,rfl,Nat.zero_le _,Ext.refl _,by rw[Kh0];exact ha⟩,?_⟩
 rintro l43 i44 W45 ⟨t,rfl,ht,hE45,hal⟩
 have hl:=hal.len
 rw[Kk9] at hl
 refine⟨fun hlt=>?_,fun hge=>?_⟩
 ·have htl:t<gs.length:=by omega
  obtain⟨s46,e46,hq⟩:=(hg.ext hE45).at htl
  have hm:=List.getElem_mem htl
  obtain⟨gk,gv⟩:=hgs _ hm
  have hb3:=hB.1.2
  have hz1:BxN 2000000 4 gs[t] X:=⟨gk.bd,kX,gk.ok,by have:=gk.len;omega,by omega,by omega,by omega⟩
  have hs:An3 gs[t] X:=⟨hB,gv⟩
  have b1:BdI 2100000 (Aq8 (Bm3 X) gs[t]):=hz1.Kq8.mono (by omega)
  have b2:=b1.scale zr
  refine⟨(hg.ext hE45).inB (by omega) (by omega),s46,e46,Bi4 hq (hx.ext hE45) hz1 fun l W48 hE48 h48=>h48.Ge9 fun s49 b50 s51 s52 b53 s54 h48=>⟨⟨by omega,by omega⟩,?_⟩⟩
  rw[if_pos hs] at h48
  obtain⟨c,hc,s56,b57,s58,s59,b60,s61,rfl,w1,w2⟩:=hal.get (Kn1 htl)
  refine⟨s56,b57,s58,s59,b60,s61,⟨_,hc,rfl⟩,?_⟩
  refine Hu2 (k:=2100000) h48 (hr.ext (hE45.trans hE48)) b1.sz (zr.mono (by omega)) (by omega) fun l W63 hE63 h63=>h63.out fun s64 b65 s66 s67 b68 s69 h63=>?_
  have E63:=hE48.trans hE63
  have zA:IvS 200000000 (a t):=⟨(za t htl).1.mono (by omega),(za t htl).2.mono (by omega)⟩
  refine Cy0 (SpV.mk (w1.ext E63) (w2.ext E63)) h63 zA (b2.mono (show _≤200000000 by omega)).sz (by omega) fun l W71 hE71 h71=>h71.out fun s72 b73 s74 s75 b76 s77 h71=>⟨⟨by omega,by omega⟩,by omega,by unfold I64;omega,⟨t+1,by push_cast;rfl,by omega,hE45.trans (E63.trans hE71),?_⟩,by show gs.length-Int.toNat ((t:Int)+1)<gs.length-Int.toNat (t:Int);omega⟩
  rw[←Kl0 htl,Int.toNat_natCast]
  refine(hal.mono fun _ _ h=>h.ext (E63.trans hE71)).set t ?_
  rw[Jy8 htl]
  exact h71
 ·have:t=gs.length:=by omega
  subst this
  rw[Kk8] at hal
  exact kont _ _ hE45 hal
end Go.Proofs.YtahohahjnhfedaaGreat
/- flow.End. -/
namespace Go.Proofs.YtahohahjnhfedaaGreat
open Go Go.SX
theorem Kd9 {f:List (List Tm)} {k:Int} (h:(Ke7 f k).isSome=true):Jz6 f k:=by
 refine Classical.byContradiction fun hno=>?_
 rw[Kd3 hno] at h
 cases h
def Kl9 (f:List (List Tm)) (j:Nat):List (List Tm):=(List.range f.length).map fun i=>(Jz7 f i j).getD []
theorem Kf2 (f:List (List Tm)) (j:Nat):(Kl9 f j).length=f.length:=by unfold Kl9;rw[List.length_map,List.length_range]
theorem Kp4 {f:List (List Tm)} {j i:Nat} (hi:i<f.length):(Kl9 f j).getD i []=(Jz7 f i j).getD []:=by
 unfold Kl9
 rw[List.getD_eq_getElem?_getD,List.getElem?_map,List.getElem?_range hi]
 rfl
theorem Ko9 {f:List (List Tm)} {j:Nat} (h:Jz6 f (j:Int)):(Ke7 f (j:Int)).getD []=Kl9 f j:=by
 rw[Jz3 h,Int.toNat_natCast]
 rfl
theorem Ki9 {f:List (List Tm)} (hb: ∀q∈f,Bd 56029 q∧q.length≤14) (ho: ∀q∈f,POk q) {j:Nat} (h:Jz6 f (j:Int)): ∀g∈Kl9 f j,GOK 2000000 g∧Fd0 Cx8 0 g≤(f.length:Int):=fun g hg=>by
 obtain⟨i,hi,rfl⟩:=List.mem_map.1 hg
 have hi:=List.mem_range.1 hi
 have hF:=h.1
 have hj:j≤4:=by have:=h.2.1;omega
 obtain⟨g,h1⟩:=Option.isSome_iff_exists.1 (h.2.2 i hi)
 rw[Int.toNat_natCast] at h1
 rw[h1]
 have hf:Kj2 f:=⟨hb,hF.2.2⟩
 have hG:=Kf4 hf (by have:=hF.2;omega) hj h1
 have hlb:=Kp7 j hj
 refine⟨⟨hG.bd.mono hlb,hG.Aq3,hG.ok⟩,?_⟩
 refine(Kk7 hF.2.1 hF.2.2 hG.ok).2 (Ko1 (fun q hq=>(Kk7 hF.2.1 hF.2.2 (ho q hq)).1 (hF.1 q hq)) hi hF.2.2 h1)
theorem Kp6 {f:List (List Tm)} {x e:List Iv} {h:Rat} (hb: ∀q∈f,Bd 56029 q∧q.length≤14) (ho: ∀q∈f,POk q) (kx: ∀y∈x,IvS 4 y) (ke: ∀y∈e,IvS 4 y) (lx:x.length≤5) (le:e.length≤5) (hz:Sz 4 h) {k i j:Nat} (hk:k≤4) (hj:j≤k+1) (hi:i<f.length) (hL: ∀y,y<j→Jz6 f (y:Int)):IvS 20000000 (enS f x e h k i j):=by
 have key: ∀y,y≤k→y<j→BdI 2100000 (Aq8 (Bm3 (onB x e k y)) ((Jz7 f i y).getD [])):=fun y hy hyj=>by
  have hG:=(Ki9 hb ho (hL y hyj) _ (List.mem_map.2 ⟨i,List.mem_range.2 hi,rfl⟩)).1
  have hX:(∀z∈onB x e k y,IvS 4 z)∧(onB x e k y).length≤5:=by
   unfold onB
   split
   ·exact⟨ke,le⟩
   ·exact⟨kx,lx⟩
  have hz1:BxN 2000000 4 ((Jz7 f i y).getD []) (onB x e k y):=⟨hG.bd,hX.1,hG.ok,by have:=hG.len;omega,by omega,by omega,by have:=hX.2;omega⟩
  exact hz1.Kq8.mono (by omega)
 have main: ∀y,y≤j→BdI (1+y*(2100000+40)) (enS f x e h k i y):=by
  intro y
  induction y with
  | zero=>intro _;exact BdI.zero (by omega)
  | succ y ih=>
   intro hy
   have h1:=ih (by omega)
   have h2:=(key y (by omega) (by omega)).scale (Ki2 hz y (by omega))
   exact(h1.add h2).mono (by rw[Nat.add_mul];omega)
 exact((main j (Nat.le_refl _)).mono (by
  have:j*(2100000+40)≤5*(2100000+40):=Nat.mul_le_mul_right _ (by omega)
  omega)).sz
theorem Kb2 {f:List (List Tm)} {x e:List Iv} {h:Rat} {k j:Nat} :((List.range (Kl9 f j).length).map fun i=>Cb5 (enS f x e h k i j) (De8 (Aq8 (Bm3 (onB x e k j)) ((Kl9 f j).getD i [])) (wS h j)))=enL f x e h k (j+1):=by
 unfold enL
 rw[Kf2]
 refine List.map_congr_left fun i hi=>?_
 rw[Kp4 (List.mem_range.1 hi)]
 rfl
def eoI (W0:PW) (f:List (List Tm)) (x e:List Iv) (h:Rat) (k:Nat) (L:List PL) (W:PW):Prop:=match L with
 | [.val (.int .i64 z),.cells c,.row l]=>∃(j:Nat) (s:Sl) (b:Bool) (t:Sl),z=(j:Int)∧c = [s.v,.bool b,t.v]∧j≤k+1∧Ext W0 W∧Ab3 240 W s b t (wS h (j-1))∧An5 (SpV 240 W) l (enL f x e h k j)∧∀y,y<j→Jz6 f (y:Int)
 | _=>False
def Kr0 (n:Nat) (L:List PL) (_:PW):Nat:=match L with
 | [.val (.int .i64 z),_,_]=>n-z.toNat
 | _=>0
theorem Kg7 {W:PW} : ∀n,An5 (SpV 240 W) (List.replicate n [.slice none 0 0,.bool false,.slice none 0 0,.slice none 0 0,.bool false,.slice none 0 0]) (List.replicate n ((0:Rat),(0:Rat)))
 | 0=>trivial
 | n+1=>⟨SpV.mk (s:=⟨none,0,0⟩) (t:=⟨none,0,0⟩) (s':=⟨none,0,0⟩) (t':=⟨none,0,0⟩) (x:=(0,0)) (Ar9 W) (Ar9 W),Kg7 n⟩
theorem Kk6 (f:List (List Tm)) (x e:List Iv) (h:Rat) (k:Nat):enL f x e h k 0=List.replicate f.length ((0:Rat),(0:Rat)):=by
 unfold enL
 apply List.ext_getElem?
 intro i
 by_cases hi:i<f.length
 ·rw[List.getElem?_map,List.getElem?_range hi,List.getElem?_replicate,if_pos hi]
  rfl
 ·rw[List.getElem?_eq_none (by simp;omega),List.getElem?_eq_none (by simp;omega)]
theorem Kl7 {W0:PW} {M:Nat→Prop} {s sx se u t:Sl} {b:Bool} {f:List (List Tm)} {x e:List Iv} {h:Rat} {k:Int} (hf:Ps W0 s f) (hx:Bc3 240 W0 sx x) (he:Bc3 240 W0 se e) (hh:Ab3 240 W0 u b t h) (hl:f.length≤4) (hb: ∀q∈f,Bd 56029 q∧q.length≤14) (ho: ∀q∈f,POk q) (kx: ∀y∈x,IvS 4 y) (ke: ∀y∈e,IvS 4 y) (lx:x.length≤5) (le:e.length≤5) (hz:Sz 4 h):
  Aa0 Tryz.prog 11 [s.v,sx.v,se.v,.agg ⟨[u.v,.bool b,t.v]⟩,.int .i64 k] W0 M fun v W'=>∃(s1:Sl),v = .tuple ⟨[Sl.v s1,.bool (decide (Jz2 f x e h k))]⟩∧Bc3 240 W' s1 (if Jz2 f x e h k then enL f x e h k.toNat (k.toNat+1) else[]):=by
 apply Kh3
 have n0:=hf.n
 have bad:¬Jz2 f x e h k→∀W':PW,∃s1:Sl,(Value.tuple ⟨[.slice none 0 0,.bool false]⟩) = .tuple ⟨[Sl.v s1,.bool (decide (Jz2 f x e h k))]⟩∧Bc3 240 W' s1 (if Jz2 f x e h k then enL f x e h k.toNat (k.toNat+1) else[]):=fun hno W'=>⟨⟨none,0,0⟩,by rw[decide_eq_false hno],by rw[if_neg hno];exact Dr1.nil W'⟩
 refine Ka7 hf hx he hh (by omega) (fun p hp=>by have:=(hb p hp).2;omega) kx ke (by omega) (by omega) (by omega) hz fun W2 hE2 _=>⟨_,rfl,fun b1 W4 _=>bad (fun ok=>by simp[ok.1] at b1) W4,fun b1=>⟨fun h1 W5 _=>bad (fun ok=>by have:=ok.2.1.1;omega) W5,fun h1=>⟨fun h4 W6 _=>bad (fun ok=>by have:=ok.2.1.2;omega) W6,fun h4=>?_⟩⟩⟩
 have fit:Jy9 f x e h:=by simpa using b1
 obtain⟨K,rfl⟩:=Int.eq_ofNat_of_zero_le (show 0≤k by omega)
 have hK1:1≤K:=by omega
 have hK4:K≤4:=by omega
 have hlen:((s.2:Nat):Int)=((f.length:Nat):Int):=by
  have:s.2=f.length:=n0
  omega
 rw[hlen,Int.toNat_natCast]
 refine⟨⟨rfl,by omega,by omega⟩,Ay8 (z:=1) (by unfold I64;omega) fun s9 b10 s11 W8 hE8 h8=>⟨s9,b10,s11,rfl,by unfold I64;omega,?_⟩⟩
 refine⟨eoI W8 f x e h K,Kr0 (K+1),⟨0,s9,b10,s11,rfl,rfl,Nat.zero_le _,Ext.refl _,h8,by rw[Kk6];exact Kg7 _,fun y hy=>absurd hy (Nat.not_lt_zero _)⟩,?_⟩
 rintro s14 b15 s16 l17 i18 W19 ⟨j,s0,b0,t0,rfl,el,hj,hE19,hby,hal,hL⟩
 simp only[List.cons.injEq,Value.bool.injEq,and_true] at el
 obtain⟨q1,rfl,q2⟩:=el
 obtain rfl:=Sl.Ck0 q1
 obtain rfl:=Sl.Ck0 q2
 refine⟨fun hlt=>?_,fun hge s189 W190 hE190 hO190 _ W191 hE191=>⟨s189,?_,?_⟩⟩
 ·have hjK:j≤K:=by omega
  have E19:=hE2.trans (hE8.trans hE19)
  refine Kb9 (k:=(j:Int)) (hf.ext E19) (by omega) hb fun s22 W21 hE21 h21=>⟨s22,_,rfl,fun hno W24 _=>bad (Jz2.not (j:=j) (by omega) (Option.not_isSome_iff_eq_none.1 (by simpa using hno))) W24,fun hyes=>?_⟩
  have hLj:Jz6 f (j:Int):=Kd9 (by simpa using hyes)
  rw[Ko9 hLj] at h21
  have hlg:=Kf2 f j
  have hgs:=Ki9 hb ho hLj
  have hL': ∀y,y<j+1→Jz6 f (y:Int):=fun y hy=>by
   by_cases e1:y=j
   ·rw[e1];exact hLj
   ·exact hL y (by omega)
  have za: ∀i,i<(Kl9 f j).length→IvS 20000000 (enS f x e h K i j):=fun i hi=>Kp6 hb ho kx ke lx le hz hK4 hj (by omega) hL
  have hmu:K+1-Int.toNat ((j:Int)+1)<K+1-Int.toNat (j:Int):=by omega
  have ha17:An5 (SpV 240 W19) l17 ((List.range (Kl9 f j).length).map fun i=>enS f x e h K i j):=by rw[hlg];exact hal
  have fe:f.length=x.length∧f.length=e.length:=⟨fit.2.2.2.1.symm,fit.2.2.2.2.1.symm⟩
  refine⟨fun h0=>?_,fun h0=>?_⟩
  ·have hj1:0<j:=by omega
   obtain⟨y,rfl⟩: ∃y,j=y+1:=⟨j-1,by omega⟩
   have zw:=Ki2 hz y (by omega)
   have hby:Ab3 240 W19 s14 b15 s16 (wS h y):=hby
   refine Ak9 (hby.ext hE21) (hh.ext (E19.trans hE21)) zw hz (by omega) (by omega) fun s27 b28 s29 W26 hE26 h26=>⟨s27,b28,s29,rfl,?_⟩
   refine Ay8 (z:=((y+1:Nat):Int)) (by unfold I64;omega) fun s32 b33 s34 W31 hE31 h31=>⟨s32,b33,s34,rfl,?_⟩
   have zn:Sz 1 ((((y+1:Nat):Int):Int):Rat):=Kk1 (c:=y+1) (by omega)
   refine Gb1 (h26.ext hE31) h31 (zw.mul hz) zn (by omega) (by omega) (by omega) fun s37 b38 s39 W36 hE36 h36=>⟨s37,b38,s39,_,rfl,?_⟩
   have E36:=hE21.trans (hE26.trans (hE31.trans hE36))
   have h36:Ab3 240 W36 s37 b38 s39 (wS h (y+1)):=h36
   have zr:Sz 40 (wS h (y+1)):=(Ki2 hz (y+1) (by omega)).mono (by omega)
   refine⟨fun hk=>?_,fun hk=>?_⟩
   ·have hon:onB x e K (y+1)=e:=if_pos (by omega)
    exact Ki4 (h21.ext (hE26.trans (hE31.trans hE36))) (he.ext (E19.trans E36)) h36 (ha17.mono fun _ _ h=>h.ext E36) (by omega) fit.2.2.1 ke (fun g hg=>⟨(hgs g hg).1,by have:=(hgs g hg).2;omega⟩) zr za (by omega) fun l W' hE' hl'=>⟨by unfold I64;omega,⟨y+1+1,s37,b38,s39,by push_cast;rfl,rfl,by omega,hE19.trans (E36.trans hE'),h36.ext hE',by rw[←Kb2,hon];exact hl',hL'⟩,hmu⟩
   ·have hon:onB x e K (y+1)=x:=if_neg (by omega)
    exact Ki4 (h21.ext (hE26.trans (hE31.trans hE36))) (hx.ext (E19.trans E36)) h36 (ha17.mono fun _ _ h=>h.ext E36) (by omega) fit.2.1 kx (fun g hg=>⟨(hgs g hg).1,by have:=(hgs g hg).2;omega⟩) zr za (by omega) fun l W' hE' hl'=>⟨by unfold I64;omega,⟨y+1+1,s37,b38,s39,by push_cast;rfl,rfl,by omega,hE19.trans (E36.trans hE'),h36.ext hE',by rw[←Kb2,hon];exact hl',hL'⟩,hmu⟩
  ·have hj0:j=0:=by omega
   subst hj0
   have hby:Ab3 240 W19 s14 b15 s16 (wS h 0):=hby
   have zr:Sz 40 (wS h 0):=(Ki2 hz 0 (by omega)).mono (by omega)
   refine⟨fun hk=>absurd hk (by omega),fun hk=>?_⟩
   have hon:onB x e K 0=x:=if_neg (by omega)
   exact Ki4 h21 (hx.ext (E19.trans hE21)) (hby.ext hE21) (ha17.mono fun _ _ h=>h.ext hE21) (by omega) fit.2.1 kx (fun g hg=>⟨(hgs g hg).1,by have:=(hgs g hg).2;omega⟩) zr za (by omega) fun l W' hE' hl'=>⟨by unfold I64;omega,⟨1,s14,b15,s16,rfl,rfl,by omega,hE19.trans (hE21.trans hE'),hby.ext (hE21.trans hE'),by rw[←Kb2,hon];exact hl',hL'⟩,hmu⟩
 all_goals
  have hjK:j=K+1:=by omega
  subst hjK
  have ok:Jz2 f x e h (K:Int):=⟨fit,⟨by omega,by omega⟩,by rw[Jz3 (hL K (by omega))];rfl⟩
 ·rw[decide_eq_true ok]
 ·rw[if_pos ok,Int.toNat_natCast]
  exact Bc3.ext ⟨l17,⟨_,hO190.row⟩,hal.mono fun _ _ h=>h.ext hE190⟩ hE191
theorem Kh6 {W0 W:PW} {M:Nat→Prop} {s sx se u t:Sl} {b:Bool} {f:List (List Tm)} {x e:List Iv} {h:Rat} {k:Int} {K:Value→PW→Prop} (hf:Ps W s f) (hx:Bc3 240 W sx x) (he:Bc3 240 W se e) (hh:Ab3 240 W u b t h) (hl:f.length≤4) (hb: ∀q∈f,Bd 56029 q∧q.length≤14) (ho: ∀q∈f,POk q) (kx: ∀y∈x,IvS 4 y) (ke: ∀y∈e,IvS 4 y) (lx:x.length≤5) (le:e.length≤5) (hz:Sz 4 h) (kont: ∀(s1:Sl) (W':PW),Ext W W'→(Bc3 240 W' s1 (if Jz2 f x e h k then enL f x e h k.toNat (k.toNat+1) else[]))→K (.tuple ⟨[Sl.v s1,.bool (decide (Jz2 f x e h k))]⟩) W'):
  Aa1 Tryz.prog W0 M 11 [s.v,sx.v,se.v,.agg ⟨[u.v,.bool b,t.v]⟩,.int .i64 k] W K:=
 Aa2 (fun W' hE=>Kl7 (M:=fun _=>False) (hf.ext hE) (hx.ext hE) (he.ext hE) (hh.ext hE) hl hb ho kx ke lx le hz) (fun W' v W'' hE hE' hP=>by
  obtain⟨s1,rfl,h⟩:=hP
  exact kont s1 W'' (hE.trans hE') h)
end Go.Proofs.YtahohahjnhfedaaGreat
/- bound.Mean, Best. -/
namespace Go.Proofs.YtahohahjnhfedaaGreat
open Go Go.SX
end Go.Proofs.YtahohahjnhfedaaGreat
/- span.Parse, cinctureref1.SpanParse; cincturelaw5.Is, Of. -/
namespace Go.Proofs.YtahohahjnhfedaaGreat
open Go Go.SX
def spP (a b:ByteArray):Option Iv:=match Ab7 a,Ab7 b with
 | some p,some q=>if p≤q then some (p,q) else none
 | _,_=>none
theorem Dp3 {a b:ByteArray} {x:Iv} (h:spP a b=some x):Ab7 a=some x.1∧Ab7 b=some x.2∧x.1≤x.2:=by
 unfold spP at h
 cases ha:Ab7 a with
 | none=>rw[ha] at h;cases h
 | some p=>
  cases hb:Ab7 b with
  | none=>rw[ha,hb] at h;cases h
  | some q=>
   rw[ha,hb] at h
   dsimp only at h
   split at h
   ·cases h;exact⟨rfl,rfl,by assumption⟩
   ·cases h
theorem Bg2 {α:Type} {o:Option α} :er o=0↔o.isSome=true:=by
 unfold er
 cases o<;>simp
theorem At4 {a:ByteArray} :Sz 4000 ((Ab7 a).getD 0):=by
 cases h:Ab7 a with
 | none=>exact Sz.zero (by omega)
 | some q=>exact(Aw6 h).1
theorem Cq2 {W0:PW} {M:Nat→Prop} {a b:ByteArray} (ha:a.size≤1099511627776) (hb:b.size≤1099511627776):
  Aa0 Tryz.prog 107 [.agg ⟨[.string a,.string b]⟩] W0 M fun v W'=>∃(l:List Value),∃(e:Int),v = .tuple ⟨[.agg ⟨l⟩,.int .i64 e]⟩∧SpV 240 W' l ((spP a b).getD (0,0))∧(e=0↔(spP a b).isSome=true):=by
 apply Bz8
 refine As8 ha fun s3 b4 s5 W2 hE2 h2=>⟨s3,b4,s5,_,rfl,fun hne W7 hE7=>?_,fun heq=>?_⟩
 ·have hn:Ab7 a=none:=by
   cases h:Ab7 a with
   | none=>rfl
   | some q=>exact absurd (Bg2.2 (by rw[h];rfl)) hne
  have hs:spP a b=none:=by unfold spP;rw[hn]
  refine⟨_,_,rfl,by rw[hs];exact SpV.zero W7,?_⟩
  rw[hs,Bg2,hn];simp
 ·have h1:=Bg2.1 (Decidable.not_not.1 heq)
  obtain⟨p,hp⟩:=Option.isSome_iff_exists.1 h1
  refine As8 hb fun s10 b11 s12 W9 hE9 h9=>⟨s10,b11,s12,_,rfl,fun hne W14 hE14=>?_,fun heq2=>?_⟩
  ·have hn:Ab7 b=none:=by
    cases h:Ab7 b with
    | none=>rfl
    | some q=>exact absurd (Bg2.2 (by rw[h];rfl)) hne
   have hs:spP a b=none:=by unfold spP;rw[hp,hn]
   refine⟨_,_,rfl,by rw[hs];exact SpV.zero W14,?_⟩
   rw[hs,Bg2,hn];simp
  ·have h3:=Bg2.1 (Decidable.not_not.1 heq2)
   obtain⟨q,hq⟩:=Option.isSome_iff_exists.1 h3
   have z1:=At4 (a:=a)
   have z2:=At4 (a:=b)
   refine Cq7 (h2.ext hE9) h9 z1 z2 (by omega) fun l W16 hE16 h16=>?_
   rw[hp,hq] at h16⊢
   simp only[Option.getD_some] at h16⊢
   have hs:spP a b=if p≤q then some (p,q) else none:=by unfold spP;rw[hp,hq]
   obtain⟨s17,b18,s19,s20,b21,s22,rfl,k1,k2⟩:=h16
   refine⟨s17,b18,s19,s20,b21,s22,_,rfl,fun hno W24 hE24=>?_,fun hyes W25 hE25=>?_⟩
   ·have hno:¬p≤q:=by simpa using hno
    rw[hs,if_neg hno]
    exact⟨_,_,rfl,SpV.zero W24,by decide⟩
   ·have hyes:p≤q:=by simpa using hyes
    rw[if_pos hyes] at k1 k2
    rw[hs,if_pos hyes]
    exact⟨_,_,rfl,SpV.mk (x:=(p,q)) (k1.ext hE25) (k2.ext hE25),by simp⟩
theorem Az3 {W0 W:PW} {M:Nat→Prop} {a b:ByteArray} {K:Value→PW→Prop} (ha:a.size≤1099511627776) (hb:b.size≤1099511627776) (kont: ∀(l:List Value) (e:Int) (W':PW),Ext W W'→(SpV 240 W' l ((spP a b).getD (0,0))∧(e=0↔(spP a b).isSome=true))→K (.tuple ⟨[.agg ⟨l⟩,.int .i64 e]⟩) W'):
  Aa1 Tryz.prog W0 M 107 [.agg ⟨[.string a,.string b]⟩] W K:=
 Aa2 (fun W' hE=>Cq2 (M:=fun _=>False) ha hb) (fun W' v W'' hE hE' hP=>by
  obtain⟨l,e,rfl,h⟩:=hP
  exact kont l e W'' (hE.trans hE') h)
theorem Bp7 {W0:PW} {M:Nat→Prop} {a b:ByteArray} (ha:a.size≤1099511627776) (hb:b.size≤1099511627776):
  Aa0 Tryz.prog 106 [.agg ⟨[.string a,.string b]⟩] W0 M fun v W'=>∃(l:List Value),∃(e:Int),v = .tuple ⟨[.agg ⟨l⟩,.int .i64 e]⟩∧Ah6 240 W' l ((spP a b).getD (0,0))∧(e=0↔(spP a b).isSome=true):=by
 apply Be5
 refine An7 ha fun b3 s4 s5 W2 hE2 h2=>⟨b3,s4,s5,_,rfl,An7 hb fun b9 s10 s11 W8 hE8 h8=>⟨b9,s10,s11,_,rfl,fun hno W13 hE13=>?_,fun hyes=>⟨fun hno W14 hE14=>?_,fun hyes2=>?_⟩⟩⟩
 ·have hn:Ab7 a=none:=by simpa using hno
  have hs:spP a b=none:=by unfold spP;rw[hn]
  rw[hs]
  exact⟨_,_,rfl,Ah6.zero W13,by decide⟩
 ·have hn:Ab7 b=none:=by simpa using hno
  have hs:spP a b=none:=by unfold spP;cases Ab7 a<;>rw[hn]
  rw[hs]
  exact⟨_,_,rfl,Ah6.zero W14,by decide⟩
 ·obtain⟨p,hp⟩:=Option.isSome_iff_exists.1 (show(Ab7 a).isSome=true by simpa using hyes)
  obtain⟨q,hq⟩:=Option.isSome_iff_exists.1 (show(Ab7 b).isSome=true by simpa using hyes2)
  have z1:=At4 (a:=a)
  have z2:=At4 (a:=b)
  have hs:spP a b=if p≤q then some (p,q) else none:=by unfold spP;rw[hp,hq]
  rw[hp] at h2 z1
  rw[hq] at h8 z2
  simp only[Option.getD_some] at h2 h8 z1 z2
  refine Ar1 (h2.ext hE8) h8 z1 z2 (by omega) (by omega) fun W16 hE16 _=>⟨_,rfl,fun hgt W18 hE18=>?_,fun hle W19 hE19=>?_⟩
  ·have h:¬p≤q:=Rat.not_le.2 (Al3.1 hgt)
   rw[hs,if_neg h]
   exact⟨_,_,rfl,Ah6.zero W18,by decide⟩
  ·have h:p≤q:=Rat.not_lt.1 fun e=>hle (Al3.2 e)
   rw[hs,if_pos h]
   exact⟨_,_,rfl,Ah6.mk (x:=(p,q)) (h2.ext (hE8.trans (hE16.trans hE19))) (h8.ext (hE16.trans hE19)),by simp⟩
theorem Bh8 {W0 W:PW} {M:Nat→Prop} {a b:ByteArray} {K:Value→PW→Prop} (ha:a.size≤1099511627776) (hb:b.size≤1099511627776) (kont: ∀(l:List Value) (e:Int) (W':PW),Ext W W'→(Ah6 240 W' l ((spP a b).getD (0,0))∧(e=0↔(spP a b).isSome=true))→K (.tuple ⟨[.agg ⟨l⟩,.int .i64 e]⟩) W'):
  Aa1 Tryz.prog W0 M 106 [.agg ⟨[.string a,.string b]⟩] W K:=
 Aa2 (fun W' hE=>Bp7 (M:=fun _=>False) ha hb) (fun W' v W'' hE hE' hP=>by
  obtain⟨l,e,rfl,h⟩:=hP
  exact kont l e W'' (hE.trans hE') h)
theorem En6 {W0:PW} {M:Nat→Prop} {l l':List Value} {x:Iv} {k:Nat} (h1:SpV 240 W0 l x) (h2:Ah6 240 W0 l' x) (hx:IvS k x) (hk:k≤100000000):
  Aa0 Tryz.prog 59 [.agg ⟨l⟩,.agg ⟨l'⟩] W0 M fun v W'=>v = .bool true∧True:=by
 obtain⟨s0,b0,t0,s1,b1,t1,rfl,h1,h1'⟩:=h1
 obtain⟨s2,b2,t2,s3,b3,t3,rfl,h2,h2'⟩:=h2
 apply Df9
 exact Bv1 h1 h2 hx.1 hx.1 hk fun W2 hE2 _=>⟨_,rfl,fun _=>Bv1 (h1'.ext hE2) (h2'.ext hE2) hx.2 hx.2 hk fun W5 hE5 _=>⟨_,rfl,fun W7 _=>⟨by rw[decide_eq_true rfl],trivial⟩⟩,fun e=>absurd e (by simp)⟩
theorem Bt3 {W0 W:PW} {M:Nat→Prop} {l l':List Value} {x:Iv} {k:Nat} {K:Value→PW→Prop} (h1:SpV 240 W l x) (h2:Ah6 240 W l' x) (hx:IvS k x) (hk:k≤100000000) (kont: ∀(W':PW),Ext W W'→(True)→K (.bool true) W'):
  Aa1 Tryz.prog W0 M 59 [.agg ⟨l⟩,.agg ⟨l'⟩] W K:=
 Aa2 (fun W' hE=>En6 (M:=fun _=>False) (h1.ext hE) (h2.ext hE) hx hk) (fun W' v W'' hE hE' hP=>by
  obtain⟨rfl,h⟩:=hP
  exact kont W'' (hE.trans hE') h)
theorem Es4 {W0:PW} {M:Nat→Prop} {a b:ByteArray} (ha:a.size≤1099511627776) (hb:b.size≤1099511627776):
  Aa0 Tryz.prog 39 [.agg ⟨[.string a,.string b]⟩] W0 M fun v W'=>∃(l:List Value),∃(l':List Value),∃(ok:Bool),∃(x:Iv),v = .tuple ⟨[.agg ⟨l⟩,.agg ⟨l'⟩,.bool ok]⟩∧SpV 240 W' l x∧Ah6 240 W' l' x∧(ok=true→spP a b=some x∧a.size≤60∧b.size≤60)∧(ok=false→x=(0,0)∧¬((spP a b).isSome=true∧a.size≤60∧b.size≤60)):=by
 apply Dh3
 have bad: ∀(W':PW),¬((spP a b).isSome=true∧a.size≤60∧b.size≤60)→∃(l:List Value) (l':List Value) (ok:Bool) (x:Iv),Value.tuple ⟨[.agg ⟨[.slice none 0 0,.bool false,.slice none 0 0,.slice none 0 0,.bool false,.slice none 0 0]⟩,.agg ⟨[.bool false,.slice none 0 0,.slice none 0 0,.bool false,.slice none 0 0,.slice none 0 0]⟩,.bool false]⟩ = .tuple ⟨[.agg ⟨l⟩,.agg ⟨l'⟩,.bool ok]⟩∧
   SpV 240 W' l x∧Ah6 240 W' l' x∧(ok=true→spP a b=some x∧a.size≤60∧b.size≤60)∧(ok=false→x=(0,0)∧¬((spP a b).isSome=true∧a.size≤60∧b.size≤60)):=
  fun W' hn=>⟨_,_,_,(0,0),rfl,SpV.zero W',Ah6.zero W',fun e=>(by cases e),fun _=>⟨rfl,hn⟩⟩
 refine Bh8 ha hb fun l e W2 hE2 ⟨h2,he⟩=>?_
 obtain⟨b3,s4,s5,b6,s7,s8,rfl,k1,k2⟩:=h2
 refine⟨b3,s4,s5,b6,s7,s8,e,rfl,fun hne W10 _=>bad W10 fun h=>hne (he.2 h.1),fun heq=>⟨fun h60 W11 _=>bad W11 fun h=>by omega,fun h60=>⟨fun h61 W12 _=>bad W12 fun h=>by omega,fun h61=>?_⟩⟩⟩
 obtain⟨x,hx⟩:=Option.isSome_iff_exists.1 (he.1 (Decidable.not_not.1 heq))
 rw[hx] at k1 k2
 refine Az3 ha hb fun l e' W14 hE14 ⟨h14,_⟩=>?_
 rw[hx] at h14
 obtain⟨s15,b16,s17,s18,b19,s20,rfl,q1,q2⟩:=h14
 refine⟨s15,b16,s17,s18,b19,s20,e',rfl,fun W22 hE22=>⟨_,_,_,x,rfl,SpV.mk (q1.ext hE22) (q2.ext hE22),Ah6.mk (k1.ext (hE14.trans hE22)) (k2.ext (hE14.trans hE22)),fun _=>⟨hx,by omega,by omega⟩,fun e=>(by cases e)⟩⟩
theorem Dd8 {W0 W:PW} {M:Nat→Prop} {a b:ByteArray} {K:Value→PW→Prop} (ha:a.size≤1099511627776) (hb:b.size≤1099511627776) (kont: ∀(l:List Value) (l':List Value) (ok:Bool) (x:Iv) (W':PW),Ext W W'→(SpV 240 W' l x∧Ah6 240 W' l' x∧(ok=true→spP a b=some x∧a.size≤60∧b.size≤60)∧(ok=false→x=(0,0)∧¬((spP a b).isSome=true∧a.size≤60∧b.size≤60)))→K (.tuple ⟨[.agg ⟨l⟩,.agg ⟨l'⟩,.bool ok]⟩) W'):
  Aa1 Tryz.prog W0 M 39 [.agg ⟨[.string a,.string b]⟩] W K:=
 Aa2 (fun W' hE=>Es4 (M:=fun _=>False) ha hb) (fun W' v W'' hE hE' hP=>by
  obtain⟨l,l',ok,x,rfl,h⟩:=hP
  exact kont l l' ok x W'' (hE.trans hE') h)
end Go.Proofs.YtahohahjnhfedaaGreat
/- cinctureref1.Half. -/
namespace Go.Proofs.YtahohahjnhfedaaGreat
open Go Go.SX
end Go.Proofs.YtahohahjnhfedaaGreat
/- The reference's Mid, SpanSub, Meet, Three, Sides, Natural, Mean; cincturelaw9.told. -/
namespace Go.Proofs.YtahohahjnhfedaaGreat
open Go Go.SX
def Hs8 (W0:PW) (bs:List Iv) (L:List PL) (W:PW):Prop:=match L with
 | [.val (.int .i64 i),.cells l]=>∃j:Nat,i=(j:Int)∧j≤bs.length∧j≤3∧Ext W0 W∧Cf1 240 W l (Bm3 (bs.take j))
 | _=>False
theorem Hk2 {W0:PW} {M:Nat→Prop} {sb:Sl} {bs:List Iv} (hb:Fx4 240 W0 sb bs) (hl:bs.length≤1048576):
  Aa0 Tryz.prog 54 [sb.v] W0 M fun v W'=>∃(l:List Value),v = .agg ⟨l⟩∧Cf1 240 W' l (Bm3 bs):=by
 apply Hf3
 have hn:=hb.n
 refine Ak1 (z:=0) (by unfold I64;omega) fun b3 s4 s5 W2 hE2 h2=>⟨b3,s4,s5,rfl,Bd0 h2 fun r W7 hE7 h7=>h7.out fun b8 s9 s10 b11 s12 s13 h7=>?_⟩
 refine Ak1 (z:=0) (by unfold I64;omega) fun b16 s17 s18 W15 hE15 h15=>⟨b16,s17,s18,rfl,Bd0 h15 fun r W20 hE20 h20=>h20.out fun b21 s22 s23 b24 s25 s26 h20=>?_⟩
 refine Ak1 (z:=0) (by unfold I64;omega) fun b29 s30 s31 W28 hE28 h28=>⟨b29,s30,s31,rfl,Bd0 h28 fun r W33 hE33 h33=>h33.out fun b34 s35 s36 b37 s38 s39 h33=>?_⟩
 have E20:=hE28.trans hE33
 have E7:=hE15.trans (hE20.trans E20)
 refine⟨Hs8 W33 bs,cn1 bs.length,⟨0,rfl,Nat.zero_le _,Nat.zero_le _,Ext.refl _,Cf1.mk (h7.ext E7) (h20.ext E20) h33⟩,?_⟩
 rintro b42 s43 s44 b45 s46 s47 b48 s49 s50 b51 s52 s53 b54 s55 s56 b57 s58 s59 i60 W61 ⟨j,rfl,hj,hj3,hE61,hD⟩
 obtain⟨d0,d1,d2⟩:=hD.three
 have E61:=hE2.trans (hE7.trans (E7.trans hE61))
 refine⟨fun hlt=>⟨fun h3=>?_,fun h3 W68 hE68=>⟨_,rfl,(hD.congr (Hl8 (.inr (by omega)))).ext hE68⟩⟩,fun hge W69 hE69=>⟨_,rfl,(hD.congr (Hl8 (.inl (by omega)))).ext hE69⟩⟩
 have hjl:j<bs.length:=by omega
 have hB:=hb.ext E61
 obtain⟨x,⟨b62,s63,s64,b65,s66,s67,rfl,q1,q2⟩,hel⟩:=hB.at hjl
 have hx:=Ah6.mk q1 q2
 have hmu:bs.length-Int.toNat ((j:Int)+1)<bs.length-Int.toNat (j:Int):=by omega
 have hbt:=Hk0 hjl
 refine⟨hB.inB (by omega) (by omega),b62,s63,s64,b65,s66,s67,hel 0 rfl,⟨by omega,by omega⟩,by omega,⟨⟨trivial,fun e=>?_⟩,fun e=>?_⟩,fun e=>?_⟩
 ·have:j=0:=by omega
  subst this
  exact⟨by unfold I64;omega,⟨1,rfl,by omega,by omega,hE61,Cf1.mk (by rw[hbt,if_pos rfl];exact hx) (by rw[hbt,if_neg (by omega)];exact d1) (by rw[hbt,if_neg (by omega)];exact d2)⟩,hmu⟩
 ·have:j=1:=by omega
  subst this
  exact⟨by unfold I64;omega,⟨2,rfl,by omega,by omega,hE61,Cf1.mk (by rw[hbt,if_neg (by omega)];exact d0) (by rw[hbt,if_pos rfl];exact hx) (by rw[hbt,if_neg (by omega)];exact d2)⟩,hmu⟩
 ·have:j=2:=by omega
  subst this
  exact⟨by unfold I64;omega,⟨3,rfl,by omega,by omega,hE61,Cf1.mk (by rw[hbt,if_neg (by omega)];exact d0) (by rw[hbt,if_neg (by omega)];exact d1) (by rw[hbt,if_pos rfl];exact hx)⟩,hmu⟩
theorem Hd2 {W0 W:PW} {M:Nat→Prop} {sb:Sl} {bs:List Iv} {K:Value→PW→Prop} (hb:Fx4 240 W sb bs) (hl:bs.length≤1048576) (kont: ∀(l:List Value) (W':PW),Ext W W'→(Cf1 240 W' l (Bm3 bs))→K (.agg ⟨l⟩) W'):
  Aa1 Tryz.prog W0 M 54 [sb.v] W K:=
 Aa2 (fun W' hE=>Hk2 (M:=fun _=>False) (hb.ext hE) hl) (fun W' v W'' hE hE' hP=>by
  obtain⟨l,rfl,h⟩:=hP
  exact kont l W'' (hE.trans hE') h)
end Go.Proofs.YtahohahjnhfedaaGreat
