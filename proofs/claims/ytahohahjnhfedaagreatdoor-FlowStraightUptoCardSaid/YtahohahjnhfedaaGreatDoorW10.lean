/- flow.End. -/
import Derived.Test.YtahohahjnhfedaaGreatDoorW9
import Derived.Test.YtahohahjnhfedaaGreatDoorR14
import Derived.Test.YtahohahjnhfedaaGreatDoorW7
import Derived.Test.YtahohahjnhfedaaGreatDoorLib2
import Derived.Test.YtahohahjnhfedaaGreatDoorLib3
import Derived.Test.YtahohahjnhfedaaGreatDoorRows
import Derived.WalkKit
import Derived.ProofKit
import Derived.OpenShut
import Derived.JoinedCond
import Derived.Carry
import Derived.Deep.Strs
import Derived.Deep.Slices
import Derived.Test.YtahohahjnhfedaaGreatDoorW8
import Derived.Test.YtahohahjnhfedaaGreatDoorW5
import Derived.Shelf.Spec.TrailingZeros
import Derived.Shelf.SlGeneric
import Derived.Test.YtahohahjnhfedaaGreatDoorProg
import Derived.Test.YtahohahjnhfedaaGreatDoorTt
import Derived.Test.YtahohahjnhfedaaGreatDoorLib1
import Derived.Test.YtahohahjnhfedaaGreatDoorW3
import Derived.Test.YtahohahjnhfedaaGreatDoorLib4
import Derived.Test.YtahohahjnhfedaaGreatDoorR12
set_option linter.unusedVariables false
set_option linter.unusedSimpArgs false
set_option maxRecDepth 100000
namespace Go.Proofs.YtahohahjnhfedaaGreatDoor
open Go Go.SX
theorem Kd9 {f:List (List Tm)} {k:Int} (h:(Ke7 f k).isSome=true):Jz6 f k:=by
 refine Classical.byContradiction fun hno=>?_
 rw[Kd3 hno] at h
 cases h
def Kl9 (f:List (List Tm)) (j:Nat):List (List Tm):=(List.range f.length).map fun i=>(Jz7 f i j).getD []
theorem Kf2 (f:List (List Tm)) (j:Nat):(Kl9 f j).length=f.length:=by unfold Kl9;rw[List.length_map,List.length_range]
theorem Kp4 {f:List (List Tm)} {j i:Nat} (hi:i<f.length):(Kl9 f j).getD i []=(Jz7 f i j).getD []:=by
 unfold Kl9
 rw[List.getD_eq_getElem?_getD,List.getElem?_map,List.getElem?_range hi]
 rfl
theorem Ko9 {f:List (List Tm)} {j:Nat} (h:Jz6 f (j:Int)):(Ke7 f (j:Int)).getD []=Kl9 f j:=by
 rw[Jz3 h,Int.toNat_natCast]
 rfl
theorem Ki9 {f:List (List Tm)} (hb: ∀q∈f,Bd 56029 q∧q.length≤14) (ho: ∀q∈f,POk q) {j:Nat} (h:Jz6 f (j:Int)): ∀g∈Kl9 f j,GOK 2000000 g∧Fd0 Cx8 0 g≤(f.length:Int):=fun g hg=>by
 obtain⟨i,hi,rfl⟩:=List.mem_map.1 hg
 have hi:=List.mem_range.1 hi
 have hF:=h.1
 have hj:j≤4:=by have:=h.2.1;omega
 obtain⟨g,h1⟩:=Option.isSome_iff_exists.1 (h.2.2 i hi)
 rw[Int.toNat_natCast] at h1
 rw[h1]
 have hf:Kj2 f:=⟨hb,hF.2.2⟩
 have hG:=Kf4 hf (by have:=hF.2;omega) hj h1
 have hlb:=Kp7 j hj
 refine⟨⟨hG.bd.mono hlb,hG.Aq3,hG.ok⟩,?_⟩
 refine(Kk7 hF.2.1 hF.2.2 hG.ok).2 (Ko1 (fun q hq=>(Kk7 hF.2.1 hF.2.2 (ho q hq)).1 (hF.1 q hq)) hi hF.2.2 h1)
theorem Kp6 {f:List (List Tm)} {x e:List Iv} {h:Rat} (hb: ∀q∈f,Bd 56029 q∧q.length≤14) (ho: ∀q∈f,POk q) (kx: ∀y∈x,IvS 20 y) (ke: ∀y∈e,IvS 20 y) (lx:x.length≤5) (le:e.length≤5) (hz:Sz 4 h) {k i j:Nat} (hk:k≤4) (hj:j≤k+1) (hi:i<f.length) (hL: ∀y,y<j→Jz6 f (y:Int)):IvS 20000000 (enS f x e h k i j):=by
 have key: ∀y,y≤k→y<j→BdI 2100000 (Aq8 (Bm3 (onB x e k y)) ((Jz7 f i y).getD [])):=fun y hy hyj=>by
  have hG:=(Ki9 hb ho (hL y hyj) _ (List.mem_map.2 ⟨i,List.mem_range.2 hi,rfl⟩)).1
  have hX:(∀z∈onB x e k y,IvS 20 z)∧(onB x e k y).length≤5:=by
   unfold onB
   split
   ·exact⟨ke,le⟩
   ·exact⟨kx,lx⟩
  have hz1:BxN 2000000 20 ((Jz7 f i y).getD []) (onB x e k y):=⟨hG.bd,hX.1,hG.ok,by have:=hG.len;omega,by omega,by omega,by have:=hX.2;omega⟩
  exact hz1.over.mono (by omega)
 have main: ∀y,y≤j→BdI (1+y*(2100000+40)) (enS f x e h k i y):=by
  intro y
  induction y with
  | zero=>intro _;exact BdI.zero (by omega)
  | succ y ih=>
   intro hy
   have h1:=ih (by omega)
   have h2:=(key y (by omega) (by omega)).scale (Ki2 hz y (by omega))
   exact(h1.add h2).mono (by rw[Nat.add_mul];omega)
 exact((main j (Nat.le_refl _)).mono (by
  have:j*(2100000+40)≤5*(2100000+40):=Nat.mul_le_mul_right _ (by omega)
  omega)).sz
theorem Kb2 {f:List (List Tm)} {x e:List Iv} {h:Rat} {k j:Nat} :((List.range (Kl9 f j).length).map fun i=>Cb5 (enS f x e h k i j) (De8 (Aq8 (Bm3 (onB x e k j)) ((Kl9 f j).getD i [])) (wS h j)))=enL f x e h k (j+1):=by
 unfold enL
 rw[Kf2]
 refine List.map_congr_left fun i hi=>?_
 rw[Kp4 (List.mem_range.1 hi)]
 rfl
def eoI (W0:PW) (f:List (List Tm)) (x e:List Iv) (h:Rat) (k:Nat) (L:List PL) (W:PW):Prop:=match L with
 | [.val (.int .i64 z),.cells c,.row l]=>∃(j:Nat) (s:Sl) (b:Bool) (t:Sl),z=(j:Int)∧c = [s.v,.bool b,t.v]∧j≤k+1∧Ext W0 W∧Ab3 141 W s b t (wS h (j-1))∧An5 (SpV 141 W) l (enL f x e h k j)∧∀y,y<j→Jz6 f (y:Int)
 | _=>False
def Kr0 (n:Nat) (L:List PL) (_:PW):Nat:=match L with
 | [.val (.int .i64 z),_,_]=>n-z.toNat
 | _=>0
theorem Kg7 {W:PW} : ∀n,An5 (SpV 141 W) (List.replicate n [.slice none 0 0,.bool false,.slice none 0 0,.slice none 0 0,.bool false,.slice none 0 0]) (List.replicate n ((0:Rat),(0:Rat)))
 | 0=>trivial
 | n+1=>⟨SpV.mk (s:=⟨none,0,0⟩) (t:=⟨none,0,0⟩) (s':=⟨none,0,0⟩) (t':=⟨none,0,0⟩) (x:=(0,0)) (Ar9 W) (Ar9 W),Kg7 n⟩
theorem Kk6 (f:List (List Tm)) (x e:List Iv) (h:Rat) (k:Nat):enL f x e h k 0=List.replicate f.length ((0:Rat),(0:Rat)):=by
 unfold enL
 apply List.ext_getElem?
 intro i
 by_cases hi:i<f.length
 ·rw[List.getElem?_map,List.getElem?_range hi,List.getElem?_replicate,if_pos hi]
  rfl
 ·rw[List.getElem?_eq_none (by simp;omega),List.getElem?_eq_none (by simp;omega)]
theorem Kl7 {W0:PW} {M:Nat→Prop} {s sx se u t:Sl} {b:Bool} {f:List (List Tm)} {x e:List Iv} {h:Rat} {k:Int} (hf:Ps W0 s f) (hx:Bc3 141 W0 sx x) (he:Bc3 141 W0 se e) (hh:Ab3 141 W0 u b t h) (hl:f.length≤4) (hb: ∀q∈f,Bd 56029 q∧q.length≤14) (ho: ∀q∈f,POk q) (kx: ∀y∈x,IvS 20 y) (ke: ∀y∈e,IvS 20 y) (lx:x.length≤5) (le:e.length≤5) (hz:Sz 4 h):
  Aa0 Tryz.prog 13 [s.v,sx.v,se.v,.agg ⟨[u.v,.bool b,t.v]⟩,.int .i64 k] W0 M fun v W'=>∃(s1:Sl),v = .tuple ⟨[Sl.v s1,.bool (decide (Jz2 f x e h k))]⟩∧Bc3 141 W' s1 (if Jz2 f x e h k then enL f x e h k.toNat (k.toNat+1) else[]):=by
 apply Kh3
 have n0:=hf.n
 have bad:¬Jz2 f x e h k→∀W':PW,∃s1:Sl,(Value.tuple ⟨[.slice none 0 0,.bool false]⟩) = .tuple ⟨[Sl.v s1,.bool (decide (Jz2 f x e h k))]⟩∧Bc3 141 W' s1 (if Jz2 f x e h k then enL f x e h k.toNat (k.toNat+1) else[]):=fun hno W'=>⟨⟨none,0,0⟩,by rw[decide_eq_false hno],by rw[if_neg hno];exact Dr1.nil W'⟩
 refine Ka7 hf hx he hh (by omega) (fun p hp=>by have:=(hb p hp).2;omega) kx ke (by omega) (by omega) (by omega) (hz.mono (by omega)) fun W2 hE2 _=>⟨_,rfl,fun b1 W4 _=>bad (fun ok=>by simp[ok.1] at b1) W4,fun b1=>⟨fun h1 W5 _=>bad (fun ok=>by have:=ok.2.1.1;omega) W5,fun h1=>⟨fun h4 W6 _=>bad (fun ok=>by have:=ok.2.1.2;omega) W6,fun h4=>?_⟩⟩⟩
 have fit:Jy9 f x e h:=by simpa using b1
 obtain⟨K,rfl⟩:=Int.eq_ofNat_of_zero_le (show 0≤k by omega)
 have hK1:1≤K:=by omega
 have hK4:K≤4:=by omega
 have hlen:((s.2:Nat):Int)=((f.length:Nat):Int):=by
  have:s.2=f.length:=n0
  omega
 rw[hlen,Int.toNat_natCast]
 refine⟨⟨rfl,by omega,by omega⟩,Ay8 (z:=1) (by unfold I64;omega) fun s9 b10 s11 W8 hE8 h8=>⟨s9,b10,s11,rfl,by unfold I64;omega,?_⟩⟩
 refine⟨eoI W8 f x e h K,Kr0 (K+1),⟨0,s9,b10,s11,rfl,rfl,Nat.zero_le _,Ext.refl _,h8,by rw[Kk6];exact Kg7 _,fun y hy=>absurd hy (Nat.not_lt_zero _)⟩,?_⟩
 rintro s14 b15 s16 l17 i18 W19 ⟨j,s0,b0,t0,rfl,el,hj,hE19,hby,hal,hL⟩
 simp only[List.cons.injEq,Value.bool.injEq,and_true] at el
 obtain⟨q1,rfl,q2⟩:=el
 obtain rfl:=Sl.Ck0 q1
 obtain rfl:=Sl.Ck0 q2
 refine⟨fun hlt=>?_,fun hge s189 W190 hE190 hO190 _ W191 hE191=>⟨s189,?_,?_⟩⟩
 ·have hjK:j≤K:=by omega
  have E19:=hE2.trans (hE8.trans hE19)
  refine Kb9 (k:=(j:Int)) (hf.ext E19) (by omega) hb fun s22 W21 hE21 h21=>⟨s22,_,rfl,fun hno W24 _=>bad (Jz2.not (j:=j) (by omega) (Option.not_isSome_iff_eq_none.1 (by simpa using hno))) W24,fun hyes=>?_⟩
  have hLj:Jz6 f (j:Int):=Kd9 (by simpa using hyes)
  rw[Ko9 hLj] at h21
  have hlg:=Kf2 f j
  have hgs:=Ki9 hb ho hLj
  have hL': ∀y,y<j+1→Jz6 f (y:Int):=fun y hy=>by
   by_cases e1:y=j
   ·rw[e1];exact hLj
   ·exact hL y (by omega)
  have za: ∀i,i<(Kl9 f j).length→IvS 20000000 (enS f x e h K i j):=fun i hi=>Kp6 hb ho kx ke lx le hz hK4 hj (by omega) hL
  have hmu:K+1-Int.toNat ((j:Int)+1)<K+1-Int.toNat (j:Int):=by omega
  have ha17:An5 (SpV 141 W19) l17 ((List.range (Kl9 f j).length).map fun i=>enS f x e h K i j):=by rw[hlg];exact hal
  have fe:f.length=x.length∧f.length=e.length:=⟨fit.2.2.2.1.symm,fit.2.2.2.2.1.symm⟩
  refine⟨fun h0=>?_,fun h0=>?_⟩
  ·have hj1:0<j:=by omega
   obtain⟨y,rfl⟩: ∃y,j=y+1:=⟨j-1,by omega⟩
   have zw:=Ki2 hz y (by omega)
   have hby:Ab3 141 W19 s14 b15 s16 (wS h y):=hby
   refine Ak9 (hby.ext hE21) (hh.ext (E19.trans hE21)) zw hz (by omega) (by omega) fun s27 b28 s29 W26 hE26 h26=>⟨s27,b28,s29,rfl,?_⟩
   refine Ay8 (z:=((y+1:Nat):Int)) (by unfold I64;omega) fun s32 b33 s34 W31 hE31 h31=>⟨s32,b33,s34,rfl,?_⟩
   have zn:Sz 1 ((((y+1:Nat):Int):Int):Rat):=Kk1 (c:=y+1) (by omega)
   refine Gb1 (h26.ext hE31) h31 (zw.mul hz) zn (by omega) (by omega) (by omega) fun s37 b38 s39 W36 hE36 h36=>⟨s37,b38,s39,_,rfl,?_⟩
   have E36:=hE21.trans (hE26.trans (hE31.trans hE36))
   have h36:Ab3 141 W36 s37 b38 s39 (wS h (y+1)):=h36
   have zr:Sz 40 (wS h (y+1)):=(Ki2 hz (y+1) (by omega)).mono (by omega)
   refine⟨fun hk=>?_,fun hk=>?_⟩
   ·have hon:onB x e K (y+1)=e:=if_pos (by omega)
    exact Ki4 (h21.ext (hE26.trans (hE31.trans hE36))) (he.ext (E19.trans E36)) h36 (ha17.mono fun _ _ h=>h.ext E36) (by omega) fit.2.2.1 ke (fun g hg=>⟨(hgs g hg).1,by have:=(hgs g hg).2;omega⟩) zr za (by omega) fun l W' hE' hl'=>⟨by unfold I64;omega,⟨y+1+1,s37,b38,s39,by push_cast;rfl,rfl,by omega,hE19.trans (E36.trans hE'),h36.ext hE',by rw[←Kb2,hon];exact hl',hL'⟩,hmu⟩
   ·have hon:onB x e K (y+1)=x:=if_neg (by omega)
    exact Ki4 (h21.ext (hE26.trans (hE31.trans hE36))) (hx.ext (E19.trans E36)) h36 (ha17.mono fun _ _ h=>h.ext E36) (by omega) fit.2.1 kx (fun g hg=>⟨(hgs g hg).1,by have:=(hgs g hg).2;omega⟩) zr za (by omega) fun l W' hE' hl'=>⟨by unfold I64;omega,⟨y+1+1,s37,b38,s39,by push_cast;rfl,rfl,by omega,hE19.trans (E36.trans hE'),h36.ext hE',by rw[←Kb2,hon];exact hl',hL'⟩,hmu⟩
  ·have hj0:j=0:=by omega
   subst hj0
   have hby:Ab3 141 W19 s14 b15 s16 (wS h 0):=hby
   have zr:Sz 40 (wS h 0):=(Ki2 hz 0 (by omega)).mono (by omega)
   refine⟨fun hk=>absurd hk (by omega),fun hk=>?_⟩
   have hon:onB x e K 0=x:=if_neg (by omega)
   exact Ki4 h21 (hx.ext (E19.trans hE21)) (hby.ext hE21) (ha17.mono fun _ _ h=>h.ext hE21) (by omega) fit.2.1 kx (fun g hg=>⟨(hgs g hg).1,by have:=(hgs g hg).2;omega⟩) zr za (by omega) fun l W' hE' hl'=>⟨by unfold I64;omega,⟨1,s14,b15,s16,rfl,rfl,by omega,hE19.trans (hE21.trans hE'),hby.ext (hE21.trans hE'),by rw[←Kb2,hon];exact hl',hL'⟩,hmu⟩
 all_goals
  have hjK:j=K+1:=by omega
  subst hjK
  have ok:Jz2 f x e h (K:Int):=⟨fit,⟨by omega,by omega⟩,by rw[Jz3 (hL K (by omega))];rfl⟩
 ·rw[decide_eq_true ok]
 ·rw[if_pos ok,Int.toNat_natCast]
  exact Bc3.ext ⟨l17,⟨_,hO190.row⟩,hal.mono fun _ _ h=>h.ext hE190⟩ hE191
theorem Kh6 {W0 W:PW} {M:Nat→Prop} {s sx se u t:Sl} {b:Bool} {f:List (List Tm)} {x e:List Iv} {h:Rat} {k:Int} {K:Value→PW→Prop} (hf:Ps W s f) (hx:Bc3 141 W sx x) (he:Bc3 141 W se e) (hh:Ab3 141 W u b t h) (hl:f.length≤4) (hb: ∀q∈f,Bd 56029 q∧q.length≤14) (ho: ∀q∈f,POk q) (kx: ∀y∈x,IvS 20 y) (ke: ∀y∈e,IvS 20 y) (lx:x.length≤5) (le:e.length≤5) (hz:Sz 4 h) (kont: ∀(s1:Sl) (W':PW),Ext W W'→(Bc3 141 W' s1 (if Jz2 f x e h k then enL f x e h k.toNat (k.toNat+1) else[]))→K (.tuple ⟨[Sl.v s1,.bool (decide (Jz2 f x e h k))]⟩) W'):
  Aa1 Tryz.prog W0 M 13 [s.v,sx.v,se.v,.agg ⟨[u.v,.bool b,t.v]⟩,.int .i64 k] W K:=
 Aa2 (fun W' hE=>Kl7 (M:=fun _=>False) (hf.ext hE) (hx.ext hE) (he.ext hE) (hh.ext hE) hl hb ho kx ke lx le hz) (fun W' v W'' hE hE' hP=>by
  obtain⟨s1,rfl,h⟩:=hP
  exact kont s1 W'' (hE.trans hE') h)
end Go.Proofs.YtahohahjnhfedaaGreatDoor
/- cincturelaw16.FlowStraight: plain law. -/
namespace Go.Proofs.YtahohahjnhfedaaGreatDoor
open Go Go.SX
def Ll0 (x:List Iv) (n:Nat→Rat) (h:Rat) (i:Nat):Iv:=((Bm3 x i).1+n i*h,(Bm3 x i).2+n i*h)
def Le3 (x:List Iv) (n:Nat→Rat) (h:Rat) (m:Nat):List Iv:=(List.range m).map (Ll0 x n h)
def Le5 (a b:List Iv):List Iv:=(List.range a.length).map fun i=>Bu9 (Bm3 a i) (Bm3 b i)
theorem Li5 {F:Nat→Iv} {m i:Nat} (h:i<m):Bm3 ((List.range m).map F) i=F i:=by
 unfold Bm3
 rw[List.getD_eq_getElem?_getD,List.getElem?_map,List.getElem?_range h]
 rfl
theorem Le2 (x:List Iv) (n:Nat→Rat) (h:Rat) (m:Nat):(Le3 x n h m).length=m:=by unfold Le3;rw[List.length_map,List.length_range]
theorem Li0 (x:List Iv) (n:Nat→Rat) (h:Rat) (m:Nat):Le3 x n h (m+1)=Le3 x n h m ++ [Ll0 x n h m]:=by unfold Le3;rw[List.range_succ,List.map_append];rfl
theorem Ld3 (a b:List Iv):(Le5 a b).length=a.length:=by unfold Le5;rw[List.length_map,List.length_range]
theorem Lh2 (n:Nat→Rat) (m:Nat):Lc5 n (m+1)=Lc5 n m ++ [cst (n m)]:=by unfold Lc5;rw[List.range_succ,List.map_append];rfl
theorem Lf0 {x:List Iv} (h:Cn7 x) {i:Nat} (hi:i<x.length):(Bm3 x i).1<(Bm3 x i).2:=by
 rw[Fi1 hi]
 exact h.2 _ (List.getElem_mem hi)
theorem Lk2 {x:List Iv} {n:Nat→Rat} {v:Rat} (h:Cn7 x):Cn7 (Le3 x n v x.length):=by
 refine⟨by rw[Le2];exact h.1,fun y hy=>?_⟩
 obtain⟨i,hi,rfl⟩:=List.mem_map.1 hy
 have hs:=Lf0 h (List.mem_range.1 hi)
 show(Bm3 x i).1+n i*v<(Bm3 x i).2+n i*v
 grind
theorem Lf7 {a b:List Iv} (h:Cn7 a):Cn7 (Le5 a b):=by
 refine⟨by rw[Ld3];exact h.1,fun y hy=>?_⟩
 obtain⟨i,hi,rfl⟩:=List.mem_map.1 hy
 have hs:=Lf0 h (List.mem_range.1 hi)
 have a1:=(Dh5 (Bm3 a i).1 (Bm3 b i).1).1
 have a2:=(Cl6 (Bm3 a i).2 (Bm3 b i).2).1
 show Az9 (Bm3 a i).1 (Bm3 b i).1<Au7 (Bm3 a i).2 (Bm3 b i).2
 grind
theorem Lj6 {x:List Iv} {n:Nat→Rat} {v:Rat} (kx: ∀y∈x,IvS 4 y) {i:Nat} (hi:i<x.length) (hn:Sz 4 (n i)) (hv:Sz 4 v):IvS 13 (Ll0 x n v i):=by
 have h:=kx _ (List.getElem_mem hi)
 rw[←Fi1 hi] at h
 exact⟨(h.1.add (hn.mul hv)).mono (by omega),(h.2.add (hn.mul hv)).mono (by omega)⟩
theorem Lk0 {x:List Iv} {n:Nat→Rat} {v:Rat} (kx: ∀y∈x,IvS 4 y) (hn: ∀i,i<x.length→Sz 4 (n i)) (hv:Sz 4 v): ∀y∈Le3 x n v x.length,IvS 13 y:=fun y hy=>by
 obtain⟨i,hi,rfl⟩:=List.mem_map.1 hy
 have hi:=List.mem_range.1 hi
 exact Lj6 kx hi (hn i hi) hv
theorem Lj2 {a b:List Iv} {k:Nat} (ka: ∀y∈a,IvS k y) (kb: ∀y∈b,IvS k y) (hl:a.length=b.length): ∀y∈Le5 a b,IvS k y:=fun y hy=>by
 obtain⟨i,hi,rfl⟩:=List.mem_map.1 hy
 have hi:=List.mem_range.1 hi
 have h1:=ka _ (List.getElem_mem hi)
 have h2:=kb _ (List.getElem_mem (show i<b.length by omega))
 rw[←Fi1] at h1 h2
 constructor
 ·show Sz k (Az9 (Bm3 a i).1 (Bm3 b i).1)
  rcases Dj0 (Bm3 a i).1 (Bm3 b i).1 with e | e<;>rw[e]
  ·exact h1.1
  ·exact h2.1
 ·show Sz k (Au7 (Bm3 a i).2 (Bm3 b i).2)
  rcases Dj7 (Bm3 a i).2 (Bm3 b i).2 with e | e<;>rw[e]
  ·exact h1.2
  ·exact h2.2
theorem Lh8 {n:Nat→Rat} {m:Nat} (hn: ∀i,i<m→Sz 4 (n i)): ∀q∈Lc5 n m,Bd 56029 q∧q.length≤14:=fun q hq=>by
 obtain⟨i,hi,rfl⟩:=Ld9 hq
 rcases Ld4 (n i) with⟨_,e⟩ | ⟨_,e⟩
 ·rw[e]
  exact⟨(Bd.Co7 (k:=1) (l:=[]) (fun t ht=>by cases ht)).mono (by simp),by simp⟩
 ·rw[e]
  exact⟨(Cq4 (hn i hi)).mono (by omega),by simp⟩
theorem Li4 {n:Nat→Rat} {m:Nat} : ∀q∈Lc5 n m,POk q:=fun q hq=>by
 obtain⟨i,hi,rfl⟩:=Ld9 hq
 exact Lf2 _
theorem Le9 {n:Nat→Rat} {x e:List Iv} {h:Rat} (hx:Cn7 x) (h2:x.length≤2) (he:Cn7 e) (hl:e.length=x.length) (hh:0<h):Jy9 (Lc5 n x.length) x e h:=
 ⟨Lh0 hx.1.1 h2,hx,he,(Lc3 _ _).symm,by rw[Lc3];exact hl,hh⟩
theorem Lj7 {n:Nat→Rat} {x e:List Iv} {h:Rat} {k:Int} (hx:Cn7 x) (h2:x.length≤2) (he:Cn7 e) (hl:e.length=x.length) (hh:0<h) (hk:1≤k∧k≤4):Jz2 (Lc5 n x.length) x e h k∧enL (Lc5 n x.length) x e h k.toNat (k.toNat+1)=Le3 x n h x.length:=by
 refine⟨⟨Le9 hx h2 he hl hh,hk,by rw[Jz3 (Lg3 hx.1.1 h2 ⟨by omega,hk.2⟩)];rfl⟩,?_⟩
 unfold enL Le3
 rw[Lc3]
 refine List.map_congr_left fun i hi=>?_
 have hi:=List.mem_range.1 hi
 obtain⟨j,hj⟩: ∃j,k.toNat+1=j+2:=⟨k.toNat-1,by omega⟩
 rw[hj]
 exact Lj9 h2 hi (Rat.le_of_lt (Lf0 hx hi)) (by omega) j
theorem Lh7 {n:Nat→Rat} {x:List Iv} {h:Rat} (hx:Cn7 x) (h2:x.length≤2) (hh:0<h):Kc4 (Lc5 n x.length) x (Le5 x (Le3 x n h x.length)) h:=by
 refine⟨Le9 hx h2 (Lf7 hx) (Ld3 _ _) hh,fun i hi=>?_⟩
 rw[Lc3] at hi
 refine Li2 hi ?_
 unfold Le5
 rw[Li5 hi]
 unfold Le3
 rw[Li5 hi]
 rfl
theorem Lh1 {n:Nat→Rat} {x:List Iv} {h:Rat} (hx:Cn7 x) (h2:x.length≤2) (hh:0<h):Kc4 (Lc5 n x.length) x x h↔∀i,i<x.length→n i=0:=by
 constructor
 ·intro ht i hi
  exact(Lf6 hi hh).1 (ht.2 i (by rw[Lc3];exact hi))
 ·intro h0
  refine⟨Le9 hx h2 hx rfl hh,fun i hi=>?_⟩
  rw[Lc3] at hi
  exact(Lf6 hi hh).2 (h0 i hi)
end Go.Proofs.YtahohahjnhfedaaGreatDoor
/- box.two, box.Hull, law16.straight. -/
namespace Go.Proofs.YtahohahjnhfedaaGreatDoor
open Go Go.SX
def Lc9 (a b:List Iv):Prop:=a.length=b.length∧Cn7 a∧Cn7 b
instance (a b:List Iv):Decidable (Lc9 a b):=by unfold Lc9;infer_instance
theorem Lh4 {W0:PW} {M:Nat→Prop} {sa sb:Sl} {a b:List Iv} {k:Nat} (ha:Bc3 141 W0 sa a) (hb:Bc3 141 W0 sb b) (ka: ∀y∈a,IvS k y) (kb: ∀y∈b,IvS k y) (hk:k≤1000000) (la:a.length≤1048576) (lb:b.length≤1048576):
  Aa0 Tryz.prog 37 [sa.v,sb.v] W0 M fun v W'=>v = .bool (decide (Lc9 a b))∧True:=by
 apply Lf1
 have n1:=ha.n
 have n2:=hb.n
 have no:¬Lc9 a b→Value.bool false = .bool (decide (Lc9 a b))∧True:=fun hno=>⟨by rw[decide_eq_false hno],trivial⟩
 refine⟨fun he=>?_,fun he W9 _=>no fun ok=>he (by have:=ok.1;omega)⟩
 refine Cm2 ha ka (by omega) la fun W2 hE2 _=>⟨_,rfl,fun b1=>?_,fun b1 W _=>no fun ok=>of_decide_eq_false b1 ok.2.1⟩
 refine Cm2 (hb.ext hE2) kb (by omega) lb fun W5 hE5 _=>⟨_,rfl,fun W7 _=>⟨?_,trivial⟩⟩
 congr 1
 rw[decide_eq_decide]
 exact⟨fun h=>⟨by omega,of_decide_eq_true b1,h⟩,fun h=>h.2.2⟩
theorem Lf3 {W0 W:PW} {M:Nat→Prop} {sa sb:Sl} {a b:List Iv} {k:Nat} {K:Value→PW→Prop} (ha:Bc3 141 W sa a) (hb:Bc3 141 W sb b) (ka: ∀y∈a,IvS k y) (kb: ∀y∈b,IvS k y) (hk:k≤1000000) (la:a.length≤1048576) (lb:b.length≤1048576) (kont: ∀(W':PW),Ext W W'→(True)→K (.bool (decide (Lc9 a b))) W'):
  Aa1 Tryz.prog W0 M 37 [sa.v,sb.v] W K:=
 Aa2 (fun W' hE=>Lh4 (M:=fun _=>False) (ha.ext hE) (hb.ext hE) ka kb hk la lb) (fun W' v W'' hE hE' hP=>by
  obtain⟨rfl,h⟩:=hP
  exact kont W'' (hE.trans hE') h)
def hlI (W0:PW) (a b:List Iv) (L:List PL) (W:PW):Prop:=match L with
 | [.row l,.val (.int .i64 i)]=>∃j:Nat,i=(j:Int)∧j≤a.length∧Ext W0 W∧An5 (SpV 141 W) l ((List.range j).map fun i=>Bu9 (Bm3 a i) (Bm3 b i))
 | _=>False
def Lk7 (n:Nat) (L:List PL) (_:PW):Nat:=match L with
 | [_,.val (.int .i64 i)]=>n-i.toNat
 | _=>0
theorem Lg7 {W0:PW} {M:Nat→Prop} {sa sb:Sl} {a b:List Iv} {k:Nat} (ha:Bc3 141 W0 sa a) (hb:Bc3 141 W0 sb b) (ka: ∀y∈a,IvS k y) (kb: ∀y∈b,IvS k y) (hk:k≤1000000) (la:a.length≤1048576) (lb:b.length≤1048576):
  Aa0 Tryz.prog 12 [sa.v,sb.v] W0 M fun v W'=>∃(s1:Sl),v = .tuple ⟨[Sl.v s1,.bool (decide (Lc9 a b))]⟩∧(Lc9 a b→Bc3 141 W' s1 (Le5 a b)):=by
 apply Le6
 have n1:=ha.n
 have n2:=hb.n
 refine Lf3 ha hb ka kb hk la lb fun W2 hE2 _=>⟨_,rfl,fun b1 W4 _=>?_,fun b1=>?_⟩
 ·have hno:¬Lc9 a b:=by simpa using b1
  exact⟨⟨none,0,0⟩,by rw[decide_eq_false hno],fun ok=>absurd ok hno⟩
 have ok:Lc9 a b:=by simpa using b1
 have hlen:=ok.1
 refine⟨hlI W2 a b,Lk7 a.length,⟨0,rfl,Nat.zero_le _,Ext.refl _,trivial⟩,?_⟩
 rintro l7 i8 W9 ⟨j,rfl,hj,hE9,hal⟩
 have hl:=hal.len
 rw[List.length_map,List.length_range] at hl
 have E9:=hE2.trans hE9
 refine⟨fun hlt=>?_,fun hge s30 W31 hE31 hO31 _ W32 hE32=>⟨s30,by rw[decide_eq_true ok],fun _=>?_⟩⟩
 ·have hja:j<a.length:=by omega
  have hjb:j<b.length:=by omega
  obtain⟨y,⟨s10,b11,s12,s13,b14,s15,rfl,v1,v2⟩,el1⟩:=(ha.ext E9).at hja
  obtain⟨y',⟨s16,b17,s18,s19,b20,s21,rfl,v3,v4⟩,el2⟩:=(hb.ext E9).at hjb
  have z1:=ka _ (List.getElem_mem hja)
  have z2:=kb _ (List.getElem_mem hjb)
  rw[←Fi1] at v1 v2 v3 v4 z1 z2
  refine⟨(ha.ext E9).inB (by omega) (by omega),s10,b11,s12,s13,b14,s15,el1 0 rfl,(hb.ext E9).inB (by omega) (by omega),s16,b17,s18,s19,b20,s21,el2 0 rfl,?_⟩
  refine Cn9 (SpV.mk v1 v2) (SpV.mk v3 v4) z1 z2 (by omega) fun l W23 hE23 h23=>h23.out fun s24 b25 s26 s27 b28 s29 h23=>⟨by simp only[List.length_cons,List.length_nil];omega,by unfold I64;omega,⟨j+1,by push_cast;rfl,by omega,hE9.trans hE23,?_⟩,?_⟩
  ·rw[List.range_succ,List.map_append]
   exact(hal.mono fun _ _ h=>h.ext hE23).append ⟨h23,trivial⟩
  ·show a.length-Int.toNat ((j:Int)+1)<a.length-Int.toNat (j:Int)
   omega
 ·have:j=a.length:=by omega
  subst this
  exact Bc3.ext ⟨l7,⟨_,hO31.row⟩,hal.mono fun _ _ h=>h.ext hE31⟩ hE32
theorem Le7 {W0 W:PW} {M:Nat→Prop} {sa sb:Sl} {a b:List Iv} {k:Nat} {K:Value→PW→Prop} (ha:Bc3 141 W sa a) (hb:Bc3 141 W sb b) (ka: ∀y∈a,IvS k y) (kb: ∀y∈b,IvS k y) (hk:k≤1000000) (la:a.length≤1048576) (lb:b.length≤1048576) (kont: ∀(s1:Sl) (W':PW),Ext W W'→((Lc9 a b→Bc3 141 W' s1 (Le5 a b)))→K (.tuple ⟨[Sl.v s1,.bool (decide (Lc9 a b))]⟩) W'):
  Aa1 Tryz.prog W0 M 12 [sa.v,sb.v] W K:=
 Aa2 (fun W' hE=>Lg7 (M:=fun _=>False) (ha.ext hE) (hb.ext hE) ka kb hk la lb) (fun W' v W'' hE hE' hP=>by
  obtain⟨s1,rfl,h⟩:=hP
  exact kont s1 W'' (hE.trans hE') h)
def Le8 (n:Nat→Rat) (m:Nat):List Rat:=(List.range m).map n
theorem Lc4 (n:Nat→Rat) (m:Nat):(Le8 n m).length=m:=by unfold Le8;rw[List.length_map,List.length_range]
theorem Lf4 {n:Nat→Rat} {m i:Nat} (h:i<(Le8 n m).length):(Le8 n m)[i]=n i:=by
 have e:(Le8 n m)[i]?=some (n i):=by
  unfold Le8
  rw[List.getElem?_map,List.getElem?_range (by rw[Lc4] at h;exact h)]
  rfl
 rw[List.getElem?_eq_getElem h] at e
 exact Option.some.inj e
def stI (W0:PW) (n:Nat→Rat) (m:Nat) (L:List PL) (W:PW):Prop:=match L with
 | [.row l,.val (.int .i64 i)]=>∃j:Nat,i=(j:Int)∧j≤m∧Ext W0 W∧An5 (Gx4 141 127 W) l (Lc5 n j)
 | _=>False
theorem Ld7 {W0:PW} {M:Nat→Prop} {s:Sl} {n:Nat→Rat} {m:Nat} (h:Hq6 141 W0 s (Le8 n m)) (hn: ∀i,i<m→Sz 4 (n i)) (hm:m≤1000):
  Aa0 Tryz.prog 9 [s.v] W0 M fun v W'=>∃(s1:Sl),v=Sl.v s1∧Ps W' s1 (Lc5 n m):=by
 apply Lc8
 have n1:=h.n
 rw[Lc4] at n1
 refine⟨stI W0 n m,Lk7 m,⟨0,rfl,Nat.zero_le _,Ext.refl _,trivial⟩,?_⟩
 rintro l3 i4 W5 ⟨j,rfl,hj,hE5,hal⟩
 have hl:=hal.len
 rw[Lc3] at hl
 refine⟨fun hlt=>?_,fun hge s12 W13 hE13 hO13 _ W14 hE14=>⟨s12,rfl,?_⟩⟩
 ·have hjm:j<m:=by omega
  have hjl:j<(Le8 n m).length:=by rw[Lc4];exact hjm
  obtain⟨y,⟨s6,b7,s8,rfl,v1⟩,el1⟩:=(h.ext hE5).at hjl
  rw[Lf4] at v1
  refine⟨(h.ext hE5).inB (by omega) (by omega),s6,b7,s8,el1 0 rfl,?_⟩
  refine Gf5 v1 (hn j hjm) (by omega) fun s11 W10 hE10 h10=>⟨s11,rfl,by simp only[List.length_cons,List.length_nil];omega,by unfold I64;omega,⟨j+1,by push_cast;rfl,by omega,hE5.trans hE10,?_⟩,?_⟩
  ·rw[Lh2]
   exact(hal.mono fun _ _ h=>h.ext hE10).append ⟨⟨s11,rfl,h10⟩,trivial⟩
  ·show m-Int.toNat ((j:Int)+1)<m-Int.toNat (j:Int)
   omega
 ·have:j=m:=by omega
  subst this
  exact Gf4.ext ⟨l3,⟨_,hO13.row⟩,hal.mono fun _ _ h=>h.ext hE13⟩ hE14
theorem Ld2 {W0 W:PW} {M:Nat→Prop} {s:Sl} {n:Nat→Rat} {m:Nat} {K:Value→PW→Prop} (h:Hq6 141 W s (Le8 n m)) (hn: ∀i,i<m→Sz 4 (n i)) (hm:m≤1000) (kont: ∀(s1:Sl) (W':PW),Ext W W'→(Ps W' s1 (Lc5 n m))→K (Sl.v s1) W'):
  Aa1 Tryz.prog W0 M 9 [s.v] W K:=
 Aa2 (fun W' hE=>Ld7 (M:=fun _=>False) (h.ext hE) hn hm) (fun W' v W'' hE hE' hP=>by
  obtain⟨s1,rfl,h⟩:=hP
  exact kont s1 W'' (hE.trans hE') h)
end Go.Proofs.YtahohahjnhfedaaGreatDoor
/- cincturelaw8.PolyLeibniz. -/
namespace Go.Proofs.YtahohahjnhfedaaGreatDoor
open Go Go.SX
theorem Fz3 {W0:PW} {M:Nat→Prop} {n lo hi:Int} (h0: -1000000≤lo) (h1:lo≤hi) (h2:hi≤1000000):
  Aa0 Tryz.prog 8 [.int .i64 n,.int .i64 lo,.int .i64 hi] W0 M fun v W'=>∃(k:Int),v = .int .i64 k∧lo≤k∧k≤hi:=by
 apply Fy2
 have hb:(Int.tmod n (hi-lo+1)).natAbs<(hi-lo+1).natAbs:=by
  rw[Int.natAbs_tmod]
  exact Nat.mod_lt _ (by omega)
 exact⟨by unfold I64;omega,by unfold I64;omega,by omega,fun h=>⟨by unfold I64;omega,by unfold I64;omega,by unfold I64;omega,by unfold I64;omega,fun W1 _=>⟨_,rfl,by omega,by omega⟩⟩,fun h=>⟨by unfold I64;omega,fun W2 _=>⟨_,rfl,by omega,by omega⟩⟩⟩
theorem Fy4 {W0 W:PW} {M:Nat→Prop} {n lo hi:Int} {K:Value→PW→Prop} (h0: -1000000≤lo) (h1:lo≤hi) (h2:hi≤1000000) (kont: ∀(k:Int) (W':PW),Ext W W'→(lo≤k∧k≤hi)→K (.int .i64 k) W'):
  Aa1 Tryz.prog W0 M 8 [.int .i64 n,.int .i64 lo,.int .i64 hi] W K:=
 Aa2 (fun W' hE=>Fz3 (M:=fun _=>False) h0 h1 h2) (fun W' v W'' hE hE' hP=>by
  obtain⟨k,rfl,h⟩:=hP
  exact kont k W'' (hE.trans hE') h)
end Go.Proofs.YtahohahjnhfedaaGreatDoor
/- Arguments opened: what every kind of argument needs. -/
namespace Go.Proofs.YtahohahjnhfedaaGreatDoor
open Go Go.SX Go.ChangeShapes Go.WideShapes Go.ChangeAt Go.RowKit Go.Deep
theorem Cp9:ownKnob Tryz.prog.godebug=none:=by kernel_rfl
theorem laidOut:laidOutB Tryz.prog=true:=by kernel_rfl
theorem Ct5:Tryz.prog.cellsOf 9=1:=by kernel_rfl
theorem Cf4 {W:World} {b o:Nat} {v:Value} (h:W.cell? ⟨b,o,none⟩=some v): ∃cs t fz,W.heap[b]?=some (.cells cs t fz)∧cs[o]?=some v:=by
 unfold World.cell? at h
 cases e:W.heap[b]? with
 | none=>simp[e] at h
 | some ob=>
  cases ob with
  | cells cs t fz=>exact⟨cs,t,fz,rfl,by simpa[e] using h⟩
  | _=>simp[e] at h
theorem Ev9 {H:Type} (d:DataW H):1≤Rows.uptoBulk d:=by
 cases d with
 | lit l=>cases l<;>simp[Rows.uptoBulk]
 | nil=>simp[Rows.uptoBulk]
 | ptr d=>simp[Rows.uptoBulk]
 | slice elems spare=>simp[Rows.uptoBulk]
 | agg parts=>simp[Rows.uptoBulk]
 | iface t d=>simp[Rows.uptoBulk]
 | map entries=>simp[Rows.uptoBulk]
 | held h=>simp[Rows.uptoBulk]
theorem Eo6 {H:Type} {d:DataW H} {l:List (DataW H)} (h:d∈l):Rows.uptoBulk d≤Rows.uptoBulkAll l:=by
 induction l with
 | nil=>cases h
 | cons x r ih=>
  simp only[Rows.uptoBulkAll]
  cases List.mem_cons.1 h with
  | inl e=>subst e;omega
  | inr e=>have:=ih e;omega
theorem Dj1 {H:Type} (l:List (DataW H)):l.length≤Rows.uptoBulkAll l:=by
 induction l with
 | nil=>simp[Rows.uptoBulkAll]
 | cons x r ih=>have:=Ev9 x;simp only[Rows.uptoBulkAll,List.length_cons];omega
theorem Bz7 {W:World} {a:Addr} {n c sz:Nat} {V:Nat→List Value} (h: ∀j,j<n→∀i v,(V j)[i]?=some v→W.cell? (a.add (j*sz+i))=some v) (hV: ∀j,j<n→(V j).length=sz) (hsz:0<sz) (hn:n≤c) (hc:c≤maxLen) (h1: ∀j,j<n→∀u∈V j,u.oneCell'=true):
  Bf9 ⟨W,fun _=>False⟩ sz ⟨some a,n,c⟩ ((List.range n).map V):=by
 have hel: ∀x∈(List.range n).map V,x.length=sz∧∀u∈x,u.oneCell'=true:=by
  intro x hx
  obtain⟨j,hj,rfl⟩:=List.mem_map.1 hx
  exact⟨hV j (List.mem_range.1 hj),h1 j (List.mem_range.1 hj)⟩
 by_cases h0:n=0
 ·subst h0
  exact⟨0,rfl,Nat.zero_le _,hc,hel,.inl rfl⟩
 ·obtain⟨b,off,sp⟩:=a
  have hlen0:=hV 0 (by omega)
  obtain⟨v0,hv0⟩: ∃v,(V 0)[0]?=some v:=⟨_,List.getElem?_eq_getElem (by omega)⟩
  have hc0:=h 0 (by omega) 0 v0 hv0
  have hsp:sp=none:=by simpa[Addr.add] using World.cell?_spot hc0
  subst hsp
  obtain⟨cs,t,fz,hh,_⟩:=Cf4 (by rw[←add_plain];exact hc0)
  refine⟨t,by simp,hn,hc,hel,.inr ⟨b,off,cs,fz,rfl,id,hh,fun j v hj=>?_⟩⟩
  have hjl:=(List.getElem?_eq_some_iff.1 hj).1
  rw[Ac0 (sz:=sz) (fun x hx=>(hel x hx).1)] at hjl
  simp only[List.length_map,List.length_range] at hjl
  have hi:j/sz<n:=(Nat.div_lt_iff_lt_mul hsz).2 hjl
  have hm:j%sz<sz:=Nat.mod_lt _ hsz
  have e:j/sz*sz+j%sz=j:=by rw[Nat.mul_comm];exact Nat.div_add_mod j sz
  have hx:((List.range n).map V)[j/sz]?=some (V (j/sz)):=by simp[hi]
  have hl:=hV _ hi
  have hf:=Ao8 (sz:=sz) (fun x hx=>(hel x hx).1) hx (j:=j%sz) (v:=(V (j/sz))[j%sz]'(by omega)) (List.getElem?_eq_getElem (by omega))
  rw[e,hj] at hf
  have hcell:=h _ hi (j%sz) v (by rw[hf];exact List.getElem?_eq_getElem (by omega))
  rw[e,add_plain] at hcell
  obtain⟨cs',t',fz',hh',hv⟩:=Cf4 hcell
  rw[hh] at hh'
  cases hh'
  exact hv
theorem Ig6 {W:World} {a:Addr} {n c:Nat} {V:Nat→Value} (h: ∀j,j<n→W.cell? (a.add j)=some (V j)) (hn:n≤c) (hc:c≤maxLen) (h1: ∀j,j<n→(V j).oneCell'=true):Bf9 ⟨W,fun _=>False⟩ 1 ⟨some a,n,c⟩ ((List.range n).map fun j=>[V j]):=by
 have hel: ∀x∈(List.range n).map (fun j=>[V j]),x.length=1∧∀u∈x,u.oneCell'=true:=by
  intro x hx
  obtain⟨j,hj,rfl⟩:=List.mem_map.1 hx
  exact⟨rfl,fun u hu=>by rw[List.mem_singleton.1 hu];exact h1 j (List.mem_range.1 hj)⟩
 by_cases h0:n=0
 ·subst h0
  exact⟨0,rfl,Nat.zero_le _,hc,hel,.inl rfl⟩
 ·obtain⟨b,off,sp⟩:=a
  have hsp:sp=none:=by simpa[Addr.add] using World.cell?_spot (h 0 (by omega))
  subst hsp
  have h': ∀j,j<n→W.cell? ⟨b,off+j,none⟩=some (V j):=fun j hj=>by rw[←add_plain];exact h j hj
  obtain⟨cs,t,fz,hh,_⟩:=Cf4 (h' 0 (by omega))
  refine⟨t,by simp,hn,hc,hel,.inr ⟨b,off,cs,fz,rfl,id,hh,fun j v hj=>?_⟩⟩
  have e:((List.range n).map fun j=>[V j]).flatten=(List.range n).map V:=by
   rw[←List.flatMap_def]
   generalize List.range n=l
   induction l with
   | nil=>rfl
   | cons y r ih=>simp[List.flatMap_cons,ih]
  rw[e] at hj
  have hjn:j<n:=by
   have:=(List.getElem?_eq_some_iff.1 hj).1
   simpa using this
  obtain⟨cs',t',fz',hh',hv⟩:=Cf4 (h' j hjn)
  rw[hh] at hh'
  cases hh'
  simp[hjn] at hj
  rw[←hj]
  exact hv
end Go.Proofs.YtahohahjnhfedaaGreatDoor
/- Arguments of pairs of texts, opened. -/
namespace Go.Proofs.YtahohahjnhfedaaGreatDoor
open Go Go.SX Go.ChangeShapes Go.WideShapes Go.ChangeAt Go.RowKit Go.Deep
theorem Cf7:Tryz.prog.cellsOf 98=2:=by kernel_rfl
theorem open_pair {H:Type} {enc:TypeId×Value→H} {W:World} {fuel:Nat} {cs:List Value} {x:DataW H×List MemPlace} (h:DataW.trod enc Tryz.prog W 0 (fun _=>true) true fuel 98 cs=some x):
  ∃a b:ByteArray,cs = [.string a,.string b]∧a.size≤Rows.uptoBulk x.1∧b.size≤Rows.uptoBulk x.1:=by
 obtain⟨xs,k,rfl,rfl,hl,hxl,hf⟩:=DataW.trod_struct Tryz.underlying98 h
 rw[Cf7] at hl
 have g0:DataW.trod enc Tryz.prog W 0 (fun _=>true) true k 9 ((cs.drop 0).take (Tryz.prog.cellsOf 9))=xs[0]?:=hf 0 _ rfl
 have g1:DataW.trod enc Tryz.prog W 0 (fun _=>true) true k 9 ((cs.drop 1).take (Tryz.prog.cellsOf 9))=xs[1]?:=hf 1 _ rfl
 rw[Ct5] at g0 g1
 match cs,hl,xs,hxl with
 | [v0,v1],_,[y0,y1],_=>
  have g0:DataW.trod enc Tryz.prog W 0 (fun _=>true) true k 9 [v0]=some y0:=g0
  have g1:DataW.trod enc Tryz.prog W 0 (fun _=>true) true k 9 [v1]=some y1:=g1
  obtain⟨s0,h0,rfl,_⟩:=DataW.trod_string Tryz.underlying9 g0
  obtain⟨s1,h1,rfl,_⟩:=DataW.trod_string Tryz.underlying9 g1
  have k0:v0=Value.string s0:=(List.cons.inj (show[v0] = [Value.string s0] from h0)).1
  have k1:v1=Value.string s1:=(List.cons.inj (show[v1] = [Value.string s1] from h1)).1
  subst k0 k1
  refine⟨s0,s1,rfl,?_⟩
  have e0:s0.data.toList.length=s0.size:=by rw[Array.length_toList];rfl
  have e1:s1.data.toList.length=s1.size:=by rw[Array.length_toList];rfl
  simp only[List.map_cons,List.map_nil,Rows.uptoBulk,Rows.uptoBulkAll]
  omega
def prc (t:ByteArray×ByteArray):List Value:=[.string t.1,.string t.2]
def Bs7 (W:PW) (s:Sl) (L:List (ByteArray×ByteArray)):Prop:=Bf9 W 2 s (L.map prc)
theorem Gc9 {H:Type} {enc:TypeId×Value→H} {W:World} {fuel:Nat} {v:Value} {d:DataW H} {p:List MemPlace} (h:DataW.trod enc Tryz.prog W 0 (fun _=>true) true fuel 23 [v]=some (d,p)):
  ∃(s:Sl) (L:List (ByteArray×ByteArray)),v=s.v∧Bs7 ⟨W,fun _=>False⟩ s L∧L.length≤Rows.uptoBulk d∧∀t∈L,t.1.size≤Rows.uptoBulk d∧t.2.size≤Rows.uptoBulk d:=by
 rcases open_slice Tryz.underlying23 h with⟨hcs,hx⟩ | ⟨a,len,cap,m,n,D,Pl,hcs,_,hl,hm,hmm,hx,hcell⟩
 ·have hv:v = .slice none 0 0:=by simpa using hcs
  subst hv
  exact⟨⟨none,0,0⟩,[],rfl,⟨0,rfl,Nat.le_refl _,Nat.zero_le _,fun x h=>by simp at h,.inl rfl⟩,Nat.zero_le _,fun l h=>by simp at h⟩
 ·have hv:v = .slice (some a) len cap:=by simpa using hcs
  subst hv
  simp only[if_true] at hmm
  subst hmm
  simp only[Prod.mk.injEq] at hx
  obtain⟨rfl,_⟩:=hx
  rw[Cf7] at hcell
  obtain⟨q,hq⟩: ∃q:Nat→ByteArray×ByteArray,∀i,i<m→W.cells? 0 (a.add (i*2)) 2=some (prc (q i))∧(q i).1.size≤Rows.uptoBulk (D i)∧(q i).2.size≤Rows.uptoBulk (D i):=by
   have:Inhabited (ByteArray×ByteArray):=⟨(⟨#[]⟩,⟨#[]⟩)⟩
   refine choose_lt (α:=ByteArray×ByteArray) (p:=fun i q=>W.cells? 0 (a.add (i*2)) 2=some (prc q)∧q.1.size≤Rows.uptoBulk (D i)∧q.2.size≤Rows.uptoBulk (D i)) fun i hi=>?_
   obtain⟨cs',h1,h2⟩:=hcell i hi
   obtain⟨x,y,rfl,h3,h4⟩:=open_pair h2
   exact⟨(x,y),h1,h3,h4⟩
  have hr:=Bz7 (W:=W) (a:=a) (n:=len) (c:=m) (sz:=2) (V:=fun i=>prc (q i)) (fun j hj i v hv=>by
   obtain⟨_,hlen,hc⟩:=World.cells?_some (hq j (by omega)).1
   have hi:i<2:=by have:=(List.getElem?_eq_some_iff.1 hv).1;omega
   have:=hc i hi
   rw[add_add] at this
   rw[this];exact hv) (fun j hj=>rfl) (by omega) hl hm (fun j hj u hu=>by
   simp only[prc,List.mem_cons,List.not_mem_nil,or_false] at hu
   rcases hu with rfl | rfl<;>rfl)
  have hbulk: ∀i,i<len→Rows.uptoBulk (D i)≤Rows.uptoBulkAll ((List.range len).map D):=fun i hi=>Eo6 (List.mem_map.2 ⟨i,List.mem_range.2 hi,rfl⟩)
  have hlen:=Dj1 ((List.range len).map D)
  simp only[List.length_map,List.length_range] at hlen
  refine⟨⟨some a,len,m⟩,(List.range len).map q,rfl,?_,?_,fun t ht=>?_⟩
  ·unfold Bs7
   rw[List.map_map]
   exact hr
  ·simp only[List.length_map,List.length_range,Rows.uptoBulk]
   omega
  ·obtain⟨j,hj,rfl⟩:=List.mem_map.1 ht
   have hj':=List.mem_range.1 hj
   have h1:=hbulk j hj'
   have h2:=(hq j (by omega)).2
   simp only[Rows.uptoBulk]
   omega
end Go.Proofs.YtahohahjnhfedaaGreatDoor
/- span.Parse, cinctureref1.SpanParse; cincturelaw5.Is, Of. -/
namespace Go.Proofs.YtahohahjnhfedaaGreatDoor
open Go Go.SX
def spP (a b:ByteArray):Option Iv:=match Ab7 a,Ab7 b with
 | some p,some q=>if p≤q then some (p,q) else none
 | _,_=>none
theorem Dp3 {a b:ByteArray} {x:Iv} (h:spP a b=some x):Ab7 a=some x.1∧Ab7 b=some x.2∧x.1≤x.2:=by
 unfold spP at h
 cases ha:Ab7 a with
 | none=>rw[ha] at h;cases h
 | some p=>
  cases hb:Ab7 b with
  | none=>rw[ha,hb] at h;cases h
  | some q=>
   rw[ha,hb] at h
   dsimp only at h
   split at h
   ·cases h;exact⟨rfl,rfl,by assumption⟩
   ·cases h
theorem Bg2 {α:Type} {o:Option α} :er o=0↔o.isSome=true:=by
 unfold er
 cases o<;>simp
theorem At4 {a:ByteArray} :Sz 4000 ((Ab7 a).getD 0):=by
 cases h:Ab7 a with
 | none=>exact Sz.zero (by omega)
 | some q=>exact(Aw6 h).1
theorem Cq2 {W0:PW} {M:Nat→Prop} {a b:ByteArray} (ha:a.size≤1099511627776) (hb:b.size≤1099511627776):
  Aa0 Tryz.prog 92 [.agg ⟨[.string a,.string b]⟩] W0 M fun v W'=>∃(l:List Value),∃(e:Int),v = .tuple ⟨[.agg ⟨l⟩,.int .i64 e]⟩∧SpV 141 W' l ((spP a b).getD (0,0))∧(e=0↔(spP a b).isSome=true):=by
 apply Bz8
 refine As8 ha fun s3 b4 s5 W2 hE2 h2=>⟨s3,b4,s5,_,rfl,fun hne W7 hE7=>?_,fun heq=>?_⟩
 ·have hn:Ab7 a=none:=by
   cases h:Ab7 a with
   | none=>rfl
   | some q=>exact absurd (Bg2.2 (by rw[h];rfl)) hne
  have hs:spP a b=none:=by unfold spP;rw[hn]
  refine⟨_,_,rfl,by rw[hs];exact SpV.zero W7,?_⟩
  rw[hs,Bg2,hn];simp
 ·have h1:=Bg2.1 (Decidable.not_not.1 heq)
  obtain⟨p,hp⟩:=Option.isSome_iff_exists.1 h1
  refine As8 hb fun s10 b11 s12 W9 hE9 h9=>⟨s10,b11,s12,_,rfl,fun hne W14 hE14=>?_,fun heq2=>?_⟩
  ·have hn:Ab7 b=none:=by
    cases h:Ab7 b with
    | none=>rfl
    | some q=>exact absurd (Bg2.2 (by rw[h];rfl)) hne
   have hs:spP a b=none:=by unfold spP;rw[hp,hn]
   refine⟨_,_,rfl,by rw[hs];exact SpV.zero W14,?_⟩
   rw[hs,Bg2,hn];simp
  ·have h3:=Bg2.1 (Decidable.not_not.1 heq2)
   obtain⟨q,hq⟩:=Option.isSome_iff_exists.1 h3
   have z1:=At4 (a:=a)
   have z2:=At4 (a:=b)
   refine Cq7 (h2.ext hE9) h9 z1 z2 (by omega) fun l W16 hE16 h16=>?_
   rw[hp,hq] at h16⊢
   simp only[Option.getD_some] at h16⊢
   have hs:spP a b=if p≤q then some (p,q) else none:=by unfold spP;rw[hp,hq]
   obtain⟨s17,b18,s19,s20,b21,s22,rfl,k1,k2⟩:=h16
   refine⟨s17,b18,s19,s20,b21,s22,_,rfl,fun hno W24 hE24=>?_,fun hyes W25 hE25=>?_⟩
   ·have hno:¬p≤q:=by simpa using hno
    rw[hs,if_neg hno]
    exact⟨_,_,rfl,SpV.zero W24,by decide⟩
   ·have hyes:p≤q:=by simpa using hyes
    rw[if_pos hyes] at k1 k2
    rw[hs,if_pos hyes]
    exact⟨_,_,rfl,SpV.mk (x:=(p,q)) (k1.ext hE25) (k2.ext hE25),by simp⟩
theorem Az3 {W0 W:PW} {M:Nat→Prop} {a b:ByteArray} {K:Value→PW→Prop} (ha:a.size≤1099511627776) (hb:b.size≤1099511627776) (kont: ∀(l:List Value) (e:Int) (W':PW),Ext W W'→(SpV 141 W' l ((spP a b).getD (0,0))∧(e=0↔(spP a b).isSome=true))→K (.tuple ⟨[.agg ⟨l⟩,.int .i64 e]⟩) W'):
  Aa1 Tryz.prog W0 M 92 [.agg ⟨[.string a,.string b]⟩] W K:=
 Aa2 (fun W' hE=>Cq2 (M:=fun _=>False) ha hb) (fun W' v W'' hE hE' hP=>by
  obtain⟨l,e,rfl,h⟩:=hP
  exact kont l e W'' (hE.trans hE') h)
theorem Bp7 {W0:PW} {M:Nat→Prop} {a b:ByteArray} (ha:a.size≤1099511627776) (hb:b.size≤1099511627776):
  Aa0 Tryz.prog 47 [.agg ⟨[.string a,.string b]⟩] W0 M fun v W'=>∃(l:List Value),∃(e:Int),v = .tuple ⟨[.agg ⟨l⟩,.int .i64 e]⟩∧Ah6 141 W' l ((spP a b).getD (0,0))∧(e=0↔(spP a b).isSome=true):=by
 apply Be5
 refine An7 ha fun b3 s4 s5 W2 hE2 h2=>⟨b3,s4,s5,_,rfl,An7 hb fun b9 s10 s11 W8 hE8 h8=>⟨b9,s10,s11,_,rfl,fun hno W13 hE13=>?_,fun hyes=>⟨fun hno W14 hE14=>?_,fun hyes2=>?_⟩⟩⟩
 ·have hn:Ab7 a=none:=by simpa using hno
  have hs:spP a b=none:=by unfold spP;rw[hn]
  rw[hs]
  exact⟨_,_,rfl,Ah6.zero W13,by decide⟩
 ·have hn:Ab7 b=none:=by simpa using hno
  have hs:spP a b=none:=by unfold spP;cases Ab7 a<;>rw[hn]
  rw[hs]
  exact⟨_,_,rfl,Ah6.zero W14,by decide⟩
 ·obtain⟨p,hp⟩:=Option.isSome_iff_exists.1 (show(Ab7 a).isSome=true by simpa using hyes)
  obtain⟨q,hq⟩:=Option.isSome_iff_exists.1 (show(Ab7 b).isSome=true by simpa using hyes2)
  have z1:=At4 (a:=a)
  have z2:=At4 (a:=b)
  have hs:spP a b=if p≤q then some (p,q) else none:=by unfold spP;rw[hp,hq]
  rw[hp] at h2 z1
  rw[hq] at h8 z2
  simp only[Option.getD_some] at h2 h8 z1 z2
  refine Ar1 (h2.ext hE8) h8 z1 z2 (by omega) (by omega) fun W16 hE16 _=>⟨_,rfl,fun hgt W18 hE18=>?_,fun hle W19 hE19=>?_⟩
  ·have h:¬p≤q:=Rat.not_le.2 (Al3.1 hgt)
   rw[hs,if_neg h]
   exact⟨_,_,rfl,Ah6.zero W18,by decide⟩
  ·have h:p≤q:=Rat.not_lt.1 fun e=>hle (Al3.2 e)
   rw[hs,if_pos h]
   exact⟨_,_,rfl,Ah6.mk (x:=(p,q)) (h2.ext (hE8.trans (hE16.trans hE19))) (h8.ext (hE16.trans hE19)),by simp⟩
theorem Bh8 {W0 W:PW} {M:Nat→Prop} {a b:ByteArray} {K:Value→PW→Prop} (ha:a.size≤1099511627776) (hb:b.size≤1099511627776) (kont: ∀(l:List Value) (e:Int) (W':PW),Ext W W'→(Ah6 141 W' l ((spP a b).getD (0,0))∧(e=0↔(spP a b).isSome=true))→K (.tuple ⟨[.agg ⟨l⟩,.int .i64 e]⟩) W'):
  Aa1 Tryz.prog W0 M 47 [.agg ⟨[.string a,.string b]⟩] W K:=
 Aa2 (fun W' hE=>Bp7 (M:=fun _=>False) ha hb) (fun W' v W'' hE hE' hP=>by
  obtain⟨l,e,rfl,h⟩:=hP
  exact kont l e W'' (hE.trans hE') h)
end Go.Proofs.YtahohahjnhfedaaGreatDoor
/- law6.Raw and law13.Squares. -/
namespace Go.Proofs.YtahohahjnhfedaaGreatDoor
open Go Go.SX
theorem Ha0 {a:ByteArray} {q:Rat} (h:Gp3 a=some q):Sz 11 q:=by
 unfold Gp3 at h
 split at h
 ·rename_i hs
  exact Du4 h hs (by decide) (by decide)
 ·cases h
end Go.Proofs.YtahohahjnhfedaaGreatDoor
/- Layings of the library's generic functions, as the kit's command says them. -/
namespace Go.Proofs.YtahohahjnhfedaaGreatDoor
open Go Go.Shelf Go.Proofs
def Dm9:Go.Shelf.Ren:=⟨fun | 28=>152 | n=>n,fun | 27=>141 | 3=>3 | 4=>4 | 25=>148 | 53=>231 | 0=>0 | 5=>5 | n=>n,fun | 0=>1 | n=>n⟩
theorem Ff9:Go.Proofs.Lays7.n28 Tryz.prog Dm9 where
 mixed:=by kernel_rfl
 f28:=Tryz.func152.trans (congrArg some (by kernel_rfl))
 t0:=Tryz.underlying0
 a0:=Tryz.isAgg0
 z0:=Tryz.sizeOf0
 v0:=Tryz.zeroValue0
 i0:=by kernel_rfl
 t3:=Tryz.underlying3
 a3:=Tryz.isAgg3
 z3:=Tryz.sizeOf3
 v3:=Tryz.zeroValue3
 i3:=by kernel_rfl
 t4:=Tryz.underlying4
 a4:=Tryz.isAgg4
 z4:=Tryz.sizeOf4
 v4:=Tryz.zeroValue4
 i4:=by kernel_rfl
 t5:=Tryz.underlying5
 a5:=Tryz.isAgg5
 z5:=Tryz.sizeOf5
 v5:=Tryz.zeroValue5
 i5:=by kernel_rfl
 t25:=Tryz.underlying148
 a25:=Tryz.isAgg148
 z25:=Tryz.sizeOf148
 v25:=Tryz.zeroValue148
 i25:=by kernel_rfl
 t27:=Tryz.underlying141
 a27:=Tryz.isAgg141
 z27:=Tryz.sizeOf141
 v27:=Tryz.zeroValue141
 i27:=by kernel_rfl
 t53:=Tryz.underlying231
 a53:=Tryz.isAgg231
 z53:=Tryz.sizeOf231
 v53:=Tryz.zeroValue231
 i53:=by kernel_rfl
 g0:=by kernel_rfl
end Go.Proofs.YtahohahjnhfedaaGreatDoor
/- The table math/bits.deBruijn32tab in memory; math/bits.TrailingZeros32. -/
namespace Go.Proofs.YtahohahjnhfedaaGreatDoor
open Go Go.SX
def Ac6 (W:PW):Prop:=(∀j,j<32→W.w.cell? ⟨1,j,none⟩=some (.int .u8 ((Go.Lib.deBruijn32tab.getD j 0:Nat):Int)))∧1<W.w.heap.size∧¬W.S 1
theorem Ac6.ext {W W':PW} (h:Ac6 W) (hE:Ext W W'):Ac6 W':=by
 have hk:=hE.Ai1 _ h.2.1 h.2.2
 refine⟨fun j hj=>?_,Nat.lt_of_lt_of_le h.2.1 hE.size,hk.2⟩
 have:=h.1 j hj
 unfold World.cell? at this⊢
 dsimp only at this⊢
 rw[hk.1]
 exact this
theorem Fh2 {W0:PW} {M:Nat→Prop} {x:Nat} (hT:Ac6 W0) (hx:x<4294967296):
  Aa0 Tryz.prog 152 [.int .u32 (x:Int)] W0 M fun v W'=>v = .int .i64 ((Go.Lib.ctz 32 x:Nat):Int)∧True:=by
 refine⟨⟨_,Tryz.func152,by kernel_rfl,by kernel_rfl⟩,fun hS=>?_⟩
 have hcall:=Proofs.Any7.bits_TrailingZeros32 Ff9 x hx W0.w fun _ j hj=>hT.1 j hj
 change Calls Tryz.prog 152 _ _ _ at hcall
 refine Calls.mono hcall ?_
 rintro e w' ⟨rfl,rfl⟩
 exact⟨_,rfl,Am7.refl _ _,rfl,trivial⟩
theorem El3 {W0 W:PW} {M:Nat→Prop} {x:Nat} {K:Value→PW→Prop} (hT:Ac6 W) (hx:x<4294967296) (kont: ∀(W':PW),Ext W W'→(True)→K (.int .i64 ((Go.Lib.ctz 32 x:Nat):Int)) W'):
  Aa1 Tryz.prog W0 M 152 [.int .u32 (x:Int)] W K:=
 Aa2 (fun W' hE=>Fh2 (M:=fun _=>False) (hT.ext hE) hx) (fun W' v W'' hE hE' hP=>by
  obtain⟨rfl,h⟩:=hP
  exact kont W'' (hE.trans hE') h)
end Go.Proofs.YtahohahjnhfedaaGreatDoor
/- nat.Zeros, dyad.Of, box.Parse; the reference's; cincturelaw6.Of. What the dyads are is left open: only that the texts that are taken are the sides. -/
namespace Go.Proofs.YtahohahjnhfedaaGreatDoor
open Go Go.SX
theorem Fl1 (h:0<(dg 1).length):(dg 1)[0]=1:=by
 have e:dg 1 = [1]:=by rw[Bk2 (by decide),show 1/B=0 by decide,Ae8];rfl
 simp[e]
theorem Dk9 {W0:PW} {M:Nat→Prop} {s:Sl} {x:Nat} (hT:Ac6 W0) (h:Aa6 141 W0 s x) (hx:nl x≤30000):
  Aa0 Tryz.prog 126 [.agg ⟨[s.v]⟩] W0 M fun v W'=>∃(i:Int),v = .int .i64 i∧(0≤i∧i≤960032)∧(x=1→i=0):=by
 apply Bi6
 have hn:=h.n
 refine⟨fun L W=>match L with | [.val (.int .i64 z)]=>∃j:Nat,z=(j:Int)∧j≤nl x∧Ext W0 W∧(x=1→j=0) | _=>False,(fun L _=>match L with | [.val (.int .i64 z)]=>nl x-z.toNat | _=>0),⟨0,rfl,Nat.zero_le _,Ext.refl _,fun _=>rfl⟩,?_⟩
 rintro i3 W4 ⟨j,rfl,hj,hE4,hone⟩
 refine⟨fun hlt=>?_,fun hge W10 _=>⟨0,rfl,⟨by omega,by omega⟩,fun _=>rfl⟩⟩
 have hjl:j<nl x:=by omega
 have h4:=h.ext hE4
 have hll:(dg x).length=nl x:=rfl
 have hd:(dg x)[j]<4294967296:=Ad8 x _ (List.getElem_mem (l:=dg x) (n:=j) hjl)
 have hd1:x=1→(dg x)[j]=1:=fun e=>by
  have:=hone e
  subst this
  subst e
  exact Fl1 _
 refine⟨Ad4.inB h4 (by omega) (by omega),_,Ad4.at h4 hjl,fun hne=>⟨by unfold I64;omega,?_⟩,fun heq=>⟨by unfold I64;omega,⟨j+1,by push_cast;rfl,by omega,hE4,fun e=>by have:=hd1 e;omega⟩,?_⟩⟩
 ·refine El3 (hT.ext hE4) hd fun W7 hE7 _=>⟨_,rfl,?_⟩
  have hc:Go.Lib.ctz 32 (dg x)[j]≤32:=by
   by_cases h0:(dg x)[j]=0
   ·unfold Go.Lib.ctz;rw[if_pos h0];exact Nat.le_refl _
   ·exact Nat.le_of_lt (Go.Lib.lowest_bit 32 _ h0 hd).2
  refine⟨by unfold I64;omega,fun W9 hE9=>⟨_,rfl,⟨by omega,by omega⟩,fun e=>?_⟩⟩
  have c:Go.Lib.ctz 32 (dg x)[j]=0:=by rw[hd1 e];decide
  have:=hone e
  omega
 ·show nl x-Int.toNat ((j:Int)+1)<nl x-Int.toNat (j:Int)
  omega
theorem At1 {W0 W:PW} {M:Nat→Prop} {s:Sl} {x:Nat} {K:Value→PW→Prop} (hT:Ac6 W) (h:Aa6 141 W s x) (hx:nl x≤30000) (kont: ∀(i:Int) (W':PW),Ext W W'→((0≤i∧i≤960032)∧(x=1→i=0))→K (.int .i64 i) W'):
  Aa1 Tryz.prog W0 M 126 [.agg ⟨[s.v]⟩] W K:=
 Aa2 (fun W' hE=>Dk9 (M:=fun _=>False) (hT.ext hE) (h.ext hE) hx) (fun W' v W'' hE hE' hP=>by
  obtain⟨i,rfl,h⟩:=hP
  exact kont i W'' (hE.trans hE') h)
theorem En5 {W0:PW} {M:Nat→Prop} {s t:Sl} {b:Bool} {q:Rat} (h:Ab3 141 W0 s b t q):
  Aa0 Tryz.prog 128 [.agg ⟨[s.v,.bool b,t.v]⟩] W0 M fun v W'=>v = .agg ⟨[Sl.v s,.bool b]⟩∧True:=by
 apply Bs9
 exact fun W1 _=>⟨rfl,trivial⟩
theorem De2 {W0 W:PW} {M:Nat→Prop} {s t:Sl} {b:Bool} {q:Rat} {K:Value→PW→Prop} (h:Ab3 141 W s b t q) (kont: ∀(W':PW),Ext W W'→(True)→K (.agg ⟨[Sl.v s,.bool b]⟩) W'):
  Aa1 Tryz.prog W0 M 128 [.agg ⟨[s.v,.bool b,t.v]⟩] W K:=
 Aa2 (fun W' hE=>En5 (M:=fun _=>False) (h.ext hE)) (fun W' v W'' hE hE' hP=>by
  obtain⟨rfl,h⟩:=hP
  exact kont W'' (hE.trans hE') h)
theorem Eb2 {W0:PW} {M:Nat→Prop} {s:Sl} {b:Bool} {z e:Int} (hT:Ac6 W0) (h:Ab5 141 W0 s b z) (hz:nl z.natAbs≤30000) (he: -10000000≤e∧e≤10000000):
  Aa0 Tryz.prog 127 [.agg ⟨[s.v,.bool b]⟩,.int .i64 e] W0 M fun v W'=>∃(s':Sl),∃(b':Bool),∃(i:Int),v = .agg ⟨[Sl.v s',.bool b',.int .i64 i]⟩∧True:=by
 apply Da4
 refine Ai5 h (by omega) fun W2 hE2 _=>⟨_,rfl,fun _ W4 _=>⟨⟨none,0,0⟩,false,0,rfl,trivial⟩,fun _=>?_⟩
 refine Ag5 (h.ext hE2) fun s7 W6 hE6 h6=>⟨s7,rfl,?_⟩
 refine At1 (hT.ext (hE2.trans hE6)) h6 hz fun i10 W9 hE9 ⟨hi,_⟩=>⟨i10,rfl,by unfold I64;omega,?_⟩
 have E9:=hE2.trans (hE6.trans hE9)
 refine Ai5 (h.ext E9) (by omega) fun W12 hE12 _=>⟨_,rfl,?_⟩
 refine Ag5 (h.ext (E9.trans hE12)) fun s16 W15 hE15 h15=>⟨s16,rfl,?_⟩
 obtain⟨k,rfl⟩:=Int.eq_ofNat_of_zero_le hi.1
 refine Br2 h15 (by omega) (by omega) fun s19 W18 hE18 h18=>⟨s19,rfl,?_⟩
 have hsh:nl (z.natAbs/2^k)≤30000:=Nat.le_trans (Ad1 (Nat.div_le_self _ _)) hz
 refine Ad6 h18 (by omega) fun s22 b23 W21 hE21 h21=>⟨s22,b23,rfl,fun W24 _=>⟨s22,b23,_,rfl,trivial⟩⟩
theorem Cu2 {W0 W:PW} {M:Nat→Prop} {s:Sl} {b:Bool} {z e:Int} {K:Value→PW→Prop} (hT:Ac6 W) (h:Ab5 141 W s b z) (hz:nl z.natAbs≤30000) (he: -10000000≤e∧e≤10000000) (kont: ∀(s':Sl) (b':Bool) (i:Int) (W':PW),Ext W W'→(True)→K (.agg ⟨[Sl.v s',.bool b',.int .i64 i]⟩) W'):
  Aa1 Tryz.prog W0 M 127 [.agg ⟨[s.v,.bool b]⟩,.int .i64 e] W K:=
 Aa2 (fun W' hE=>Eb2 (M:=fun _=>False) (hT.ext hE) (h.ext hE) hz he) (fun W' v W'' hE hE' hP=>by
  obtain⟨s',b',i,rfl,h⟩:=hP
  exact kont s' b' i W'' (hE.trans hE') h)
theorem Ej8 {W0:PW} {M:Nat→Prop} {s t:Sl} {b:Bool} {q:Rat} (hT:Ac6 W0) (h:Ab3 141 W0 s b t q) (hq:Sz 4000 q):
  Aa0 Tryz.prog 93 [.agg ⟨[s.v,.bool b,t.v]⟩] W0 M fun v W'=>∃(s':Sl),∃(b':Bool),∃(i:Int),∃(ok:Bool),v = .tuple ⟨[.agg ⟨[Sl.v s',.bool b',.int .i64 i]⟩,.bool ok]⟩∧(q.den=1→ok=true):=by
 apply Dg7
 have hd:nl q.den≤4000:=hq.2
 refine Bc0 h hq (by omega) fun s3 b4 W2 hE2 h2=>⟨s3,b4,rfl,?_⟩
 refine Ag5 h2 fun s7 W6 hE6 h6=>⟨s7,rfl,?_⟩
 rw[Int.natAbs_natCast] at h6
 have E6:=hE2.trans hE6
 refine At1 (hT.ext E6) h6 (by omega) fun i10 W9 hE9 ⟨hi,hi1⟩=>⟨i10,rfl,?_⟩
 refine Ac9 (h6.ext hE9) (by omega) fun W12 hE12 _=>⟨_,rfl,?_⟩
 have hbl:=Dm3 q.den
 refine⟨by unfold I64;omega,fun hne W14 _=>⟨⟨none,0,0⟩,false,0,false,rfl,fun e=>absurd (by rw[hi1 e,e];decide) hne⟩,fun _=>?_⟩
 have E12:=E6.trans (hE9.trans hE12)
 refine De2 (h.ext E12) fun W16 hE16 _=>⟨s,b,rfl,?_⟩
 refine At1 (hT.ext (E12.trans hE16)) (h6.ext (hE9.trans (hE12.trans hE16))) (by omega) fun i21 W20 hE20 ⟨hi2,_⟩=>⟨i21,rfl,by unfold I64;omega,?_⟩
 refine Cu2 (hT.ext (E12.trans (hE16.trans hE20))) (h.ext (E12.trans (hE16.trans hE20))).1 (by have:=hq.1;omega) (by omega) fun s24 b25 i26 W23 hE23 _=>⟨s24,b25,i26,rfl,fun W27 _=>⟨s24,b25,i26,true,rfl,fun _=>rfl⟩⟩
theorem Bx3 {W0 W:PW} {M:Nat→Prop} {s t:Sl} {b:Bool} {q:Rat} {K:Value→PW→Prop} (hT:Ac6 W) (h:Ab3 141 W s b t q) (hq:Sz 4000 q) (kont: ∀(s':Sl) (b':Bool) (i:Int) (ok:Bool) (W':PW),Ext W W'→((q.den=1→ok=true))→K (.tuple ⟨[.agg ⟨[Sl.v s',.bool b',.int .i64 i]⟩,.bool ok]⟩) W'):
  Aa1 Tryz.prog W0 M 93 [.agg ⟨[s.v,.bool b,t.v]⟩] W K:=
 Aa2 (fun W' hE=>Ej8 (M:=fun _=>False) (hT.ext hE) (h.ext hE) hq) (fun W' v W'' hE hE' hP=>by
  obtain⟨s',b',i,ok,rfl,h⟩:=hP
  exact kont s' b' i ok W'' (hE.trans hE') h)
end Go.Proofs.YtahohahjnhfedaaGreatDoor
