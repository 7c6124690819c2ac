/- bern.choose, bern.moved, bern.based, what is done to a line for the coefficients. -/
import Derived.Test.YtokefihiadbkbaaGreatDoorW9
import Derived.Test.YtokefihiadbkbaaGreatDoorW10
import Derived.Test.YtokefihiadbkbaaGreatDoorLib6
import Derived.Test.YtokefihiadbkbaaGreatDoorR18
import Derived.Test.YtokefihiadbkbaaGreatDoorLib3
set_option linter.unusedVariables false
set_option linter.unusedSimpArgs false
set_option maxRecDepth 100000
namespace Go.Proofs.YtokefihiadbkbaaGreatDoor
open Go Go.SX
def chI (W0:PW) (n k:Nat) (L:List PL) (W:PW):Prop:=match L with
 | [.val (.int .i64 y),.val (.int .i64 z)]=>∃j:Nat,z=(j:Int)∧j≤k∧Ext W0 W∧y=((ch n j:Nat):Int)
 | _=>False
theorem In1 {W0:PW} {M:Nat→Prop} {n k:Nat} (hn:n≤16) (hk:k≤n):
  Aa0 Tryz.prog 138 [.int .i64 (n:Int),.int .i64 (k:Int)] W0 M fun v W'=>∃(s:Sl),∃(b:Bool),∃(t:Sl),v = .agg ⟨[Sl.v s,.bool b,Sl.v t]⟩∧Ab3 231 W' s b t ((ch n k:Nat):Rat):=by
 apply Ii8
 refine⟨chI W0 n k,Jd7 k,⟨0,rfl,Nat.zero_le _,Ext.refl _,by rw[If2];rfl⟩,?_⟩
 rintro i3 i4 W5 ⟨j,rfl,hj,hE5,rfl⟩
 have hc:=Iq6 hn j
 refine⟨fun hlt=>?_,fun hge=>?_⟩
 ·have hjk:j<k:=by omega
  have hc1:=Iq6 hn (j+1)
  have hb:ch n j*(n-j)≤65536*16:=Nat.mul_le_mul hc (by omega)
  have e0:((ch n j:Nat):Int)*((n:Int)-(j:Int))=((ch n j*(n-j):Nat):Int):=by rw[←Int.ofNat_sub (by omega)];push_cast;rfl
  have e1:Int.tdiv ((ch n j*(n-j):Nat):Int) ((j:Int)+1)=((ch n (j+1):Nat):Int):=by rw[←Jc6];exact(Int.ofNat_tdiv _ (j+1)).symm
  rw[e0,e1,wrap_i64 (by unfold I64;omega)]
  exact⟨by unfold I64;omega,by unfold I64;omega,by unfold I64;omega,by omega,by unfold I64;omega,⟨j+1,by push_cast;rfl,by omega,hE5,rfl⟩,by show k-Int.toNat ((j:Int)+1)<k-Int.toNat (j:Int);omega⟩
 ·have:j=k:=by omega
  subst this
  exact Ay8 (z:=((ch n j:Nat):Int)) (by unfold I64;omega) fun s8 b9 s10 W7 hE7 h7=>⟨s8,b9,s10,rfl,fun W11 hE11=>⟨s8,b9,s10,rfl,h7.ext hE11⟩⟩
theorem Ie9 {W0 W:PW} {M:Nat→Prop} {n k:Nat} {K:Value→PW→Prop} (hn:n≤16) (hk:k≤n) (kont: ∀(s:Sl) (b:Bool) (t:Sl) (W':PW),Ext W W'→(Ab3 231 W' s b t ((ch n k:Nat):Rat))→K (.agg ⟨[Sl.v s,.bool b,Sl.v t]⟩) W'):
  Aa1 Tryz.prog W0 M 138 [.int .i64 (n:Int),.int .i64 (k:Int)] W K:=
 Aa2 (fun W' hE=>In1 (M:=fun _=>False) hn hk) (fun W' v W'' hE hE' hP=>by
  obtain⟨s,b,t,rfl,h⟩:=hP
  exact kont s b t W'' (hE.trans hE') h)
abbrev Two (W:PW) (s1:Sl) (b1:Bool) (t1 s2:Sl) (b2:Bool) (t2:Sl) (lo hi:Rat):Prop:=Ab3 231 W s1 b1 t1 lo∧Ab3 231 W s2 b2 t2 hi
def Je9 (s:Sl) (n:Nat) (f:Nat→Rat) (s1:Sl) (b1:Bool) (t1 s2:Sl) (b2:Bool) (t2:Sl) (lo hi:Rat) (L:List PL) (W:PW):Prop:=match L with
 | [.val (.int .i64 z)]=>∃k:Nat,z=(k:Int)∧k≤n∧VQ W s n (mv lo n f k)∧Two W s1 b1 t1 s2 b2 t2 lo hi
 | _=>False
def Jf2 (s:Sl) (n k:Nat) (f:Nat→Rat) (s1:Sl) (b1:Bool) (t1 s2:Sl) (b2:Bool) (t2:Sl) (lo hi:Rat) (L:List PL) (W:PW):Prop:=match L with
 | [.val (.int .i64 z)]=>∃e:Nat,z=(e:Int)-1∧k≤e∧e<n∧VQ W s n (mvS lo n f k e)∧Two W s1 b1 t1 s2 b2 t2 lo hi
 | _=>False
def Jf0 (s:Sl) (n:Nat) (g:Nat→Rat) (s1:Sl) (b1:Bool) (t1 s2:Sl) (b2:Bool) (t2:Sl) (lo hi:Rat) (L:List PL) (W:PW):Prop:=match L with
 | [.val (.int .i64 z),.cells l]=>∃(p:Nat) (s3:Sl) (b3:Bool) (t3:Sl),z=(p:Int)∧l = [s3.v,.bool b3,t3.v]∧p≤n∧VQ W s n (Ix4 (hi-lo) g p)∧Two W s1 b1 t1 s2 b2 t2 lo hi∧Ab3 231 W s3 b3 t3 ((hi-lo)^p)
 | _=>False
def Je1 (L:List PL) (_:PW):Nat:=match L with
 | [.val (.int .i64 z)]=>(z+1).toNat
 | _=>0
def Jd8 (n:Nat) (L:List PL) (_:PW):Nat:=match L with
 | [.val (.int .i64 z),_]=>n-z.toNat
 | _=>0
theorem Iw9 {D N n k l a e i:Nat} {lo:Rat} {f:Nat→Rat} (hf:Id9 n D N f) (hD:D≠0) (k1:nl D≤k) (k2:nl N≤k) (hl:Sz l lo) (hn:n≤17) (ha:a<n) (hi:i<n):Sz (k+(((l+1)*17+1)*17+1)) (mvS lo n f a e i):=by
 have e0:nl (lo.den+lo.num.natAbs)≤l+1:=Cw6 hl.2 hl.1
 have e1:=Ae5 D ((lo.den^n)^(a+1))
 have e2:=Ae5 N (((lo.den+lo.num.natAbs)^n)^(a+1))
 have e3:=Ie6 (E:=lo.den) (n:=n) (k:=a+1) (l:=l+1) (by have:=hl.2;omega) hn (by omega)
 have e4:=Ie6 (E:=lo.den+lo.num.natAbs) (n:=n) (k:=a+1) (l:=l+1) e0 hn (by omega)
 exact(Jb1 (e:=e) hf (Ak3.den lo) i hi).sz (Nat.mul_ne_zero hD (Ch9 (Ch9 lo.den_nz n) _)) (by omega) (by omega)
theorem Io6 {W0:PW} {s s1 t1 s2 t2:Sl} {b1 b2:Bool} {n D N k l:Nat} {f:Nat→Rat} {lo hi:Rat} (h:VQ W0 s n f) (h2:Two W0 s1 b1 t1 s2 b2 t2 lo hi) (hf:Id9 n D N f) (hD:D≠0) (k1:nl D≤k) (k2:nl N≤k) (hl:Sz l lo) (hh:Sz l hi) (hn:n≤17) (hn0:0<n) (hk:k≤1000000) (hl2:l≤1000):
  Aa0 Tryz.prog 69 [s.v,.agg ⟨[s1.v,.bool b1,t1.v,s2.v,.bool b2,t2.v]⟩] W0 (fun g=>s.v.ownBlock=some g) fun v W'=>v = .tuple ⟨[]⟩∧VQ W' s n (Jb7 lo (hi-lo) n f):=by
 apply Ij9
 have hs:=h.n
 have hw:Sz (2*l+1) (hi-lo):=(hh.sub hl).mono (by omega)
 have hwp: ∀p,p≤17→Sz ((2*l+1)*17+1) ((hi-lo)^p):=fun p hp=>(hw.Fe7 p).mono (by have:(2*l+1)*p≤(2*l+1)*17:=Nat.mul_le_mul_left _ hp;omega)
 have hM: ∀g,s.v.ownBlock=some g→may W0 (fun g=>s.v.ownBlock=some g) g:=fun g hg=>.inl hg
 refine⟨Je9 s n f s1 b1 t1 s2 b2 t2 lo hi,Iv2 n,⟨0,rfl,Nat.zero_le _,h,h2⟩,?_⟩
 rintro i3 W4 ⟨a,rfl,han,hO,hB⟩
 refine⟨fun hlt=>?_,fun hge=>?_⟩
 ·have hlt:a<n:=by omega
  refine⟨by unfold I64;omega,Jf2 s n a f s1 b1 t1 s2 b2 t2 lo hi,Je1,⟨n-1,by omega,by omega,by omega,hO.congr fun i hi=>(Iy5 hi).symm,hB⟩,?_⟩
  rintro i7 W8 ⟨e,rfl,hae,hen,hO8,hB8⟩
  refine⟨fun hlt2=>?_,fun hge2=>?_⟩
  ·obtain⟨z,rfl⟩: ∃z,e=z+1:=⟨e-1,by omega⟩
   have ez:((z+1:Nat):Int)-1=(z:Int):=by omega
   rw[ez] at hlt2⊢
   obtain⟨s9,b10,s11,e9,g9⟩:=hO8.at (i:=z) (by omega)
   obtain⟨s12,b13,s14,e12,g12⟩:=hO8.at (i:=z+1) (by omega)
   have ec:((z:Int)+1).toNat=z+1:=by omega
   have za:=Iw9 (a:=a) (e:=z+1) (i:=z) hf hD k1 k2 hl hn hlt (by omega)
   have zb:=Iw9 (a:=a) (e:=z+1) (i:=z+1) hf hD k1 k2 hl hn hlt (by omega)
   refine⟨hO8.inB (by omega) (by omega),s9,b10,s11,e9,by unfold I64;omega,hO8.inB (by omega) (by omega),s12,b13,s14,by rw[ec];exact e12,?_⟩
   refine Ak9 hB8.1 g12 hl zb (by omega) (by omega) fun s17 b18 s19 W16 hE16 h16=>⟨s17,b18,s19,rfl,hE16,?_⟩
   refine At2 (g9.ext hE16) h16 za (hl.mul zb) (by omega) (by omega) fun s22 b23 s24 W21 hE21 h21=>⟨s22,b23,s24,rfl,(hO8.ext (hE16.trans hE21)).inB (by omega) (by omega),?_⟩
   have E:=hE16.trans hE21
   refine(hO8.ext E).store (j:=z) (by omega) h21 (by decide) hM fun W25 hp hO25=>⟨by unfold I64;omega,⟨z,rfl,by omega,by omega,?_,hp.rat (hB8.1.ext E) (by decide),hp.rat (hB8.2.ext E) (by decide)⟩,by show((z:Int)-1+1).toNat<((z:Int)+1).toNat;omega⟩
   rw[Ix9 (by omega)]
   exact hO25
  ·have:e=a:=by omega
   subst this
   rw[Iw8] at hO8
   exact⟨by unfold I64;omega,⟨e+1,by push_cast;rfl,by omega,hO8,hB8⟩,by show n-Int.toNat ((e:Int)+1)<n-Int.toNat (e:Int);omega⟩
 ·have:a=n:=by omega
  subst this
  have hmz: ∀i,i<a→Sz (k+(((l+1)*17+1)*17+1)) (mv lo a f a i):=fun i hi=>by
   have e1:mv lo a f a=mvS lo a f (a-1) (a-1):=by rw[Iw8,show a-1+1=a by omega]
   rw[e1]
   exact Iw9 hf hD k1 k2 hl hn (by omega) hi
  have zS: ∀p,p<a→Sz (k+(((l+1)*17+1)*17+1)) (Ix4 (hi-lo) (mv lo a f a) p p):=fun p hp=>by unfold Ix4;rw[if_neg (by omega)];exact hmz p hp
  refine Ay8 (z:=1) (by unfold I64;omega) fun s28 b29 s30 W27 hE27 h27=>⟨s28,b29,s30,rfl,?_⟩
  refine⟨Jf0 s a (mv lo a f a) s1 b1 t1 s2 b2 t2 lo hi,Jd8 a,⟨0,s28,b29,s30,rfl,rfl,Nat.zero_le _,by rw[Iv4];exact hO.ext hE27,⟨hB.1.ext hE27,hB.2.ext hE27⟩,by rw[Rat.pow_zero];exact h27⟩,?_⟩
  rintro s33 b34 s35 i36 W37 ⟨p,s3,b3,t3,rfl,el,hp,hO7,hB7,hw7⟩
  simp only[List.cons.injEq,Value.bool.injEq,and_true] at el
  obtain⟨q1,rfl,q3⟩:=el
  obtain rfl:=Sl.Ck0 q1
  obtain rfl:=Sl.Ck0 q3
  refine⟨fun hlt=>?_,fun hge2 W57 hE57=>⟨rfl,(hO7.ext hE57).congr fun i hi=>?_⟩⟩
  ·have hpa:p<a:=by omega
   obtain⟨s38,b39,s40,e38,g38⟩:=hO7.at hpa
   refine⟨hO7.inB (by omega) (by omega),s38,b39,s40,e38,?_⟩
   refine Ak9 g38 hw7 (zS p hpa) (hwp p (by omega)) (by omega) (by omega) fun s43 b44 s45 W42 hE42 h42=>⟨s43,b44,s45,rfl,(hO7.ext hE42).inB (by omega) (by omega),?_⟩
   refine(hO7.ext hE42).store (j:=p) hpa h42 (by decide) hM fun W46 hpu hO46=>?_
   have B46:Two W46 s1 b1 t1 s2 b2 t2 lo hi:=⟨hpu.rat (hB7.1.ext hE42) (by decide),hpu.rat (hB7.2.ext hE42) (by decide)⟩
   refine Gj9 (x:=(lo,hi)) (SpV.mk B46.1 B46.2) ⟨hl,hh⟩ (by omega) fun s49 b50 s51 W48 hE48 h48=>⟨s49,b50,s51,rfl,?_⟩
   refine Ak9 ((hpu.rat (hw7.ext hE42) (by decide)).ext hE48) h48 (hwp p (by omega)) hw (by omega) (by omega) fun s54 b55 s56 W53 hE53 h53=>⟨s54,b55,s56,rfl,by unfold I64;omega,⟨p+1,s54,b55,s56,by push_cast;rfl,rfl,by omega,?_,⟨(B46.1.ext hE48).ext hE53,(B46.2.ext hE48).ext hE53⟩,by rw[Rat.pow_succ];exact h53⟩,by show a-Int.toNat ((p:Int)+1)<a-Int.toNat (p:Int);omega⟩
   rw[Ix0]
   exact(hO46.ext hE48).ext hE53
  ·have:p=a:=by omega
   subst this
   unfold Ix4 Jb7
   rw[if_pos hi]
end Go.Proofs.YtokefihiadbkbaaGreatDoor
/- bern.based, what is done to a line for the coefficients. -/
namespace Go.Proofs.YtokefihiadbkbaaGreatDoor
open Go Go.SX
theorem Ja4 {D N n p:Nat} {f:Nat→Rat} (hf:Id9 n D N f) (hn:n≤17):Id9 n (D*chK) (N*chK) (dvS (n-1) f p):=fun i hi=>by
 unfold dvS
 split
 ·exact Iw5 (hf i hi) (Ja2 (n-1) (by omega) i (by omega) (by omega))
 ·exact(hf i hi).scale chK
theorem Ja5:nl chK≤1:=by decide +kernel
theorem Jc0 {D N n e:Nat} {g:Nat→Rat} (hg:Id9 n D N g) (hn:n≤17):Id9 n D (N*(65536*17)) (smS g e):=fun i hi=>by
 unfold smS
 split
 ·refine(Ii0 hg (by omega) (i+1) (by omega)).mono ?_
  rw[Nat.mul_assoc]
  exact Nat.mul_le_mul_left _ (Nat.mul_le_mul_left _ (by omega))
 ·exact(hg i hi).mono (Nat.le_mul_of_pos_right _ (by decide))
def bsI (s:Sl) (n:Nat) (f:Nat→Rat) (L:List PL) (W:PW):Prop:=match L with
 | [.val (.int .i64 z)]=>∃p:Nat,z=(p:Int)∧p≤n∧VQ W s n (dvS (n-1) f p)
 | _=>False
def bsO (s:Sl) (n:Nat) (g:Nat→Rat) (L:List PL) (W:PW):Prop:=match L with
 | [.val (.int .i64 z)]=>∃e:Nat,z=(e:Int)-1∧e≤n∧VQ W s n (smS g e)
 | _=>False
def bsS (s:Sl) (n k:Nat) (g:Nat→Rat) (L:List PL) (W:PW):Prop:=match L with
 | [.val (.int .i64 z),.cells l]=>∃(m:Nat) (s3:Sl) (b3:Bool) (t3:Sl),z=(m:Int)∧l = [s3.v,.bool b3,t3.v]∧m≤k+1∧VQ W s n (smS g (k+1))∧Ab3 231 W s3 b3 t3 (Iv7 g k m)
 | _=>False
theorem Ip2 {W0:PW} {s:Sl} {n D N k:Nat} {f:Nat→Rat} (h:VQ W0 s n f) (hf:Id9 n D N f) (hD:D≠0) (k1:nl D≤k) (k2:nl N≤k) (hn:n≤17) (hn0:0<n) (hk:k≤10000000):
  Aa0 Tryz.prog 70 [s.v] W0 (fun g=>s.v.ownBlock=some g) fun v W'=>v = .tuple ⟨[]⟩∧VQ W' s n (Jd3 n f):=by
 apply Ik6
 have hs:=h.n
 have hM: ∀g,s.v.ownBlock=some g→may W0 (fun g=>s.v.ownBlock=some g) g:=fun g hg=>.inl hg
 have c1:=Ja5
 have d1:=Ae5 D chK
 have d2:=Ae5 N chK
 have hD2:D*chK≠0:=Nat.mul_ne_zero hD (by decide)
 have zd: ∀p i,i<n→Sz (k+1) (dvS (n-1) f p i):=fun p i hi=>(Ja4 hf hn i hi).sz hD2 (by omega) (by omega)
 have hg:Id9 n (D*chK) (N*chK) (dvS (n-1) f n):=Ja4 hf hn
 have d3:=Ae5 (N*chK) (65536*17)
 have c2:nl (65536*17)≤1:=by decide +kernel
 have zs: ∀e i,i<n→Sz (k+2) (smS (dvS (n-1) f n) e i):=fun e i hi=>(Jc0 hg hn i hi).sz hD2 (by omega) (by omega)
 have zm: ∀a m,a<n→m≤n→Sz (k+2) (Iv7 (dvS (n-1) f n) a m):=fun a m ha hm=>((Ii0 hg (by omega) m hm).mono (N':=N*chK*(65536*17)) (by rw[Nat.mul_assoc];exact Nat.mul_le_mul_left _ (Nat.mul_le_mul_left _ (by omega)))).sz hD2 (by omega) (by omega)
 have hs1:((s.n:Nat):Int)-1=((n-1:Nat):Int):=by omega
 have zc: ∀a b,a≤16→Sz 1 ((ch a b:Nat):Rat):=fun a b ha=>by
  have h1:=Iq6 ha b
  have h2:nl (ch a b)≤1:=Bc6 (Nat.lt_of_le_of_lt h1 (by decide +kernel))
  exact⟨by rw[Rat.num_natCast];exact h2,by rw[Rat.den_natCast,Ax0];exact Nat.le_refl _⟩
 unfold Ii3
 rw[hs1]
 refine⟨by unfold I64;omega,bsI s n f,Iv2 n,⟨0,rfl,Nat.zero_le _,by rw[Iz1];exact h⟩,?_⟩
 rintro i3 W4 ⟨p,rfl,hp,hO⟩
 refine⟨fun hlt=>?_,fun hge=>?_⟩
 ·have hpn:p<n:=by omega
  obtain⟨s5,b6,s7,e5,g5⟩:=hO.at hpn
  refine⟨hO.inB (by omega) (by omega),s5,b6,s7,e5,?_⟩
  refine Ie9 (by omega) (by omega) fun s10 b11 s12 W9 hE9 h9=>⟨s10,b11,s12,rfl,hE9,?_⟩
  refine Gb1 (g5.ext hE9) h9 (zd p p hpn) (zc _ _ (by omega)) (by omega) (by omega) (by omega) fun s15 b16 s17 W14 hE14 h14=>⟨s15,b16,s17,_,rfl,(hO.ext (hE9.trans hE14)).inB (by omega) (by omega),?_⟩
  refine(hO.ext (hE9.trans hE14)).store (j:=p) hpn h14 (by decide) hM fun W19 hpu hO19=>⟨by unfold I64;omega,⟨p+1,by push_cast;rfl,by omega,by rw[Iy8];exact hO19⟩,by show n-Int.toNat ((p:Int)+1)<n-Int.toNat (p:Int);omega⟩
 have:p=n:=by omega
 subst this
 refine⟨bsO s p (dvS (p-1) f p),Je1,⟨p,by omega,Nat.le_refl _,hO.congr fun i hi=>by unfold smS;rw[if_neg (by omega)]⟩,?_⟩
 rintro i22 W23 ⟨e,rfl,he,hO3⟩
 refine⟨fun h0=>?_,fun hneg W50 hE50=>⟨rfl,(hO3.ext hE50).congr fun i hi=>?_⟩⟩
 ·obtain⟨a,rfl⟩: ∃a,e=a+1:=⟨e-1,by omega⟩
  have ea:((a+1:Nat):Int)-1=(a:Int):=by omega
  rw[ea]
  refine⟨by unfold I64;omega,bsS s p a (dvS (p-1) f p),Jd8 (a+1),⟨0,⟨none,0,0⟩,false,⟨none,0,0⟩,rfl,rfl,Nat.zero_le _,hO3,Ar9 W23⟩,?_⟩
  rintro s26 b27 s28 i29 W30 ⟨m,s3,b3,t3,rfl,el,hm,hO0,ha0⟩
  simp only[List.cons.injEq,Value.bool.injEq,and_true] at el
  obtain⟨q1,rfl,q3⟩:=el
  obtain rfl:=Sl.Ck0 q1
  obtain rfl:=Sl.Ck0 q3
  refine⟨fun hlt=>?_,fun hge2=>?_⟩
  ·have hma:m<a+1:=by omega
   obtain⟨s31,b32,s33,e31,g31⟩:=hO0.at (i:=m) (by omega)
   have hv:smS (dvS (p-1) f p) (a+1) m=dvS (p-1) f p m:=by unfold smS;rw[if_neg (by omega)]
   rw[hv] at g31
   refine⟨hO0.inB (by omega) (by omega),s31,b32,s33,e31,?_⟩
   refine Ie9 (by omega) (by omega) fun s36 b37 s38 W35 hE35 h35=>⟨s36,b37,s38,rfl,hE35,?_⟩
   refine Ak9 h35 (g31.ext hE35) (zc a m (by omega)) (zd p m (by omega)) (by omega) (by omega) fun s41 b42 s43 W40 hE40 h40=>⟨s41,b42,s43,rfl,?_⟩
   have E:=hE35.trans hE40
   exact At2 (ha0.ext E) h40 (zm a m (by omega) (by omega)) ((zc a m (by omega)).mul (zd p m (by omega))) (by omega) (by omega) fun s46 b47 s48 W45 hE45 h45=>⟨s46,b47,s48,rfl,by unfold I64;omega,⟨m+1,s46,b47,s48,by push_cast;rfl,rfl,by omega,hO0.ext (E.trans hE45),h45⟩,by show a+1-Int.toNat ((m:Int)+1)<a+1-Int.toNat (m:Int);omega⟩
  ·have:m=a+1:=by omega
   subst this
   refine⟨hO0.inB (by omega) (by omega),hO0.store (j:=a) (by omega) ha0 (by decide) hM fun W49 hpu hO49=>⟨by unfold I64;omega,⟨a,rfl,by omega,by rw[Iz5];exact hO49⟩,by show((a:Int)-1+1).toNat<((a:Int)+1).toNat;omega⟩⟩
 ·have:e=0:=by omega
  subst this
  unfold smS Jd3
  rw[if_pos (Nat.zero_le _)]
  exact Ih1 (n:=p) (fun j hj=>by unfold dvS;rw[if_pos hj]) _ (by omega)
def Iv1 (lo w:Rat) (n:Nat) (f:Nat→Rat):Nat→Rat:=Jd3 n (Jb7 lo w n f)
theorem Is9 {D N E M E2 M2 n:Nat} {lo w:Rat} {f:Nat→Rat} (hf:Id9 n D N f) (hl:Ak3 E M lo) (hw:Ak3 E2 M2 w):Id9 n (D*(E^n)^n*E2^n) (N*((E+M)^n)^n*(E2+M2)^n) (Jb7 lo w n f):=fun i hi=>Jb6 hw (Iv8 hf hl n i hi) (by omega)
theorem Ix8 {D N E M E2 M2 n:Nat} {lo w:Rat} {f:Nat→Rat} (hf:Id9 n D N f) (hl:Ak3 E M lo) (hw:Ak3 E2 M2 w) (hn:n≤17):Id9 n (D*((E^n)^n*E2^n*chK)) (N*(((E+M)^n)^n*(E2+M2)^n*(chK*(65536*17)))) (Iv1 lo w n f):=fun i hi=>by
 have h1:Id9 n _ _ (fun j=>Jb7 lo w n f j/(ch (n-1) j:Rat)):=fun j hj=>Iw5 (Is9 hf hl hw j hj) (Ja2 (n-1) (by omega) j (by omega) (by omega))
 have h2:=(Ii0 h1 (k:=i) (by omega) (i+1) (by omega)).mono (N':=N*(((E+M)^n)^n*(E2+M2)^n*(chK*(65536*17)))) (by
  have:N*((E+M)^n)^n*(E2+M2)^n*chK*65536*(i+1)≤N*((E+M)^n)^n*(E2+M2)^n*chK*65536*17:=Nat.mul_le_mul_left _ (by omega)
  refine Nat.le_trans this (Nat.le_of_eq ?_)
  simp only[Nat.mul_assoc])
 rw[show D*(E^n)^n*E2^n*chK=D*((E^n)^n*E2^n*chK) by simp only[Nat.mul_assoc]] at h2
 exact h2
theorem It6 {W0:PW} {s:Sl} {r:Option Addr} {n D N k l:Nat} {f q:Nat→Rat} (h:VQ W0 s n f) (hb:XQ W0 r 2 q) (ha:Iz4 r s) (hf:Id9 n D N f) (hD:D≠0) (k1:nl D≤k) (k2:nl N≤k) (hl:Sz l (q 0)) (hh:Sz l (q 1)) (hn:n≤17) (hn0:0<n) (hk:k≤1000000) (hl2:l≤1000):
  Aa0 Tryz.prog 68 [s.v,.pointer r] W0 (fun g=>s.v.ownBlock=some g) fun v W'=>v = .tuple ⟨[]⟩∧VQ W' s n (Iv1 (q 0) (q 1-q 0) n f):=by
 apply Ih7
 obtain⟨s1,b2,s3,s4,b5,s6,e1,g1,g2⟩:=hb.two
 refine⟨s1,b2,s3,s4,b5,s6,e1,fun W' hE=>⟨_,_,Io6 (h.ext hE) ⟨g1.ext hE,g2.ext hE⟩ hf hD k1 k2 hl hh hn hn0 hk hl2,fun g hg=>⟨(VQ.pub (h.ext hE) hn0 hg).2,.inl hg⟩,fun v W8 hX8 hP8=>⟨hP8.1,fun W'' hE''=>?_⟩⟩⟩
 have hw:Sz (2*l+1) (q 1-q 0):=(hh.sub hl).mono (by omega)
 have m1:=Is9 hf (Ak3.den (q 0)) (Ak3.den (q 1-q 0))
 have a0:nl ((q 0).den+(q 0).num.natAbs)≤l+1:=Cw6 hl.2 hl.1
 have a1:nl ((q 1-q 0).den+(q 1-q 0).num.natAbs)≤2*l+2:=Cw6 hw.2 hw.1
 have p1:=Ie6 (E:=(q 0).den) (n:=n) (k:=n) (l:=l+1) (by have:=hl.2;omega) hn hn
 have p2:=Ie6 (E:=(q 0).den+(q 0).num.natAbs) (n:=n) (k:=n) (l:=l+1) a0 hn hn
 have p3:=Go.SX.Cf5 (q 1-q 0).den n
 have p4:=Go.SX.Cf5 ((q 1-q 0).den+(q 1-q 0).num.natAbs) n
 have p5:nl (q 1-q 0).den*n≤(2*l+2)*17:=Nat.mul_le_mul (by have:=hw.2;omega) hn
 have p6:nl ((q 1-q 0).den+(q 1-q 0).num.natAbs)*n≤(2*l+2)*17:=Nat.mul_le_mul a1 hn
 have q1:=Ae5 D (((q 0).den^n)^n)
 have q2:=Ae5 (D*((q 0).den^n)^n) ((q 1-q 0).den^n)
 have q3:=Ae5 N ((((q 0).den+(q 0).num.natAbs)^n)^n)
 have q4:=Ae5 (N*(((q 0).den+(q 0).num.natAbs)^n)^n) (((q 1-q 0).den+(q 1-q 0).num.natAbs)^n)
 refine⟨_,_,Ip2 (k:=k+1000000) (hP8.2.ext hE'') m1 (Nat.mul_ne_zero (Nat.mul_ne_zero hD (Ch9 (Ch9 (q 0).den_nz n) n)) (Ch9 (q 1-q 0).den_nz n)) (by omega) (by omega) hn hn0 (by omega),fun g hg=>⟨(VQ.pub (hP8.2.ext hE'') hn0 hg).2,.inl hg⟩,fun v W10 hX10 hP10=>⟨hP10.1,fun W11 hE11=>⟨rfl,hP10.2.ext hE11⟩⟩⟩
end Go.Proofs.YtokefihiadbkbaaGreatDoor
/- bern.Coefs. -/
namespace Go.Proofs.YtokefihiadbkbaaGreatDoor
open Go Go.SX
theorem Ip0 {lo:Rat} {g h:Nat→Rat} {n:Nat} (e: ∀i,i<n→g i=h i): ∀r j,j+r≤n→hor lo g r j=hor lo h r j
 | 0,_,_=>rfl
 | r+1,j,hj=>by rw[hor,hor,e j (by omega),Ip0 e r (j+1) (by omega)]
theorem Im6 {lo:Rat} {g h:Nat→Rat} {n:Nat} (e: ∀i,i<n→g i=h i): ∀k i,i<n→mv lo n g k i=mv lo n h k i
 | 0,i,hi=>e i hi
 | k+1,i,hi=>by
  rw[mv,mv]
  split
  ·exact Im6 e k i hi
  ·exact Ip0 (fun j hj=>Im6 e k j hj) _ _ (by omega)
theorem Iu8 {lo w:Rat} {g h:Nat→Rat} {n:Nat} (e: ∀i,i<n→g i=h i) {i:Nat} (hi:i<n):Iv1 lo w n g i=Iv1 lo w n h i:=by
 unfold Iv1 Jd3
 exact Ih1 (n:=n) (fun j hj=>by unfold Jb7;rw[Im6 e n j hj]) _ (by omega)
def Ie8 (p:List Tm) (n:Nat):List Int:=(List.range n).map fun(i:Nat)=>Fd0 (Fv8 (i:Int)) 0 p
theorem Io1 (p:List Tm) (n:Nat):(Ie8 p n).length=n:=by unfold Ie8;rw[List.length_map,List.length_range]
theorem Is2 {p:List Tm} {n i:Nat} (hi:i<(Ie8 p n).length):(Ie8 p n)[i]=Fd0 (Fv8 (i:Int)) 0 p:=by simp only[Ie8,List.getElem_map,List.getElem_range]
def plS (zs:List Int) (m:Mon):Nat→Nat
 | 0=>0
 | k+1=>plS zs m k+(An6 m k).toNat*stN zs k
theorem Is7 {zs:List Int} {m:Mon} (h: ∀k,k<zs.length→(An6 m k).toNat<tpN zs k): ∀k,k≤zs.length→plS zs m k<stN zs k
 | 0,_=>Nat.one_pos
 | k+1,hk=>by
  have h1:=Is7 h k (by omega)
  have h2:((An6 m k).toNat+1)*stN zs k≤tpN zs k*stN zs k:=Nat.mul_le_mul_right _ (h k (by omega))
  rw[Nat.add_mul,Nat.one_mul] at h2
  rw[plS,stN,Nat.mul_comm (stN zs k)]
  omega
def ten (zs:List Int) (p:List Tm):Nat→Nat→Rat
 | 0=>fun _=>0
 | j+1=>match p[j]? with
  | some t=>Ij6 (ten zs p j) (plS zs t.1 zs.length) t.2
  | none=>ten zs p j
theorem Iq2 {zs:List Int} {p:List Tm} {D N NN:Nat} (h:Fit D N p): ∀j,Id9 NN D N (ten zs p j)
 | 0=>fun i _=>Ak3.zero
 | j+1=>fun i hi=>by
  unfold ten
  cases hp:p[j]? with
  | none=>exact Iq2 h j i hi
  | some t=>
   show Ak3 D N (Ij6 _ _ _ i)
   unfold Ij6
   split
   ·exact h.mem (List.mem_of_getElem? hp)
   ·exact Iq2 h j i hi
def Iw7 (zs:List Int) (bs:List Iv) (F:Nat→Rat):Nat→Nat→Rat
 | 0=>F
 | i+1=>Id6 (stN zs i) (tpN zs i) (Iv1 (Bm3 bs i).1 ((Bm3 bs i).2-(Bm3 bs i).1) (tpN zs i)) (Iw7 zs bs F i)
theorem It2 {st n R D N D' N':Nat} {T:(Nat→Rat)→Nat→Rat} {F:Nat→Rat} (hs:0<st) (hn:0<n) (hF:Id9 (st*n*R) D N F) (hT: ∀f,Id9 n D N f→Id9 n D' N' (T f)):Id9 (st*n*R) D' N' (Id6 st n T F):=fun k hk=>by
 obtain⟨h1,h2,h3,h4⟩:=Id8 (k:=k) hs hn
 exact hT _ (fun j hj=>hF _ (Ig2 hs hn (by omega) h1 hj).1) _ h4
theorem Ja3 {y1 y2 y3 y4 y5 y6 y7 x m k i:Nat} (q4:y1≤x+y2) (q5:y2≤y3+y7) (q6:y3≤y4+y5) (p2:y4≤((m+1)*17+1)*17+1) (p4:y5≤y6+1) (p6:y6≤(2*m+2)*17) (c2:y7≤2) (f4:x≤k+i*400000) (hm:m≤1000):y1≤k+(i+1)*400000:=by omega
theorem Ir6 {zs:List Int} (h16: ∀z∈zs,0≤z∧z≤16) {bs:List Iv} {F:Nat→Rat} {D N k m:Nat} (hF:Id9 (stN zs zs.length) D N F) (hD:D≠0) (k1:nl D≤k) (k2:nl N≤k) (hb: ∀i,IvS m (Bm3 bs i)) (hm:m≤1000): ∀i,i≤zs.length→∃D' N',Id9 (stN zs zs.length) D' N' (Iw7 zs bs F i)∧D'≠0∧nl D'≤k+i*400000∧nl N'≤k+i*400000
 | 0,_=>⟨D,N,hF,hD,by omega,by omega⟩
 | i+1,h=>by
  obtain⟨D1,N1,f1,f2,f3,f4⟩:=Ir6 h16 hF hD k1 k2 hb hm i (by omega)
  obtain⟨R,hR⟩:=Ig5 zs i (zs.length-(i+1))
  rw[show i+1+(zs.length-(i+1))=zs.length by omega] at hR
  have hn:=If0 h16 i
  have hn0:=Ie4 zs i
  have hl:=(hb i).1
  have hw:Sz (2*m+1) ((Bm3 bs i).2-(Bm3 bs i).1):=((hb i).2.sub hl).mono (by omega)
  rw[hR] at f1⊢
  show ∃D' N',Id9 _ D' N' (Id6 (stN zs i) (tpN zs i) (Iv1 (Bm3 bs i).1 ((Bm3 bs i).2-(Bm3 bs i).1) (tpN zs i)) (Iw7 zs bs F i))∧_
  have hT: ∀f,Id9 (tpN zs i) D1 N1 f→Id9 (tpN zs i) _ _ (Iv1 (Bm3 bs i).1 ((Bm3 bs i).2-(Bm3 bs i).1) (tpN zs i) f):=fun f hf=>Ix8 hf (Ak3.den _) (Ak3.den _) hn
  generalize (Bm3 bs i).2-(Bm3 bs i).1=w at *
  generalize (Bm3 bs i).1=lo at *
  have a0:nl (lo.den+lo.num.natAbs)≤m+1:=Cw6 hl.2 hl.1
  have a1:nl (w.den+w.num.natAbs)≤2*m+2:=Cw6 hw.2 hw.1
  generalize tpN zs i=n at *
  have p1:=Ie6 (E:=lo.den) (n:=n) (k:=n) (l:=m+1) (by have:=hl.2;omega) hn hn
  have p2:=Ie6 (E:=lo.den+lo.num.natAbs) (n:=n) (k:=n) (l:=m+1) a0 hn hn
  have p3:=Go.SX.Cf5 w.den n
  have p4:=Go.SX.Cf5 (w.den+w.num.natAbs) n
  have p5:nl w.den*n≤(2*m+2)*17:=Nat.mul_le_mul (by have:=hw.2;omega) hn
  have p6:nl (w.den+w.num.natAbs)*n≤(2*m+2)*17:=Nat.mul_le_mul a1 hn
  have c1:=Ja5
  have c2:nl (chK*(65536*17))≤2:=by decide +kernel
  have q1:=Ae5 D1 ((lo.den^n)^n*w.den^n*chK)
  have q2:=Ae5 ((lo.den^n)^n*w.den^n) chK
  have q3:=Ae5 ((lo.den^n)^n) (w.den^n)
  have q4:=Ae5 N1 (((lo.den+lo.num.natAbs)^n)^n*(w.den+w.num.natAbs)^n*(chK*(65536*17)))
  have q5:=Ae5 (((lo.den+lo.num.natAbs)^n)^n*(w.den+w.num.natAbs)^n) (chK*(65536*17))
  have q6:=Ae5 (((lo.den+lo.num.natAbs)^n)^n) ((w.den+w.num.natAbs)^n)
  have hX:Id9 (stN zs i*n*R) (D1*((lo.den^n)^n*w.den^n*chK)) (N1*(((lo.den+lo.num.natAbs)^n)^n*(w.den+w.num.natAbs)^n*(chK*(65536*17)))) (Id6 (stN zs i) n (Iv1 lo w n) (Iw7 zs bs F i)):=It2 (Ie2 zs i) hn0 f1 hT
  have hY:D1*((lo.den^n)^n*w.den^n*chK)≠0:=Nat.mul_ne_zero f2 (Nat.mul_ne_zero (Nat.mul_ne_zero (Ch9 (Ch9 lo.den_nz n) n) (Ch9 w.den_nz n)) (by decide))
  exact⟨_,_,hX,hY,Ja3 q1 q2 q3 p1 p3 p5 (Nat.le_trans c1 (by omega)) f3 hm,Ja3 q4 q5 q6 p2 p4 p6 c2 f4 hm⟩
def Ii7 (p:List Tm) (bs:List Iv):Prop:=An3 p bs∧Ie1 (Ie8 p bs.length)
instance (p:List Tm) (bs:List Iv):Decidable (Ii7 p bs):=by unfold Ii7;infer_instance
end Go.Proofs.YtokefihiadbkbaaGreatDoor
/- bern.Coefs. -/
namespace Go.Proofs.YtokefihiadbkbaaGreatDoor
open Go Go.SX
theorem Jb2 {W W':PW} {s:Sl} {bs:List Iv} (h:Bc3 231 W s bs) (hE:Eo1 W.w.heap.size W W'):Bc3 231 W' s bs:=
 let⟨xs,⟨t,h1⟩,h2⟩:=h
 ⟨xs,⟨t,h1.new hE (Nat.le_refl _)⟩,h2.mono fun _ _ ⟨s,b,t,s',b',t',e,g1,g2⟩=>⟨s,b,t,s',b',t',e,g1.new hE (Nat.le_refl _),g2.new hE (Nat.le_refl _)⟩⟩
theorem Iu0 (m:Mon) {k:Nat} (hk:k<3) (a b c:Value):As9 [.int .u8 m.x,.int .u8 m.y,.int .u8 m.z,a,b,c] (0+Int.toNat (k:Int)*1+0) [.int .u8 (An6 m k)]:=by
 rcases(by omega:k=0∨k=1∨k=2) with rfl | rfl | rfl<;>exact⟨by simp,rfl⟩
theorem Iz3 {zs:List Int} {p:List Tm} {j:Nat} (hj:j<p.length):ten zs p (j+1)=Ij6 (ten zs p j) (plS zs p[j].1 zs.length) p[j].2:=by
 show(match p[j]? with
  | some t=>Ij6 (ten zs p j) (plS zs t.1 zs.length) t.2
  | none=>ten zs p j)=_
 rw[List.getElem?_eq_getElem hj]
def bxq (x:Iv):Nat→Rat
 | 0=>x.1
 | _+1=>x.2
theorem Jc7 {bs:List Iv} {zs:List Int} {r:Option Addr} {i D N k m:Nat} (hD:D≠0) (k1:nl D≤k) (k2:nl N≤k) (hb:IvS m (Bm3 bs i)) (hn:tpN zs i≤17) (hk:k≤1000000) (hm:m≤1000):
  Je4 68 r (tpN zs i) 2 (bxq (Bm3 bs i)) D N (Iv1 (bxq (Bm3 bs i) 0) (bxq (Bm3 bs i) 1-bxq (Bm3 bs i) 0) (tpN zs i)):=
 fun W u f a1 a2 a3 a4=>It6 (q:=bxq (Bm3 bs i)) a1 a2 a3 a4 hD k1 k2 hb.1 hb.2 hn (Ie4 zs i) hk hm
theorem Iy9 (zs:List Int) (bs:List Iv) (F:Nat→Rat) (i:Nat):Id6 (stN zs i) (tpN zs i) (Iv1 (bxq (Bm3 bs i) 0) (bxq (Bm3 bs i) 1-bxq (Bm3 bs i) 0) (tpN zs i)) (Iw7 zs bs F i)=Iw7 zs bs F (i+1):=rfl
def ctI (W0:PW) (zs:List Int) (L:List PL) (W:PW):Prop:=match L with
 | [.row l,.val (.int .i64 z)]=>∃i:Nat,z=(i:Int)∧i≤zs.length∧Ext W0 W∧l=(zs.take i).map fun z=>[.int .i64 z]
 | _=>False
def tfI (W0:PW) (zs:List Int) (p:List Tm) (L:List PL) (W:PW):Prop:=match L with
 | [.val (.int .i64 z),.row l]=>∃j:Nat,z=(j:Int)∧j≤p.length∧Ext W0 W∧Qs 231 W l (stN zs zs.length) (ten zs p j)
 | _=>False
def pcI (W0:PW) (zs:List Int) (m:Mon) (L:List PL) (W:PW):Prop:=match L with
 | [.val (.int .i64 a),.val (.int .i64 y),.val (.int .i64 z)]=>∃i:Nat,z=(i:Int)∧i≤zs.length∧Ext W0 W∧a=(plS zs m i:Int)∧y=(stN zs i:Int)
 | _=>False
def csI (W0:PW) (zs:List Int) (bs:List Iv) (F:Nat→Rat) (s t:Sl) (L:List PL) (W:PW):Prop:=match L with
 | [.val (.int .i64 z)]=>∃i:Nat,z=(i:Int)∧i≤zs.length∧Eo1 W0.w.heap.size W0 W∧VQ W s (stN zs zs.length) (Iw7 zs bs F i)∧Id4 W t zs
 | _=>False
def Jf4 (n:Nat) (L:List PL) (_:PW):Nat:=match L with
 | [_,.val (.int .i64 z)]=>n-z.toNat
 | _=>0
def Jf7 (n:Nat) (L:List PL) (_:PW):Nat:=match L with
 | [_,_,.val (.int .i64 z)]=>n-z.toNat
 | _=>0
theorem Ja6 {p:List Tm} (hp:POk p) {n i:Nat} (hi:i<n) (h3:n≤3) {t:Tm} (ht:t∈p):(An6 t.1 i).toNat<tpN (Ie8 p n) i:=by
 unfold tpN
 rw[List.getD_eq_getElem?_getD,List.getElem?_eq_getElem (by rw[Io1];exact hi),Is2]
 have h1:=(Hv3 (w:=Fv8 (i:Int)) (n:=0) (p:=p)).2 t ht
 have h2:Fv8 (i:Int) t.1=An6 t.1 i:=by unfold Fv8;rw[if_pos ⟨by omega,by omega⟩,Int.toNat_natCast]
 rw[h2] at h1
 have h3:=Dg9 (hp t ht) i
 show _<(Fd0 (Fv8 (i:Int)) 0 p).toNat+1
 omega
theorem In5 {W0:PW} {M:Nat→Prop} {s sb:Sl} {p:List Tm} {bs:List Iv} {k m:Nat} (h:Ab0 231 138 W0 s p) (hb:Bc3 231 W0 sb bs) (hz:BxN k m p bs) (hk:k≤100000):
  Aa0 Tryz.prog 18 [.agg ⟨[s.v]⟩,sb.v] W0 M fun v W'=>∃(s1:Sl),v = .tuple ⟨[Sl.v s1,.bool (decide (Ii7 p bs))]⟩∧Gv6 231 42 W' s1 (if Ii7 p bs then stN (Ie8 p bs.length) bs.length else 0) (Iw7 (Ie8 p bs.length) bs (ten (Ie8 p bs.length) p p.length) bs.length):=by
 apply Ik9
 have z1:=hz.m1
 have z2:=hz.len
 have z4:=hz.bl
 have hn:=h.n
 have hbn:=hb.n
 have bad:¬Ii7 p bs→∀W',∃s1:Sl,(Value.tuple ⟨[.slice none 0 0,.bool false]⟩) = .tuple ⟨[Sl.v s1,.bool (decide (Ii7 p bs))]⟩∧Gv6 231 42 W' s1 (if Ii7 p bs then stN (Ie8 p bs.length) bs.length else 0) (Iw7 (Ie8 p bs.length) bs (ten (Ie8 p bs.length) p p.length) bs.length):=fun hno W'=>⟨⟨none,0,0⟩,by rw[decide_eq_false hno],by rw[if_neg hno];exact⟨[],⟨rfl,Nat.le_refl _,by simp[maxLen],by simp,.inl rfl⟩,rfl,fun i h=>absurd h (Nat.not_lt_zero _)⟩⟩
 refine Bv2 h hb hz.sd (by omega) (by omega) (by omega) fun W2 hE2 _=>⟨_,rfl,fun hno W4 _=>bad (fun ok=>by simp[ok.1] at hno) W4,fun hyes=>?_⟩
 have hS:An3 p bs:=by simpa using hyes
 have hb3:=hS.1.1
 have htl:=Io1 p bs.length
 generalize hzs:Ie8 p bs.length=zs at *
 have hpk:=hz.ok
 refine⟨ctI W0 zs,Jf4 zs.length,⟨0,rfl,Nat.zero_le _,hE2,rfl⟩,?_⟩
 rintro l7 i8 W9 ⟨i,rfl,hi,hE9,rfl⟩
 refine⟨fun hlt=>?_,fun hge s13 W14 hE14 hO13 hF13=>?_⟩
 ·have hil:i<zs.length:=by omega
  refine In7 (h.ext hE9) (by omega) fun W11 hE11 _=>⟨_,rfl,by simp only[List.length_map,List.length_take,List.length_cons,List.length_nil];omega,by unfold I64;omega,⟨i+1,by push_cast;rfl,by omega,hE9.trans hE11,?_⟩,by show zs.length-Int.toNat ((i:Int)+1)<zs.length-Int.toNat (i:Int);omega⟩
  rw[List.take_succ_eq_append_getElem hil,List.map_append]
  have:zs[i]=Fd0 (Fv8 (i:Int)) 0 p:=by subst hzs;exact Is2 hil
  rw[this]
  rfl
 have:i=zs.length:=by omega
 subst this
 rw[List.take_length] at hO13
 have hz14:Id4 W14 s13 zs:=⟨_,hO13.row⟩
 refine Ie5 hz14 (by omega) fun z W16 hE16 hcnt=>⟨z,_,rfl,fun hno W19 _=>bad (fun ok=>by have:=ok.2;rw[hzs] at this;simp[this] at hno) W19,fun hyes2=>?_⟩
 have hT:Ie1 zs:=by simpa using hyes2
 have hok:Ii7 p bs:=⟨hS,by rw[hzs];exact hT⟩
 obtain rfl:=hcnt hT
 have h16:=hT.1
 have hN:=Im9 h16 (k:=zs.length) (by omega)
 have hNp:=Ie2 zs zs.length
 have E16:=hE9.trans (hE14.trans hE16)
 have h16p:=h.ext E16
 obtain⟨xs,hr,ha⟩:=h16p
 have hxl:=ha.len
 refine⟨⟨rfl,by omega,by omega⟩,Ba1 hr (by omega) fun s22 W21 hE21 ⟨hf22,hO22⟩=>⟨s22,rfl,?_⟩⟩
 have h22:Ab0 231 138 W21 s22 p:=⟨xs,hO22.row,ha.mono fun _ _ h=>h.ext hE21⟩
 have hn22:=h22.n
 refine⟨tfI W21 zs p,Jd8 p.length,⟨0,rfl,Nat.zero_le _,Ext.refl _,by simp,fun j hj=>⟨⟨none,0,0⟩,false,⟨none,0,0⟩,by simp[List.getElem?_replicate,hj],Ar9 W21⟩⟩,?_⟩
 rintro l25 i26 W27 ⟨j,rfl,hj,hE27,hq⟩
 refine⟨fun hlt=>?_,fun hge2 s42 W43 hE43 hO42 hF42=>?_⟩
 ·have hjl:j<p.length:=by omega
  have hP:=h22.ext hE27
  have hmem:=List.getElem_mem hjl
  obtain⟨h0,c1,d1,c2,e1,_,_,hqr⟩:=hP.at (List.getElem?_eq_getElem hjl)
  have het: ∀i,i<zs.length→(An6 p[j].1 i).toNat<tpN zs i:=fun i hi=>by rw[←hzs];exact Ja6 hpk (by omega) hb3.2 hmem
  refine⟨hP.inB (by omega) (by omega),_,_,_,c1,d1,c2,e1,pcI W27 zs p[j].1,Jf7 zs.length,⟨0,rfl,Nat.zero_le _,Ext.refl _,rfl,rfl⟩,?_⟩
  rintro i36 i37 i38 W39 ⟨i,rfl,hi,hE39,rfl,rfl⟩
  have hz39:=hz14.ext ((hE16.trans (hE21.trans hE27)).trans hE39)
  refine⟨fun hlt2=>?_,fun hge3=>?_⟩
  ·have hil:i<zs.length:=by have:=hz39.n;omega
   have b0:=h16 _ (List.getElem_mem hil)
   have eok:=Dg9 h0 i
   have e1:(stN zs i:Int)*(zs[i]+1)=(stN zs (i+1):Int):=by rw[←Ih5 hil b0.1,stN];push_cast;rfl
   have s1:=Im9 h16 (k:=i+1) (by omega)
   have s0:=Im9 h16 (k:=i) (by omega)
   have p0:=Is7 het i hi
   have p1:=Is7 het (i+1) (by omega)
   have eI:An6 p[j].1 i=((An6 p[j].1 i).toNat:Int):=by omega
   have e2:An6 p[j].1 i*(stN zs i:Int)=(((An6 p[j].1 i).toNat*stN zs i:Nat):Int):=by rw[eI,Int.toNat_natCast];push_cast;rfl
   have e3:(plS zs p[j].1 i:Int)+(((An6 p[j].1 i).toNat*stN zs i:Nat):Int)=(plS zs p[j].1 (i+1):Int):=by rw[plS];push_cast;rfl
   have e4:(An6 p[j].1 i).toNat*stN zs i≤plS zs p[j].1 (i+1):=by rw[plS];omega
   refine⟨hz39.inB (by omega) (by omega),zs[i],hz39.at hil,⟨by omega,by omega⟩,An6 p[j].1 i,Iu0 _ (by omega) _ _ _,?_⟩
   rw[e2,e3,e1]
   exact⟨by unfold I64;omega,by unfold I64;omega,by unfold I64;omega,by unfold I64;omega,by unfold I64;omega,by unfold I64;omega,⟨i+1,by push_cast;rfl,by omega,hE39,rfl,rfl⟩,by show zs.length-Int.toNat ((i:Int)+1)<zs.length-Int.toNat (i:Int);omega⟩
  ·have:i=zs.length:=by have:=hz39.n;omega
   subst this
   have p0:=Is7 het zs.length (Nat.le_refl _)
   have hll:=hq.1
   refine⟨⟨by omega,by omega⟩,by show plS zs p[j].1 zs.length<l25.length;omega,by unfold I64;omega,⟨j+1,by push_cast;rfl,by omega,hE27.trans hE39,?_⟩,by show p.length-Int.toNat ((j:Int)+1)<p.length-Int.toNat (j:Int);omega⟩
   refine((hq.ext hE39).set p0 (hqr.ext hE39)).congr fun x hx=>?_
   rw[Iz3 hjl]
   rfl
 have:j=p.length:=by omega
 subst this
 have E43:=E16.trans (hE21.trans (hE27.trans hE43))
 have hV:VQ W43 s42 (stN zs zs.length) (ten zs p p.length):=⟨l25,hO42,hq.ext hE43⟩
 have hnew: ∀g,s42.v.ownBlock=some g→W0.w.heap.size≤g:=fun g hg=>(hF42 g hg).1
 have hza: ∀g,s13.v.ownBlock=some g→¬s42.v.ownBlock=some g:=fun g h1 h2=>by
  obtain⟨k1,k2⟩:=(hz14.ext (hE16.trans (hE21.trans hE27))).pub (by have:=hT.2.1;omega) h1
  exact k2 ((hF42 g h2).2 k1)
 obtain⟨D,N,hfit,hD,k1,k2⟩:=hz.bd
 have hzb: ∀i,IvS (2*m+1) (Bm3 bs i):=fun i=>(hz.side i).sz
 refine⟨csI W0 zs bs (ten zs p p.length) s42 s13,Iv2 zs.length,⟨0,rfl,Nat.zero_le _,E43.toM _,hV,hz14.ext (hE16.trans (hE21.trans (hE27.trans hE43)))⟩,?_⟩
 rintro i46 W47 ⟨i,rfl,hi,hE47,hV47,hz47⟩
 refine⟨fun hlt=>?_,fun hge3 W58 hE58=>⟨s42,by rw[decide_eq_true hok],?_⟩⟩
 ·have hil:i<zs.length:=by omega
  have hib:i<bs.length:=by omega
  have hB:=Jb2 hb hE47
  obtain⟨x,⟨s48,b49,s50,s51,b52,s53,rfl,g1,g2⟩,hel⟩:=hB.at hib
  rw[←Fi1 hib] at g1 g2
  refine⟨hB.inB (by omega) (by omega),s48,b49,s50,s51,b52,s53,hel 0 rfl,fun r W55 hE55 hel5 hFr=>?_⟩
  have hX:XQ W55 r 2 (bxq (Bm3 bs i)):=In9.mk2 hel5 (g1.ext hE55) (g2.ext hE55)
  have aw:Iz4 r s42:=fun g h1 h2=>(VQ.pub hV47 hNp h2).2 ((hFr g h1).2 (VQ.pub hV47 hNp h2).1)
  obtain⟨D1,N1,f1,f2,f3,f4⟩:=Ir6 h16 (Iq2 hfit p.length) hD k1 k2 hzb (by omega) i (by omega)
  have hi4:i*400000≤3*400000:=Nat.mul_le_mul_right _ (by omega)
  intro W' hE'
  have hdo:=Jc7 (zs:=zs) (r:=r) (k:=k+i*400000) f2 f3 f4 (hzb i) (If0 h16 i) (by omega) (by omega)
  have hlin:=If3 (T:=Iv1 (bxq (Bm3 bs i) 0) (bxq (Bm3 bs i) 1-bxq (Bm3 bs i) 0) (tpN zs i)) (g:=68) ((hV47.ext hE55).ext hE') ((hz47.ext hE55).ext hE') hT hil (hX.ext hE') aw f1 (fun f g he j hj=>Iu8 he hj) hdo
  rw[Iy9] at hlin
  refine⟨_,_,hlin,fun b hb'=>⟨(VQ.pub ((hV47.ext hE55).ext hE') hNp hb').2,.inr (hnew b hb')⟩,fun v W57 hX57 hP=>?_⟩
  have hput:=OwV.did (hV47.ext hE55) hNp hE' hX57
  exact⟨hP.1,by unfold I64;omega,⟨i+1,by push_cast;rfl,by omega,(hE47.trans (hE55.toM _)).trans (hput.Fi8 hnew),hP.2,(hz47.ext hE55).put hput hza⟩,by show zs.length-Int.toNat ((i:Int)+1)<zs.length-Int.toNat (i:Int);omega⟩
 ·have:i=zs.length:=by omega
  subst this
  rw[if_pos hok,←htl]
  exact(hV47.ext hE58).qs
theorem Ik5 {W0 W:PW} {M:Nat→Prop} {s sb:Sl} {p:List Tm} {bs:List Iv} {k m:Nat} {K:Value→PW→Prop} (h:Ab0 231 138 W s p) (hb:Bc3 231 W sb bs) (hz:BxN k m p bs) (hk:k≤100000) (kont: ∀(s1:Sl) (W':PW),Ext W W'→(Gv6 231 42 W' s1 (if Ii7 p bs then stN (Ie8 p bs.length) bs.length else 0) (Iw7 (Ie8 p bs.length) bs (ten (Ie8 p bs.length) p p.length) bs.length))→K (.tuple ⟨[Sl.v s1,.bool (decide (Ii7 p bs))]⟩) W'):
  Aa1 Tryz.prog W0 M 18 [.agg ⟨[s.v]⟩,sb.v] W K:=
 Aa2 (fun W' hE=>In5 (M:=fun _=>False) (h.ext hE) (hb.ext hE) hz hk) (fun W' v W'' hE hE' hP=>by
  obtain⟨s1,rfl,h⟩:=hP
  exact kont s1 W'' (hE.trans hE') h)
end Go.Proofs.YtokefihiadbkbaaGreatDoor
/- bern.Halves. -/
namespace Go.Proofs.YtokefihiadbkbaaGreatDoor
open Go Go.SX
abbrev Ig4:Rat:=((1:Int):Rat)/((2:Int):Rat)
def hiT (n:Nat) (f:Nat→Rat) (i:Nat):Rat:=dc Ig4 f (n-1-i) i
def Gc4 (c:Nat) (zs:List Int) (i:Int):Prop:=Ie1 zs∧c=stN zs zs.length∧0≤i∧i<(zs.length:Int)
instance (c:Nat) (zs:List Int) (i:Int):Decidable (Gc4 c zs i):=by unfold Gc4;infer_instance
end Go.Proofs.YtokefihiadbkbaaGreatDoor
/- bern.At. -/
namespace Go.Proofs.YtokefihiadbkbaaGreatDoor
open Go Go.SX
def Il7 (c:Nat) (zs:List Int) (e:Nat):Prop:=Ie1 zs∧c=stN zs zs.length∧e=zs.length
instance (c:Nat) (zs:List Int) (e:Nat):Decidable (Il7 c zs e):=by unfold Il7;infer_instance
end Go.Proofs.YtokefihiadbkbaaGreatDoor
/- Numbers at places that are sums over a polynomial's terms of products over the sides: plain law. -/
namespace Go.Proofs.YtokefihiadbkbaaGreatDoor
open Go Go.SX
def dig (zs:List Int) (j k:Nat):Nat:=k/stN zs j%tpN zs j
theorem Jq8 (zs:List Int) (j k:Nat):dig zs j k<tpN zs j:=Nat.mod_lt _ (Ie4 zs j)
theorem Jh2 {zs:List Int} {i j:Nat} (h:j<i) (a Y:Nat):dig zs j (a+Y*stN zs i)=dig zs j a:=by
 obtain⟨R,hR⟩:=Ig5 zs j (i-(j+1))
 rw[show j+1+(i-(j+1))=i by omega] at hR
 unfold dig
 have e:Y*stN zs i=(Y*R)*tpN zs j*stN zs j:=by rw[hR,Nat.mul_assoc (Y*R),Nat.mul_comm (tpN zs j),Nat.mul_assoc Y,Nat.mul_comm R]
 rw[e,Nat.add_mul_div_right _ _ (Ie2 zs j),Nat.add_mul_mod_self_right]
theorem Ji4 {zs:List Int} {i j a c y:Nat} (ha:a<stN zs i) (hy:y<tpN zs i):dig zs j (a+(tpN zs i*c+y)*stN zs i)=if j=i then y else dig zs j (a+tpN zs i*c*stN zs i):=by
 have hs:=Ie2 zs i
 have hn:=Ie4 zs i
 by_cases e:j=i
 ·subst e
  rw[if_pos rfl]
  exact(Iv5 (c:=c) hs ha hy).2.1
 ·rw[if_neg e]
  by_cases h:j<i
  ·rw[Jh2 h,Jh2 h]
  ·obtain⟨R,hR⟩:=Ig5 zs i (j-(i+1))
   rw[show i+1+(j-(i+1))=j by omega] at hR
   unfold dig
   have k1: ∀y,y<tpN zs i→(a+(tpN zs i*c+y)*stN zs i)/stN zs j=c/R:=fun y hy=>by
    rw[hR,←Nat.div_div_eq_div_mul,←Nat.div_div_eq_div_mul,(Iv5 (c:=c) hs ha hy).1,Nat.mul_add_div hn,Nat.div_eq_of_lt hy,Nat.add_zero]
   have k2:=k1 0 hn
   rw[Nat.add_zero] at k2
   rw[k1 y hy,k2]
theorem Jm5 {zs:List Int} {i j k x:Nat} (hx:x<tpN zs i):dig zs j (Ie3 (stN zs i) (tpN zs i) k+x*stN zs i)=if j=i then x else dig zs j k:=by
 obtain⟨a,c,j0,ha,hj,hk,hq,hm,hb⟩:=Il4 (k:=k) (Ie2 zs i) (Ie4 zs i)
 have e:Ie3 (stN zs i) (tpN zs i) k+x*stN zs i=a+(tpN zs i*c+x)*stN zs i:=by rw[hb,Nat.add_mul];omega
 rw[e,Ji4 ha hx]
 by_cases h:j=i
 ·rw[if_pos h,if_pos h]
 ·rw[if_neg h,if_neg h]
  have:=Ji4 (j:=j) (c:=c) ha hj
  rw[if_neg h,←hk] at this
  exact this.symm
def Jg4 (f:Nat→Rat):Nat→Rat
 | 0=>1
 | n+1=>Jg4 f n*f n
theorem Jf8 {f g:Nat→Rat} : ∀n,(∀j,j<n→f j=g j)→Jg4 f n=Jg4 g n
 | 0,_=>rfl
 | n+1,h=>by rw[Jg4,Jg4,Jf8 n fun j hj=>h j (by omega),h n (by omega)]
theorem Jg3 (f:Nat→Rat) (x:Rat) (i:Nat): ∀n,i<n→Jg4 (fun j=>if j=i then x else f j) n=Jg4 (fun j=>if j=i then 1 else f j) n*x
 | 0,h=>absurd h (Nat.not_lt_zero _)
 | n+1,h=>by
  rw[Jg4,Jg4]
  by_cases e:n=i
  ·subst e
   rw[if_pos rfl,if_pos rfl,Rat.mul_one]
   congr 1
   exact Jf8 n fun j hj=>by rw[if_neg (by omega),if_neg (by omega)]
  ·rw[if_neg e,if_neg e,Jg3 f x i n (by omega)]
   grind
theorem Jf9 {G H:Mon→Rat} : ∀{p:List Tm},(∀t∈p,G t.1=H t.1)→lin G p=lin H p
 | [],_=>rfl
 | t :: r,h=>by rw[lin,lin,h t (by simp),Jf9 fun u hu=>h u (by simp[hu])]
structure Jp9 (n:Nat) (T:(Nat→Rat)→Nat→Rat):Prop where
 add: ∀(f g:Nat→Rat) (k:Nat),k<n→T (fun j=>f j+g j) k=T f k+T g k
 smul: ∀(c:Rat) (f:Nat→Rat) (k:Nat),k<n→T (fun j=>c*f j) k=c*T f k
 loc: ∀f g:Nat→Rat,(∀j,j<n→f j=g j)→∀k,k<n→T f k=T g k
theorem Jp9.lin {n:Nat} {T:(Nat→Rat)→Nat→Rat} (h:Jp9 n T) (c:Mon→Rat) (f:Mon→Nat→Rat) {k:Nat} (hk:k<n): ∀p:List Tm,T (fun j=>SX.lin (fun m=>c m*f m j) p) k=SX.lin (fun m=>c m*T (f m) k) p
 | []=>by
  have e:(fun j=>SX.lin (fun m=>c m*f m j) [])=fun j=>(0:Rat)*(fun _=>(0:Rat)) j:=funext fun j=>by rw[SX.lin,Rat.mul_zero]
  rw[e,h.smul 0 _ k hk,SX.lin,Rat.zero_mul]
 | t :: r=>by
  have e:(fun j=>SX.lin (fun m=>c m*f m j) (t :: r))=fun j=>(fun j=>(t.2*c t.1)*f t.1 j) j+(fun j=>SX.lin (fun m=>c m*f m j) r) j:=funext fun j=>by
   show t.2*(c t.1*f t.1 j)+SX.lin (fun m=>c m*f m j) r=t.2*c t.1*f t.1 j+SX.lin (fun m=>c m*f m j) r
   rw[Rat.mul_assoc]
  rw[e,h.add _ _ k hk,h.smul _ _ k hk,Jp9.lin h c f hk r,SX.lin,Rat.mul_assoc]
def tmF (zs:List Int) (n:Nat) (f:Nat→Mon→Nat→Rat) (m:Mon) (k:Nat):Rat:=Jg4 (fun j=>f j m (dig zs j k)) n
theorem Jn7 {zs:List Int} {n i x k k':Nat} (hi:i<n) (f:Nat→Mon→Nat→Rat) (m:Mon) (h: ∀j,j<n→dig zs j k'=if j=i then x else dig zs j k):tmF zs n f m k'=Jg4 (fun j=>if j=i then 1 else f j m (dig zs j k)) n*f i m x:=by
 rw[←Jg3 (fun j=>f j m (dig zs j k)) (f i m x) i n hi]
 unfold tmF
 refine Jf8 n fun j hj=>?_
 rw[h j hj]
 by_cases e:j=i
 ·rw[if_pos e,if_pos e,e]
 ·rw[if_neg e,if_neg e]
theorem Jm2 {zs:List Int} {i n R:Nat} {T:(Nat→Rat)→Nat→Rat} {F:Nat→Rat} {f:Nat→Mon→Nat→Rat} {p:List Tm} (hi:i<n) (hT:Jp9 (tpN zs i) T) (hF: ∀k,k<stN zs i*tpN zs i*R→F k=lin (fun m=>tmF zs n f m k) p) {k:Nat} (hk:k<stN zs i*tpN zs i*R):
  Id6 (stN zs i) (tpN zs i) T F k=lin (fun m=>tmF zs n (fun j=>if j=i then(fun m=>T (f i m)) else f j) m k) p:=by
 have hs:=Ie2 zs i
 have hn:=Ie4 zs i
 obtain⟨h1,h2,h3,h4⟩:=Id8 (k:=k) hs hn
 unfold Id6
 rw[hT.loc _ (fun x=>lin (fun m=>Jg4 (fun j=>if j=i then 1 else f j m (dig zs j k)) n*f i m x) p) (fun x hx=>?_) _ h4,hT.lin _ _ h4]
 ·refine Jf9 fun t _=>?_
  rw[←Jg3 (fun j=>f j t.1 (dig zs j k)) _ i n hi]
  unfold tmF
  refine Jf8 n fun j hj=>?_
  dsimp only
  by_cases e:j=i
  ·subst e;rw[if_pos rfl,if_pos rfl];rfl
  ·rw[if_neg e,if_neg e]
 ·rw[hF _ (Ig2 hs hn (by omega) h1 hx).1]
  exact Jf9 fun t _=>Jn7 hi f t.1 fun j hj=>Jm5 hx
/-! ### A polynomial's numbers at their places. -/
def eg (m : Mon) (j : Nat) : Nat := (An6 m j).toNat
theorem Jl6 {zs:List Int} {m:Mon} (h: ∀k,k<zs.length→eg m k<tpN zs k): ∀n,n≤zs.length→∀j,j<n→dig zs j (plS zs m n)=eg m j
 | 0,_,j,hj=>absurd hj (Nat.not_lt_zero _)
 | n+1,hn,j,hj=>by
  have h1:=Is7 (m:=m) h n (by omega)
  rw[plS]
  by_cases e:j=n
  ·subst e
   have h2:=h j (by omega)
   have:=(Iv5 (st:=stN zs j) (n:=tpN zs j) (c:=0) (Ie2 zs j) h1 h2).2.1
   rw[Nat.mul_zero,Nat.zero_add] at this
   exact this
  ·rw[Jh2 (by omega)]
   exact Jl6 h n (by omega) j (by omega)
theorem Jj5 {zs:List Int} : ∀n k k',k<stN zs n→k'<stN zs n→(∀j,j<n→dig zs j k=dig zs j k')→k=k'
 | 0,k,k',h,h',_=>by have h:k<1:=h;have h':k'<1:=h';omega
 | n+1,k,k',h,h',hd=>by
  have hs:=Ie2 zs n
  have e1:k%stN zs n+k/stN zs n*stN zs n=k:=by rw[Nat.mul_comm];exact Nat.mod_add_div k _
  have e2:k'%stN zs n+k'/stN zs n*stN zs n=k':=by rw[Nat.mul_comm];exact Nat.mod_add_div k' _
  have hq: ∀x,x<stN zs (n+1)→dig zs n x=x/stN zs n:=fun x hx=>Nat.mod_eq_of_lt (Nat.div_lt_of_lt_mul hx)
  have hm:k%stN zs n=k'%stN zs n:=by
   refine Jj5 n _ _ (Nat.mod_lt _ hs) (Nat.mod_lt _ hs) fun j hj=>?_
   have a1:=Jh2 (zs:=zs) hj (k%stN zs n) (k/stN zs n)
   have a2:=Jh2 (zs:=zs) hj (k'%stN zs n) (k'/stN zs n)
   rw[e1] at a1
   rw[e2] at a2
   rw[←a1,←a2]
   exact hd j (by omega)
  have hd':=hd n (by omega)
  rw[hq k h,hq k' h'] at hd'
  rw[←e1,←e2,hm,hd']
theorem Jl1 (zs:List Int) (m:Mon) (k:Nat): ∀n,Jg4 (fun j=>uv (eg m j) (dig zs j k)) n=if ∀j,j<n→dig zs j k=eg m j then 1 else 0
 | 0=>by rw[if_pos fun j hj=>absurd hj (Nat.not_lt_zero _)];rfl
 | n+1=>by
  rw[Jg4,Jl1 zs m k n]
  unfold uv
  by_cases h1: ∀j,j<n→dig zs j k=eg m j
  ·by_cases h2:dig zs n k=eg m n
   ·rw[if_pos h1,if_pos h2,if_pos,Rat.mul_one]
    intro j hj
    by_cases e:j=n
    ·rw[e,h2]
    ·exact h1 j (by omega)
   ·rw[if_pos h1,if_neg h2,if_neg (fun h=>h2 (h n (by omega))),Rat.mul_zero]
  ·have h3:¬∀j,j<n+1→dig zs j k=eg m j:=fun h=>h1 fun j hj=>h j (by omega)
   rw[if_neg h1,if_neg h3,Rat.zero_mul]
def Fits (zs:List Int) (p:List Tm):Prop:=∀t∈p,(∀j,j<zs.length→eg t.1 j<tpN zs j)∧∀j,zs.length≤j→j<3→eg t.1 j=0
theorem Jq3 {a b:Mon} (ha:a.ok) (hb:b.ok) (h: ∀j,j<3→eg a j=eg b j):a=b:=by
 have a0:=Dg9 ha 0;have a1:=Dg9 ha 1;have a2:=Dg9 ha 2
 have b0:=Dg9 hb 0;have b1:=Dg9 hb 1;have b2:=Dg9 hb 2
 have k0:(An6 a 0).toNat=(An6 b 0).toNat:=h 0 (by omega)
 have k1:(An6 a 1).toNat=(An6 b 1).toNat:=h 1 (by omega)
 have k2:(An6 a 2).toNat=(An6 b 2).toNat:=h 2 (by omega)
 have x0:An6 a 0=An6 b 0:=by omega
 have x1:An6 a 1=An6 b 1:=by omega
 have x2:An6 a 2=An6 b 2:=by omega
 exact Mon.Fp2 x0 x1 x2
theorem Jo9 {zs:List Int} {p:List Tm} (hp:Av6 p) (ho:POk p) (hf:Fits zs p) {k:Nat} (hk:k<stN zs zs.length):ten zs p p.length k=lin (fun m=>tmF zs zs.length (fun j m=>uv (eg m j)) m k) p:=by
 have hpl: ∀t∈p,((∀j,j<zs.length→dig zs j k=eg t.1 j)↔plS zs t.1 zs.length=k):=fun t ht=>by
  have h1:=Jl6 (m:=t.1) (hf t ht).1 zs.length (Nat.le_refl _)
  constructor
  ·intro h
   exact Jj5 zs.length _ _ (Is7 (hf t ht).1 _ (Nat.le_refl _)) hk fun j hj=>by rw[h1 j hj,h j hj]
  ·rintro rfl j hj
   exact h1 j hj
 have key: ∀j,j≤p.length→ten zs p j k=lin (fun m=>if plS zs m zs.length=k then 1 else 0) (p.take j):=by
  intro j
  induction j with
  | zero=>intro _;rfl
  | succ j ih=>
   intro hj
   have hjl:j<p.length:=by omega
   rw[Iz3 hjl,List.take_succ_eq_append_getElem hjl,Gl3,←ih (by omega)]
   unfold Ij6
   show _=_+(p[j].2*(if plS zs p[j].1 zs.length=k then 1 else 0)+0)
   by_cases e:plS zs p[j].1 zs.length=k
   ·rw[if_pos e.symm,if_pos e,ih (by omega)]
    have z:lin (fun m=>if plS zs m zs.length=k then(1:Rat) else 0) (p.take j)=lin (fun _=>0) (p.take j):=Jf9 fun t ht=>by
     refine if_neg fun e2=>?_
     have hm:=List.mem_of_mem_take ht
     have hpj:=List.getElem_mem hjl
     obtain⟨i,hi,rfl⟩:=List.getElem_of_mem ht
     rw[List.length_take] at hi
     rw[List.getElem_take] at e2 hm
     have hlt:=List.pairwise_iff_getElem.1 hp.srt i j (by omega) hjl (by omega)
     refine Mon.Eg6 hlt (Jq3 (ho _ hm) (ho _ hpj) fun q hq3=>?_)
     by_cases hq:q<zs.length
     ·rw[←(hpl _ hm).2 e2 q hq,←(hpl _ hpj).2 e q hq]
     ·rw[(hf _ hm).2 q (by omega) hq3,(hf _ hpj).2 q (by omega) hq3]
    have z0: ∀l:List Tm,lin (fun _=>(0:Rat)) l=0:=fun l=>by
     induction l with
     | nil=>rfl
     | cons t r ih=>rw[lin,ih,Rat.mul_zero,Rat.add_zero]
    rw[z,z0]
    grind
   ·rw[if_neg (fun h=>e h.symm),if_neg e]
    grind
 rw[key p.length (Nat.le_refl _),List.take_length]
 refine Jf9 fun t ht=>?_
 unfold tmF
 rw[Jl1]
 by_cases e:plS zs t.1 zs.length=k
 ·rw[if_pos e,if_pos ((hpl t ht).2 e)]
 ·rw[if_neg e,if_neg fun h=>e ((hpl t ht).1 h)]
/-! ### Its coefficients. -/
theorem Jo2 (lo : Rat) (f g : Nat → Rat) (k i : Nat) : ∀ n, ws lo (fun j => f j + g j) k i n = ws lo f k i n + ws lo g k i n
  | 0 => by show (0 : Rat) = 0 + 0; grind
  | n + 1 => by rw [ws, ws, ws, Jo2 lo f g k i n]; grind
theorem Jl4 (lo c:Rat) (f:Nat→Rat) (k i:Nat): ∀n,ws lo (fun j=>c*f j) k i n=c*ws lo f k i n
 | 0=>by show(0:Rat)=c*0;grind
 | n+1=>by rw[ws,ws,Jl4 lo c f k i n];grind
theorem Jj7 (f g:Nat→Rat) (k:Nat): ∀n,Iv7 (fun j=>f j+g j) k n=Iv7 f k n+Iv7 g k n
 | 0=>by show(0:Rat)=0+0;grind
 | n+1=>by rw[Iv7,Iv7,Iv7,Jj7 f g k n];grind
theorem Jo3 (lo w:Rat) {n:Nat} :Jp9 n (Iv1 lo w n) where
 add f g k hk:=by
  unfold Iv1 Jd3
  rw[←Jj7]
  refine Ih1 (n:=n) (fun j hj=>?_) _ (by omega)
  unfold Jb7
  rw[Ji1 hj,Ji1 hj,Ji1 hj,Jo2]
  grind
 smul c f k hk:=by
  unfold Iv1 Jd3
  rw[←Jg7]
  refine Ih1 (n:=n) (fun j hj=>?_) _ (by omega)
  unfold Jb7
  rw[Ji1 hj,Ji1 hj,Jl4]
  grind
 loc f g h k hk:=Iu8 h hk
def gF (zs:List Int) (bs:List Iv) (j:Nat) (m:Mon):Nat→Rat:=gB (Bm3 bs j).1 (Bm3 bs j).2 (tpN zs j-1) (eg m j)
theorem Jo8 {zs:List Int} {bs:List Iv} {i:Nat} {m:Mon} (hm:eg m i<tpN zs i) {k:Nat} (hk:k<tpN zs i):Iv1 (Bm3 bs i).1 ((Bm3 bs i).2-(Bm3 bs i).1) (tpN zs i) (uv (eg m i)) k=gF zs bs i m k:=by
 have hn:=Ie4 zs i
 have:=Jo5 (lo:=(Bm3 bs i).1) (w:=(Bm3 bs i).2-(Bm3 bs i).1) (d:=tpN zs i-1) (m:=eg m i) (k:=k) (by omega) (by omega)
 rw[show tpN zs i-1+1=tpN zs i by omega] at this
 unfold Iv1 gF
 rw[this]
 congr 1
 grind
theorem Jj6 {zs:List Int} {bs:List Iv} {p:List Tm} (hp:Av6 p) (ho:POk p) (hf:Fits zs p): ∀i,i≤zs.length→∀k,k<stN zs zs.length→Iw7 zs bs (ten zs p p.length) i k=lin (fun m=>tmF zs zs.length (fun j m=>if j<i then gF zs bs j m else uv (eg m j)) m k) p
 | 0,_,k,hk=>by
  rw[Iw7,Jo9 hp ho hf hk]
  rfl
 | i+1,hi,k,hk=>by
  obtain⟨R,hR⟩:=Ig5 zs i (zs.length-(i+1))
  rw[show i+1+(zs.length-(i+1))=zs.length by omega] at hR
  rw[hR] at hk
  rw[Iw7,Jm2 (n:=zs.length) (by omega) (Jo3 _ _) (fun k hk=>Jj6 hp ho hf i (by omega) k (by rw[hR];exact hk)) hk]
  refine Jf9 fun t ht=>Jf8 _ fun j hj=>?_
  dsimp only
  by_cases e:j=i
  ·subst e
   rw[if_pos rfl,if_pos (Nat.lt_succ_self j),if_neg (Nat.lt_irrefl j)]
   exact Jo8 ((hf t ht).1 j hj) (Jq8 zs j k)
  ·rw[if_neg e]
   by_cases h:j<i
   ·rw[if_pos h,if_pos (by omega)]
   ·rw[if_neg h,if_neg (by omega)]
theorem Jm8 {zs:List Int} {bs:List Iv} {p:List Tm} (hp:Av6 p) (ho:POk p) (hf:Fits zs p) {k:Nat} (hk:k<stN zs zs.length):Iw7 zs bs (ten zs p p.length) zs.length k=lin (fun m=>tmF zs zs.length (gF zs bs) m k) p:=by
 rw[Jj6 hp ho hf _ (Nat.le_refl _) k hk]
 refine Jf9 fun t _=>Jf8 _ fun j hj=>?_
 dsimp only
 rw[if_pos hj]
end Go.Proofs.YtokefihiadbkbaaGreatDoor
