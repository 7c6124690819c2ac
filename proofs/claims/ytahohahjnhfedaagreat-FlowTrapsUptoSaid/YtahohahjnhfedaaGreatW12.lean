/- The reference's SpanWithin, fits, Trap, End. -/
import Derived.Test.YtahohahjnhfedaaGreatW11
import Derived.Test.YtahohahjnhfedaaGreatR16
import Derived.Test.YtahohahjnhfedaaGreatLib2
import Derived.Test.YtahohahjnhfedaaGreatLib3
import Derived.Test.YtahohahjnhfedaaGreatRows
import Derived.WalkKit
import Derived.ProofKit
import Derived.OpenShut
import Derived.JoinedCond
import Derived.Carry
import Derived.Deep.Strs
import Derived.Deep.Slices
import Derived.Test.YtahohahjnhfedaaGreatW10
import Derived.Test.YtahohahjnhfedaaGreatW8
import Derived.Test.YtahohahjnhfedaaGreatW5
import Derived.Test.YtahohahjnhfedaaGreatR14
import Derived.Test.YtahohahjnhfedaaGreatW9
import Derived.Test.YtahohahjnhfedaaGreatR17
import Derived.Test.YtahohahjnhfedaaGreatLib4
set_option linter.unusedVariables false
set_option linter.unusedSimpArgs false
set_option maxRecDepth 100000
namespace Go.Proofs.YtahohahjnhfedaaGreat
open Go Go.SX
theorem Kc2 {W0:PW} {M:Nat→Prop} {l1 l2:List Value} {x y:Iv} {k:Nat} (h1:Ah6 240 W0 l1 x) (h2:Ah6 240 W0 l2 y) (hx:IvS k x) (hy:IvS k y) (hk:k≤500000000):
  Aa0 Tryz.prog 57 [.agg ⟨l1⟩,.agg ⟨l2⟩] W0 M fun v W'=>v = .bool (decide (Ft1 x y))∧True:=by
 obtain⟨s0,b0,t0,s1,b1,t1,rfl,h1,h1'⟩:=h1
 obtain⟨s2,b2,t2,s3,b3,t3,rfl,h2,h2'⟩:=h2
 apply Ka3
 refine Ar1 h2 h1 hy.1 hx.1 hk hk fun W2 hE2 _=>⟨_,rfl,fun h=>Ar1 (h1'.ext hE2) (h2'.ext hE2) hx.2 hy.2 hk hk fun W5 hE5 _=>⟨_,rfl,fun W7 hE7=>⟨?_,trivial⟩⟩,fun h W8 hE8=>⟨?_,trivial⟩⟩
 ·have h:=Dn3.1 h
  congr 1
  rw[decide_eq_decide,Dn3]
  exact⟨fun e=>⟨h,e⟩,fun e=>e.2⟩
 ·rw[decide_eq_false fun e=>h (Dn3.2 e.1)]
theorem Ka6 {W0 W:PW} {M:Nat→Prop} {l1 l2:List Value} {x y:Iv} {k:Nat} {K:Value→PW→Prop} (h1:Ah6 240 W l1 x) (h2:Ah6 240 W l2 y) (hx:IvS k x) (hy:IvS k y) (hk:k≤500000000) (kont: ∀(W':PW),Ext W W'→(True)→K (.bool (decide (Ft1 x y))) W'):
  Aa1 Tryz.prog W0 M 57 [.agg ⟨l1⟩,.agg ⟨l2⟩] W K:=
 Aa2 (fun W' hE=>Kc2 (M:=fun _=>False) (h1.ext hE) (h2.ext hE) hx hy hk) (fun W' v W'' hE hE' hP=>by
  obtain⟨rfl,h⟩:=hP
  exact kont W'' (hE.trans hE') h)
theorem Kl4 {W0:PW} {M:Nat→Prop} {s sx se u t:Sl} {b:Bool} {f:List (List Tm)} {x e:List Iv} {h:Rat} {k:Nat} (hf:RPs W0 s f) (hx:Fx4 240 W0 sx x) (he:Fx4 240 W0 se e) (hh:Ab6 240 W0 b u t h) (hl:f.length≤1000) (hp: ∀p∈f,p.length≤1099511627776) (kx: ∀y∈x,IvS k y) (ke: ∀y∈e,IvS k y) (hk:k≤1000) (lx:x.length≤1000) (le:e.length≤1000):
  Aa0 Tryz.prog 46 [s.v,sx.v,se.v,.agg ⟨[.bool b,u.v,t.v]⟩] W0 M fun v W'=>v = .bool (decide (Jy9 f x e h))∧True:=by
 apply Kg1
 have n0:=hf.n
 have n1:=hx.n
 have n2:=he.n
 have no:¬Jy9 f x e h→Value.bool false = .bool (decide (Jy9 f x e h))∧True:=fun hno=>⟨by rw[decide_eq_false hno],trivial⟩
 refine Jz4 hf (by omega) hp fun W2 hE2 _=>⟨_,rfl,fun b1=>?_,fun b1 W _=>no fun ok=>of_decide_eq_false b1 ok.1⟩
 refine He1 (hx.ext hE2) kx (by omega) (by omega) fun W5 hE5 _=>⟨_,rfl,fun b2=>?_,fun b2 W _=>no fun ok=>of_decide_eq_false b2 ok.2.1⟩
 refine He1 (he.ext (hE2.trans hE5)) ke (by omega) (by omega) fun W8 hE8 _=>⟨_,rfl,fun b3=>⟨fun h1=>⟨fun h2=>?_,fun h2 W _=>no fun ok=>h2 (by have:=ok.2.2.2.2.1;omega)⟩,fun h1 W _=>no fun ok=>h1 (by have:=ok.2.2.2.1;omega)⟩,fun b3 W _=>no fun ok=>of_decide_eq_false b3 ok.2.2.1⟩
 refine Aq7 (hh.ext (hE2.trans (hE5.trans hE8))).1 fun W11 hE11 _=>⟨_,rfl,fun W13 _=>⟨?_,trivial⟩⟩
 congr 1
 rw[Bo6,decide_eq_decide]
 exact⟨fun h3=>⟨of_decide_eq_true b1,of_decide_eq_true b2,of_decide_eq_true b3,by omega,by omega,Al3.1 h3⟩,fun ok=>Al3.2 ok.2.2.2.2.2⟩
theorem Kb7 {W0 W:PW} {M:Nat→Prop} {s sx se u t:Sl} {b:Bool} {f:List (List Tm)} {x e:List Iv} {h:Rat} {k:Nat} {K:Value→PW→Prop} (hf:RPs W s f) (hx:Fx4 240 W sx x) (he:Fx4 240 W se e) (hh:Ab6 240 W b u t h) (hl:f.length≤1000) (hp: ∀p∈f,p.length≤1099511627776) (kx: ∀y∈x,IvS k y) (ke: ∀y∈e,IvS k y) (hk:k≤1000) (lx:x.length≤1000) (le:e.length≤1000) (kont: ∀(W':PW),Ext W W'→(True)→K (.bool (decide (Jy9 f x e h))) W'):
  Aa1 Tryz.prog W0 M 46 [s.v,sx.v,se.v,.agg ⟨[.bool b,u.v,t.v]⟩] W K:=
 Aa2 (fun W' hE=>Kl4 (M:=fun _=>False) (hf.ext hE) (hx.ext hE) (he.ext hE) (hh.ext hE) hl hp kx ke hk lx le) (fun W' v W'' hE hE' hP=>by
  obtain⟨rfl,h⟩:=hP
  exact kont W'' (hE.trans hE') h)
theorem Kl1 {W0:PW} {M:Nat→Prop} {s sx se u t:Sl} {b:Bool} {f:List (List Tm)} {x e:List Iv} {h:Rat} (hf:RPs W0 s f) (hx:Fx4 240 W0 sx x) (he:Fx4 240 W0 se e) (hh:Ab6 240 W0 b u t h) (hl:f.length≤4) (hb: ∀q∈f,Bd 56029 q∧q.length≤14) (ho: ∀q∈f,POk q) (kx: ∀y∈x,IvS 4 y) (ke: ∀y∈e,IvS 4 y) (lx:x.length≤5) (le:e.length≤5) (hz:Sz 4 h):
  Aa0 Tryz.prog 14 [s.v,sx.v,se.v,.agg ⟨[.bool b,u.v,t.v]⟩] W0 M fun v W'=>v = .bool (decide (Kc4 f x e h))∧True:=by
 apply Kg4
 have n0:=hf.n
 have no:¬Kc4 f x e h→Value.bool false = .bool (decide (Kc4 f x e h))∧True:=fun hno=>⟨by rw[decide_eq_false hno],trivial⟩
 refine Kb7 hf hx he hh (by omega) (fun p hp=>by have:=(hb p hp).2;omega) kx ke (by omega) (by omega) (by omega) fun W2 hE2 _=>⟨_,rfl,fun b1 W _=>no fun ok=>by simp[ok.1] at b1,fun b1=>?_⟩
 have fit:Jy9 f x e h:=by simpa using b1
 refine⟨ftI W2 f x e h,Kq0 f.length,⟨0,rfl,Nat.zero_le _,Ext.refl _,fun y hy=>absurd hy (Nat.not_lt_zero _)⟩,?_⟩
 rintro i7 W8 ⟨j,rfl,hj,hE8,hall⟩
 refine⟨fun hlt=>?_,fun hge W52 _=>⟨?_,trivial⟩⟩
 rotate_left
 ·have:j=f.length:=by omega
  subst this
  rw[decide_eq_true (show Kc4 f x e h from⟨fit,hall⟩)]
 have hjl:j<f.length:=by omega
 have E8:=hE2.trans hE8
 obtain⟨s15,e15,hq⟩:=(hf.ext E8).at hjl
 have hm:=List.getElem_mem hjl
 have hz1:BxN 56029 4 f[j] e:=⟨(hb _ hm).1,ke,ho _ hm,by have:=(hb _ hm).2;omega,by omega,by omega,by omega⟩
 have hs:=Kk4 fit hm
 obtain⟨b1',b2,b3⟩:=Kn9 hb ho kx ke le hz hjl
 have lxx:j<x.length:=by have:=fit.2.2.2.1;omega
 have lee:j<e.length:=by have:=fit.2.2.2.2.1;omega
 obtain⟨y,⟨b9,s10,s11,b12,s13,s14,rfl,v1,v2⟩,el1⟩:=(hx.ext E8).at lxx
 obtain⟨y',⟨b16,s17,s18,b19,s20,s21,rfl,v3,v4⟩,el2⟩:=(he.ext E8).at lee
 rw[←Fi1 lxx] at v1 v2
 rw[←Fi1 lee] at v3 v4
 have zx:BdI 9 (Bm3 x j):=Ep8 kx j
 have ze:BdI 9 (Bm3 e j):=Ep8 ke j
 refine⟨(hx.ext E8).inB (by omega) (by omega),b9,s10,s11,b12,s13,s14,el1 0 rfl,(hf.ext E8).inB (by omega) (by omega),s15,e15,(he.ext E8).inB (by omega) (by omega),b16,s17,s18,b19,s20,s21,el2 0 rfl,?_⟩
 refine Ak1 (z:=0) (by unfold I64;omega) fun b24 s25 s26 W23 hE23 h23=>⟨b24,s25,s26,rfl,hE23,?_⟩
 refine Hd2 (he.ext (E8.trans hE23)) (by omega) fun l W28 hE28 hd=>?_
 obtain⟨b29,s30,s31,b32,s33,s34,b35,s36,s37,b38,s39,s40,b41,s42,s43,b44,s45,s46,rfl,hd'⟩:=id hd
 refine⟨b29,s30,s31,b32,s33,s34,b35,s36,s37,b38,s39,s40,b41,s42,s43,b44,s45,s46,rfl,hE28,?_⟩
 refine Cs3 (hq.ext (hE23.trans hE28)) hd hz1.bd hz1.side (Ey5 fun x hx=>Rat.le_of_lt (hs.1.2 x hx)) (Cl1 hz1.ok) (Nat.le_refl 255) (by omega) (by omega) (by have:=hz1.len;omega) fun r W48 hE48 h48=>h48.out fun b49 s50 s51 b52 s53 s54 h48=>⟨hE48,?_⟩
 rw[←Jy8 hjl] at h48
 have hH:Ah6 240 W48 [.bool b24,Sl.v s25,Sl.v s26,.bool b,Sl.v u,Sl.v t] ((0:Rat),h):=Ah6.mk (x:=((0:Rat),h)) (h23.ext (hE28.trans hE48)) (hh.ext (E8.trans (hE23.trans (hE28.trans hE48))))
 have y1:IvS 100000 ((0:Rat),h):=⟨Sz.zero (by omega),hz.mono (by omega)⟩
 refine Bt1 hH h48 y1 b1'.sz (by omega) fun l W56 hE56 h56=>h56.out fun b57 s58 s59 b60 s61 s62 h56=>⟨hE56,?_⟩
 have E56:=hE23.trans (hE28.trans (hE48.trans hE56))
 refine Bp3 (Ah6.mk (v1.ext E56) (v2.ext E56)) h56 (zx.mono (show 9≤100010 by omega)).sz b2.sz (by omega) fun l W64 hE64 h64=>h64.out fun b65 s66 s67 b68 s69 s70 h64=>⟨hE64,?_⟩
 have E64:=E56.trans hE64
 refine Ka6 h64 (Ah6.mk (v3.ext E64) (v4.ext E64)) b3.sz (ze.mono (show 9≤100030 by omega)).sz (by omega) fun W72 hE72 _=>⟨_,rfl,fun b5 W _=>no fun ok=>?_,fun b5=>⟨by unfold I64;omega,⟨j+1,by push_cast;rfl,by omega,hE8.trans (E64.trans hE72),fun y hy=>?_⟩,by show f.length-Int.toNat ((j:Int)+1)<f.length-Int.toNat (j:Int);omega⟩⟩
 ·have hq:Ft1 (Kn0 f x e h j) (Bm3 e j):=ok.2 j hjl
  exact absurd b5 (by rw[decide_eq_true (show Ft1 (Cb5 (Bm3 x j) (Ay9 (0,h) (Aq8 (Bm3 e) (f.getD j [])))) (Bm3 e j) from hq)];decide)
 ·by_cases e1:y=j
  ·rw[e1]
   have:decide (Ft1 (Cb5 (Bm3 x j) (Ay9 (0,h) (Aq8 (Bm3 e) (f.getD j [])))) (Bm3 e j))=true:=by simpa using b5
   exact of_decide_eq_true this
  ·exact hall y (by omega)
theorem Kh8 {W0 W:PW} {M:Nat→Prop} {s sx se u t:Sl} {b:Bool} {f:List (List Tm)} {x e:List Iv} {h:Rat} {K:Value→PW→Prop} (hf:RPs W s f) (hx:Fx4 240 W sx x) (he:Fx4 240 W se e) (hh:Ab6 240 W b u t h) (hl:f.length≤4) (hb: ∀q∈f,Bd 56029 q∧q.length≤14) (ho: ∀q∈f,POk q) (kx: ∀y∈x,IvS 4 y) (ke: ∀y∈e,IvS 4 y) (lx:x.length≤5) (le:e.length≤5) (hz:Sz 4 h) (kont: ∀(W':PW),Ext W W'→(True)→K (.bool (decide (Kc4 f x e h))) W'):
  Aa1 Tryz.prog W0 M 14 [s.v,sx.v,se.v,.agg ⟨[.bool b,u.v,t.v]⟩] W K:=
 Aa2 (fun W' hE=>Kl1 (M:=fun _=>False) (hf.ext hE) (hx.ext hE) (he.ext hE) (hh.ext hE) hl hb ho kx ke lx le hz) (fun W' v W'' hE hE' hP=>by
  obtain⟨rfl,h⟩:=hP
  exact kont W'' (hE.trans hE') h)
/-! ### End. -/
def Kp8 (W0 : PW) (M : Nat → Prop) (n : Int) (sl sx : Sl) (bb : Bool) (sb tb : Sl) (l17 : List (List Value)) (W36 : PW) (K : List (List Value) → PW → Prop) : Prop :=
  ∃ (F41 : List PL → PW → Prop) (F42 : List PL → PW → Nat), F41 [PL.val (.int IntKind.i64 0), PL.row l17] W36 ∧ ∀ (l43 : List (List Value)) (i44 : Int) (W45 : PW), F41 [PL.val (.int IntKind.i64 i44), PL.row l43] W45 →
    (i44 < n → (0 ≤ i44 ∧ i44 < ↑(List.length l43)) ∧ ∃ (b63 : Bool) (s64 s65 : Sl) (b66 : Bool) (s67 s68 : Sl), Ck3 l43 (Int.toNat i44) 0 [.bool b63, Sl.v s64, Sl.v s65, .bool b66, Sl.v s67, Sl.v s68] ∧ inB sl i44 ∧ ∃ s69 : Sl, Aa7 W45 sl 1 (Int.toNat i44) 0 [Sl.v s69] ∧ Aa1 Tryz.prog W0 M 54 [Sl.v sx] W45 fun v70 W71 => ∃ (b72 : Bool) (s73 s74 : Sl) (b75 : Bool) (s76 s77 : Sl) (b78 : Bool) (s79 s80 : Sl) (b81 : Bool) (s82 s83 : Sl) (b84 : Bool) (s85 s86 : Sl) (b87 : Bool) (s88 s89 : Sl), v70 = .agg ⟨[.bool b72, Sl.v s73, Sl.v s74, .bool b75, Sl.v s76, Sl.v s77, .bool b78, Sl.v s79, Sl.v s80, .bool b81, Sl.v s82, Sl.v s83, .bool b84, Sl.v s85, Sl.v s86, .bool b87, Sl.v s88, Sl.v s89]⟩ ∧ Ext W45 W71 ∧
      Aa1 Tryz.prog W0 M 53 [Sl.v s69, .agg ⟨[.bool b72, Sl.v s73, Sl.v s74, .bool b75, Sl.v s76, Sl.v s77, .bool b78, Sl.v s79, Sl.v s80, .bool b81, Sl.v s82, Sl.v s83, .bool b84, Sl.v s85, Sl.v s86, .bool b87, Sl.v s88, Sl.v s89]⟩] W71 fun v90 W91 => ∃ (b92 : Bool) (s93 s94 : Sl) (b95 : Bool) (s96 s97 : Sl), v90 = .agg ⟨[.bool b92, Sl.v s93, Sl.v s94, .bool b95, Sl.v s96, Sl.v s97]⟩ ∧
      Aa1 Tryz.prog W0 M 52 [.agg ⟨[.bool b92, Sl.v s93, Sl.v s94, .bool b95, Sl.v s96, Sl.v s97]⟩, .agg ⟨[.bool bb, Sl.v sb, Sl.v tb]⟩] W91 fun v98 W99 => ∃ (b100 : Bool) (s101 s102 : Sl) (b103 : Bool) (s104 s105 : Sl), v98 = .agg ⟨[.bool b100, Sl.v s101, Sl.v s102, .bool b103, Sl.v s104, Sl.v s105]⟩ ∧
      Aa1 Tryz.prog W0 M 51 [.agg ⟨[.bool b63, Sl.v s64, Sl.v s65, .bool b66, Sl.v s67, Sl.v s68]⟩, .agg ⟨[.bool b100, Sl.v s101, Sl.v s102, .bool b103, Sl.v s104, Sl.v s105]⟩] W99 fun v106 W107 => ∃ (b108 : Bool) (s109 s110 : Sl) (b111 : Bool) (s112 s113 : Sl), v106 = .agg ⟨[.bool b108, Sl.v s109, Sl.v s110, .bool b111, Sl.v s112, Sl.v s113]⟩ ∧
      (0 ≤ i44 ∧ i44 < ↑(List.length l43)) ∧ Int.toNat i44 < List.length l43 ∧ I64 (i44 + 1) ∧ stp F41 F42 [PL.val (.int IntKind.i64 (i44 + 1)), PL.row (List.set l43 (Int.toNat i44) [.bool b108, Sl.v s109, Sl.v s110, .bool b111, Sl.v s112, Sl.v s113])] W107 [PL.val (.int IntKind.i64 i44), PL.row l43] W45) ∧
    (¬i44 < n → K l43 W45)
def Kr6 (W0:PW) (a b:Nat→Iv) (n:Nat) (L:List PL) (W:PW):Prop:=match L with
 | [.val (.int .i64 z),.row l]=>∃t:Nat,z=(t:Int)∧t≤n∧Ext W0 W∧An5 (Ah6 240 W) l (Km7 a b n t)
 | _=>False
theorem Kb6 {W0 W:PW} {M:Nat→Prop} {n:Int} {sl sx sb:Sl} {bb:Bool} {tb:Sl} {l17:List (List Value)} {K:List (List Value)→PW→Prop} {X:List Iv} {gs:List (List Tm)} {a:Nat→Iv} {r:Rat} {KA:Nat} (hg:RPs W sl gs) (hx:Fx4 240 W sx X) (hr:Ab6 240 W bb sb tb r) (ha:An5 (Ah6 240 W) l17 ((List.range gs.length).map a))
  (hnn:n=(gs.length:Int)) (hn:gs.length≤4) (hB:Cn7 X) (kX: ∀y∈X,IvS 4 y) (hgs: ∀g∈gs,GOK 2000000 g∧Fd0 Cx8 0 g≤(X.length:Int)) (zr:Sz 40 r) (za: ∀i,i<gs.length→IvS KA (a i)) (hKA:KA≤100000000)
  (kont: ∀l W',Ext W W'→An5 (Ah6 240 W') l ((List.range gs.length).map fun i=>Cb5 (a i) (De8 (Aq8 (Bm3 X) (gs.getD i [])) r))→K l W'):Kp8 W0 M n sl sx bb sb tb l17 W K:=by
 have n0:=hg.n
 subst hnn
 refine⟨Kr6 W a (fun i=>Cb5 (a i) (De8 (Aq8 (Bm3 X) (gs.getD i [])) r)) gs.length,Kq9 gs.length,⟨0,rfl,Nat.zero_le _,Ext.refl _,by rw[Kh0];exact ha⟩,?_⟩
 rintro l43 i44 W45 ⟨t,rfl,ht,hE45,hal⟩
 have hl:=hal.len
 rw[Kk9] at hl
 refine⟨fun hlt=>?_,fun hge=>?_⟩
 ·have htl:t<gs.length:=by omega
  obtain⟨s69,e69,hq⟩:=(hg.ext hE45).at htl
  have hm:=List.getElem_mem htl
  obtain⟨gk,gv⟩:=hgs _ hm
  have hb3:=hB.1.2
  have hz1:BxN 2000000 4 gs[t] X:=⟨gk.bd,kX,gk.ok,by have:=gk.len;omega,by omega,by omega,by omega⟩
  have hs:An3 gs[t] X:=⟨hB,gv⟩
  have b1:BdI 2100000 (Aq8 (Bm3 X) gs[t]):=hz1.Kq8.mono (by omega)
  have b2:=b1.scale zr
  obtain⟨c,hc,b63,s64,s65,b66,s67,s68,rfl,w1,w2⟩:=hal.get (Kn1 htl)
  refine⟨⟨by omega,by omega⟩,b63,s64,s65,b66,s67,s68,⟨_,hc,rfl⟩,(hg.ext hE45).inB (by omega) (by omega),s69,e69,?_⟩
  refine Hd2 (hx.ext hE45) (by omega) fun l W71 hE71 hd=>?_
  obtain⟨b72,s73,s74,b75,s76,s77,b78,s79,s80,b81,s82,s83,b84,s85,s86,b87,s88,s89,rfl,hd'⟩:=id hd
  refine⟨b72,s73,s74,b75,s76,s77,b78,s79,s80,b81,s82,s83,b84,s85,s86,b87,s88,s89,rfl,hE71,?_⟩
  refine Cs3 (hq.ext hE71) hd hz1.bd hz1.side (Ey5 fun x hx=>Rat.le_of_lt (hs.1.2 x hx)) (Cl1 hz1.ok) (Nat.le_refl 255) (by omega) (by omega) (by have:=hz1.len;omega) fun rr W91 hE91 h91=>h91.out fun b92 s93 s94 b95 s96 s97 h91=>?_
  have E91:=hE71.trans hE91
  refine Kb4 (k:=2100000) h91 (hr.ext (hE45.trans E91)) b1.sz (zr.mono (by omega)) (by omega) fun l W99 hE99 h99=>h99.out fun b100 s101 s102 b103 s104 s105 h99=>?_
  have E99:=E91.trans hE99
  have zA:IvS 200000000 (a t):=⟨(za t htl).1.mono (by omega),(za t htl).2.mono (by omega)⟩
  refine Bp3 (Ah6.mk (w1.ext E99) (w2.ext E99)) h99 zA (b2.mono (show _≤200000000 by omega)).sz (by omega) fun l W107 hE107 h107=>h107.out fun b108 s109 s110 b111 s112 s113 h107=>⟨⟨by omega,by omega⟩,by omega,by unfold I64;omega,⟨t+1,by push_cast;rfl,by omega,hE45.trans (E99.trans hE107),?_⟩,by show gs.length-Int.toNat ((t:Int)+1)<gs.length-Int.toNat (t:Int);omega⟩
  rw[←Kl0 htl,Int.toNat_natCast]
  refine(hal.mono fun _ _ h=>h.ext (E99.trans hE107)).set t ?_
  rw[Jy8 htl]
  exact h107
 ·have:t=gs.length:=by omega
  subst this
  rw[Kk8] at hal
  exact kont _ _ hE45 hal
def Kr5 (W0:PW) (n:Nat) (L:List PL) (W:PW):Prop:=match L with
 | [.val (.int .i64 z),.row l]=>∃t:Nat,z=(t:Int)∧t≤n∧Ext W0 W∧An5 (Ah6 240 W) l (List.replicate n ((0:Rat),(0:Rat)))
 | _=>False
def Kr1 (W0:PW) (f:List (List Tm)) (x e:List Iv) (h:Rat) (k:Nat) (L:List PL) (W:PW):Prop:=match L with
 | [.val (.int .i64 z),.cells c,.row l]=>∃(j:Nat) (b:Bool) (s t:Sl),z=(j:Int)∧c = [.bool b,s.v,t.v]∧j≤k+1∧Ext W0 W∧Ab6 240 W b s t (wS h (j-1))∧An5 (Ah6 240 W) l (enL f x e h k j)∧∀y,y<j→Jz6 f (y:Int)
 | _=>False
theorem Ke8 {W:PW} : ∀n,An5 (Ah6 240 W) (List.replicate n [.bool false,.slice none 0 0,.slice none 0 0,.bool false,.slice none 0 0,.slice none 0 0]) (List.replicate n ((0:Rat),(0:Rat)))
 | 0=>trivial
 | n+1=>⟨Ah6.zero W,Ke8 n⟩
theorem Ko3 {α:Type} {a:α} {n t:Nat} :(List.replicate n a).set t a=List.replicate n a:=by
 apply List.ext_getElem?
 intro i
 rw[List.getElem?_set]
 by_cases e:t=i
 ·subst e
  by_cases h:t<n
  ·rw[if_pos rfl,List.length_replicate,if_pos h,List.getElem?_replicate,if_pos h]
  ·rw[if_pos rfl,List.length_replicate,if_neg h,List.getElem?_replicate,if_neg h]
 ·rw[if_neg e]
theorem Kn3 {W0:PW} {M:Nat→Prop} {s sx se u t:Sl} {b:Bool} {f:List (List Tm)} {x e:List Iv} {h:Rat} {k:Int} (hf:RPs W0 s f) (hx:Fx4 240 W0 sx x) (he:Fx4 240 W0 se e) (hh:Ab6 240 W0 b u t h) (hl:f.length≤4) (hb: ∀q∈f,Bd 56029 q∧q.length≤14) (ho: ∀q∈f,POk q) (kx: ∀y∈x,IvS 4 y) (ke: ∀y∈e,IvS 4 y) (lx:x.length≤5) (le:e.length≤5) (hz:Sz 4 h):
  Aa0 Tryz.prog 12 [s.v,sx.v,se.v,.agg ⟨[.bool b,u.v,t.v]⟩,.int .i64 k] W0 M fun v W'=>∃(s1:Sl),v = .tuple ⟨[Sl.v s1,.bool (decide (Jz2 f x e h k))]⟩∧Fx4 240 W' s1 (if Jz2 f x e h k then enL f x e h k.toNat (k.toNat+1) else[]):=by
 apply Kg8
 have n0:=hf.n
 have bad:¬Jz2 f x e h k→∀W':PW,∃s1:Sl,(Value.tuple ⟨[.slice none 0 0,.bool false]⟩) = .tuple ⟨[Sl.v s1,.bool (decide (Jz2 f x e h k))]⟩∧Fx4 240 W' s1 (if Jz2 f x e h k then enL f x e h k.toNat (k.toNat+1) else[]):=fun hno W'=>⟨⟨none,0,0⟩,by rw[decide_eq_false hno],by rw[if_neg hno];exact Dr1.nil W'⟩
 refine Kb7 hf hx he hh (by omega) (fun p hp=>by have:=(hb p hp).2;omega) kx ke (by omega) (by omega) (by omega) fun W2 hE2 _=>⟨_,rfl,fun b1 W4 _=>bad (fun ok=>by simp[ok.1] at b1) W4,fun b1=>⟨fun h1 W5 _=>bad (fun ok=>by have:=ok.2.1.1;omega) W5,fun h1=>⟨fun h4 W6 _=>bad (fun ok=>by have:=ok.2.1.2;omega) W6,fun h4=>?_⟩⟩⟩
 have fit:Jy9 f x e h:=by simpa using b1
 obtain⟨K,rfl⟩:=Int.eq_ofNat_of_zero_le (show 0≤k by omega)
 have hK1:1≤K:=by omega
 have hK4:K≤4:=by omega
 have hlen:((s.2:Nat):Int)=((f.length:Nat):Int):=by
  have:s.2=f.length:=n0
  omega
 rw[hlen,Int.toNat_natCast]
 refine⟨⟨rfl,by omega,by omega⟩,Kr5 W2 f.length,Kq9 f.length,⟨0,rfl,Nat.zero_le _,Ext.refl _,Ke8 _⟩,?_⟩
 rintro l9 i10 W11 ⟨t0,rfl,ht0,hE11,hz0⟩
 have hzl:=hz0.len
 rw[List.length_replicate] at hzl
 refine⟨fun hlt=>?_,fun hge0=>?_⟩
 ·refine Ak1 (z:=0) (by unfold I64;omega) fun b14 s15 s16 W13 hE13 h13=>⟨b14,s15,s16,rfl,Bd0 h13 fun r W18 hE18 h18=>h18.out fun b19 s20 s21 b22 s23 s24 h18=>⟨⟨by omega,by omega⟩,by omega,by unfold I64;omega,⟨t0+1,by push_cast;rfl,by omega,hE11.trans (hE13.trans hE18),?_⟩,by show f.length-Int.toNat ((t0:Int)+1)<f.length-Int.toNat (t0:Int);omega⟩⟩
  have h2:=(hz0.mono fun _ _ h=>h.ext (hE13.trans hE18)).set (Int.toNat (t0:Int)) (show Ah6 240 W18 _ ((0:Rat),(0:Rat)) from h18)
  rw[Ko3] at h2
  exact h2
 refine Ak1 (z:=1) (by unfold I64;omega) fun b27 s28 s29 W26 hE26 h26=>⟨b27,s28,s29,rfl,?_⟩
 refine⟨Kr1 W26 f x e h K,Kr0 (K+1),⟨0,b27,s28,s29,rfl,rfl,Nat.zero_le _,Ext.refl _,h26,by rw[Kk6];exact hz0.mono fun _ _ h=>h.ext hE26,fun y hy=>absurd hy (Nat.not_lt_zero _)⟩,?_⟩
 rintro b32 s33 s34 l35 i36 W37 ⟨j,bc,sc,tc,rfl,el,hj,hE37,hby,hal,hL⟩
 simp only[List.cons.injEq,Value.bool.injEq,and_true] at el
 obtain⟨rfl,q1,q2⟩:=el
 obtain rfl:=Sl.Ck0 q1
 obtain rfl:=Sl.Ck0 q2
 refine⟨fun hlt=>?_,fun hge s189 W190 hE190 hO190 _ W191 hE191=>⟨s189,?_,?_⟩⟩
 ·have hjK:j≤K:=by omega
  have E37:=hE2.trans (hE11.trans (hE26.trans hE37))
  refine Kj3 (k:=(j:Int)) (hf.ext E37) (by omega) hb fun s40 W39 hE39 h39=>⟨s40,_,rfl,fun hno W42 _=>bad (Jz2.not (j:=j) (by omega) (Option.not_isSome_iff_eq_none.1 (by simpa using hno))) W42,fun hyes=>?_⟩
  have hLj:Jz6 f (j:Int):=Kd9 (by simpa using hyes)
  rw[Ko9 hLj] at h39
  have hlg:=Kf2 f j
  have hgs:=Ki9 hb ho hLj
  have hL': ∀y,y<j+1→Jz6 f (y:Int):=fun y hy=>by
   by_cases e1:y=j
   ·rw[e1];exact hLj
   ·exact hL y (by omega)
  have za: ∀i,i<(Kl9 f j).length→IvS 20000000 (enS f x e h K i j):=fun i hi=>Kp6 hb ho kx ke lx le hz hK4 hj (by omega) hL
  have hmu:K+1-Int.toNat ((j:Int)+1)<K+1-Int.toNat (j:Int):=by omega
  have ha17:An5 (Ah6 240 W37) l35 ((List.range (Kl9 f j).length).map fun i=>enS f x e h K i j):=by rw[hlg];exact hal
  have fe:f.length=x.length∧f.length=e.length:=⟨fit.2.2.2.1.symm,fit.2.2.2.2.1.symm⟩
  have hnn:((f.length:Nat):Int)=(((Kl9 f j).length:Nat):Int):=by omega
  refine⟨fun h0=>?_,fun h0=>?_⟩
  ·have hj1:0<j:=by omega
   obtain⟨y,rfl⟩: ∃y,j=y+1:=⟨j-1,by omega⟩
   have zw:=Ki2 hz y (by omega)
   have hby:Ab6 240 W37 b32 s33 s34 (wS h y):=hby
   refine Ak1 (z:=((y+1:Nat):Int)) (by unfold I64;omega) fun b45 s46 s47 W44 hE44 h44=>⟨b45,s46,s47,rfl,?_⟩
   have zn:Sz 1 ((((y+1:Nat):Int):Int):Rat):=Kk1 (c:=y+1) (by omega)
   have ne0:((((y+1:Nat):Int):Int):Rat)≠0:=fun e0=>by
    have h9:=congrArg Rat.num e0
    rw[Rat.num_intCast] at h9
    have h9:((y+1:Nat):Int)=0:=h9
    omega
   refine Io3 (hh.ext (E37.trans (hE39.trans hE44))) h44 hz zn ne0 (by omega) (by omega) fun b50 s51 s52 W49 hE49 h49=>⟨b50,s51,s52,rfl,?_⟩
   refine Am6 (k:=100) (l:=100) (hby.ext (hE39.trans (hE44.trans hE49))) h49 (zw.mono (by omega)) ((hz.div zn (Nat.le_refl 1)).mono (by omega)) (by omega) (by omega) fun b55 s56 s57 W54 hE54 h54=>⟨b55,s56,s57,rfl,?_⟩
   have E54:=hE39.trans (hE44.trans (hE49.trans hE54))
   have ew:wS h y*(h/((((y+1:Nat):Int):Int):Rat))=wS h (y+1):=by
    show _=wS h y*h/(((y+1:Nat):Int):Rat)
    rw[Rat.div_def,Rat.div_def,Rat.mul_assoc]
   rw[ew] at h54
   have zr:Sz 40 (wS h (y+1)):=(Ki2 hz (y+1) (by omega)).mono (by omega)
   refine⟨fun hk=>?_,fun hk=>?_⟩
   ·have hon:onB x e K (y+1)=e:=if_pos (by omega)
    exact Kb6 (h39.ext (hE44.trans (hE49.trans hE54))) (he.ext (E37.trans E54)) h54 (ha17.mono fun _ _ h=>h.ext E54) hnn (by omega) fit.2.2.1 ke (fun g hg=>⟨(hgs g hg).1,by have:=(hgs g hg).2;omega⟩) zr za (by omega) fun l W' hE' hl'=>⟨by unfold I64;omega,⟨y+1+1,b55,s56,s57,by push_cast;rfl,rfl,by omega,hE37.trans (E54.trans hE'),h54.ext hE',by rw[←Kb2,hon];exact hl',hL'⟩,hmu⟩
   ·have hon:onB x e K (y+1)=x:=if_neg (by omega)
    exact Kb6 (h39.ext (hE44.trans (hE49.trans hE54))) (hx.ext (E37.trans E54)) h54 (ha17.mono fun _ _ h=>h.ext E54) hnn (by omega) fit.2.1 kx (fun g hg=>⟨(hgs g hg).1,by have:=(hgs g hg).2;omega⟩) zr za (by omega) fun l W' hE' hl'=>⟨by unfold I64;omega,⟨y+1+1,b55,s56,s57,by push_cast;rfl,rfl,by omega,hE37.trans (E54.trans hE'),h54.ext hE',by rw[←Kb2,hon];exact hl',hL'⟩,hmu⟩
  ·have hj0:j=0:=by omega
   subst hj0
   have hby:Ab6 240 W37 b32 s33 s34 (wS h 0):=hby
   have zr:Sz 40 (wS h 0):=(Ki2 hz 0 (by omega)).mono (by omega)
   refine⟨fun hk=>absurd hk (by omega),fun hk=>?_⟩
   have hon:onB x e K 0=x:=if_neg (by omega)
   exact Kb6 h39 (hx.ext (E37.trans hE39)) (hby.ext hE39) (ha17.mono fun _ _ h=>h.ext hE39) hnn (by omega) fit.2.1 kx (fun g hg=>⟨(hgs g hg).1,by have:=(hgs g hg).2;omega⟩) zr za (by omega) fun l W' hE' hl'=>⟨by unfold I64;omega,⟨1,b32,s33,s34,rfl,rfl,by omega,hE37.trans (hE39.trans hE'),hby.ext (hE39.trans hE'),by rw[←Kb2,hon];exact hl',hL'⟩,hmu⟩
 all_goals
  have hjK:j=K+1:=by omega
  subst hjK
  have ok:Jz2 f x e h (K:Int):=⟨fit,⟨by omega,by omega⟩,by rw[Jz3 (hL K (by omega))];rfl⟩
 ·rw[decide_eq_true ok]
 ·rw[if_pos ok,Int.toNat_natCast]
  exact Fx4.ext ⟨l35,⟨_,hO190.row⟩,hal.mono fun _ _ h=>h.ext hE190⟩ hE191
theorem Kj1 {W0 W:PW} {M:Nat→Prop} {s sx se u t:Sl} {b:Bool} {f:List (List Tm)} {x e:List Iv} {h:Rat} {k:Int} {K:Value→PW→Prop} (hf:RPs W s f) (hx:Fx4 240 W sx x) (he:Fx4 240 W se e) (hh:Ab6 240 W b u t h) (hl:f.length≤4) (hb: ∀q∈f,Bd 56029 q∧q.length≤14) (ho: ∀q∈f,POk q) (kx: ∀y∈x,IvS 4 y) (ke: ∀y∈e,IvS 4 y) (lx:x.length≤5) (le:e.length≤5) (hz:Sz 4 h) (kont: ∀(s1:Sl) (W':PW),Ext W W'→(Fx4 240 W' s1 (if Jz2 f x e h k then enL f x e h k.toNat (k.toNat+1) else[]))→K (.tuple ⟨[Sl.v s1,.bool (decide (Jz2 f x e h k))]⟩) W'):
  Aa1 Tryz.prog W0 M 12 [s.v,sx.v,se.v,.agg ⟨[.bool b,u.v,t.v]⟩,.int .i64 k] W K:=
 Aa2 (fun W' hE=>Kn3 (M:=fun _=>False) (hf.ext hE) (hx.ext hE) (he.ext hE) (hh.ext hE) hl hb ho kx ke lx le hz) (fun W' v W'' hE hE' hP=>by
  obtain⟨s1,rfl,h⟩:=hP
  exact kont s1 W'' (hE.trans hE') h)
end Go.Proofs.YtahohahjnhfedaaGreat
/- Arguments opened: what every kind of argument needs. -/
namespace Go.Proofs.YtahohahjnhfedaaGreat
open Go Go.SX Go.ChangeShapes Go.WideShapes Go.ChangeAt Go.RowKit Go.Deep
theorem Cp9:ownKnob Tryz.prog.godebug=none:=by kernel_rfl
theorem laidOut:laidOutB Tryz.prog=true:=by kernel_rfl
theorem Ct5:Tryz.prog.cellsOf 9=1:=by kernel_rfl
theorem Cf4 {W:World} {b o:Nat} {v:Value} (h:W.cell? ⟨b,o,none⟩=some v): ∃cs t fz,W.heap[b]?=some (.cells cs t fz)∧cs[o]?=some v:=by
 unfold World.cell? at h
 cases e:W.heap[b]? with
 | none=>simp[e] at h
 | some ob=>
  cases ob with
  | cells cs t fz=>exact⟨cs,t,fz,rfl,by simpa[e] using h⟩
  | _=>simp[e] at h
theorem Ev9 {H:Type} (d:DataW H):1≤Rows.uptoBulk d:=by
 cases d with
 | lit l=>cases l<;>simp[Rows.uptoBulk]
 | nil=>simp[Rows.uptoBulk]
 | ptr d=>simp[Rows.uptoBulk]
 | slice elems spare=>simp[Rows.uptoBulk]
 | agg parts=>simp[Rows.uptoBulk]
 | iface t d=>simp[Rows.uptoBulk]
 | map entries=>simp[Rows.uptoBulk]
 | held h=>simp[Rows.uptoBulk]
theorem Eo6 {H:Type} {d:DataW H} {l:List (DataW H)} (h:d∈l):Rows.uptoBulk d≤Rows.uptoBulkAll l:=by
 induction l with
 | nil=>cases h
 | cons x r ih=>
  simp only[Rows.uptoBulkAll]
  cases List.mem_cons.1 h with
  | inl e=>subst e;omega
  | inr e=>have:=ih e;omega
theorem Dj1 {H:Type} (l:List (DataW H)):l.length≤Rows.uptoBulkAll l:=by
 induction l with
 | nil=>simp[Rows.uptoBulkAll]
 | cons x r ih=>have:=Ev9 x;simp only[Rows.uptoBulkAll,List.length_cons];omega
theorem Bz7 {W:World} {a:Addr} {n c sz:Nat} {V:Nat→List Value} (h: ∀j,j<n→∀i v,(V j)[i]?=some v→W.cell? (a.add (j*sz+i))=some v) (hV: ∀j,j<n→(V j).length=sz) (hsz:0<sz) (hn:n≤c) (hc:c≤maxLen) (h1: ∀j,j<n→∀u∈V j,u.oneCell'=true):
  Bf9 ⟨W,fun _=>False⟩ sz ⟨some a,n,c⟩ ((List.range n).map V):=by
 have hel: ∀x∈(List.range n).map V,x.length=sz∧∀u∈x,u.oneCell'=true:=by
  intro x hx
  obtain⟨j,hj,rfl⟩:=List.mem_map.1 hx
  exact⟨hV j (List.mem_range.1 hj),h1 j (List.mem_range.1 hj)⟩
 by_cases h0:n=0
 ·subst h0
  exact⟨0,rfl,Nat.zero_le _,hc,hel,.inl rfl⟩
 ·obtain⟨b,off,sp⟩:=a
  have hlen0:=hV 0 (by omega)
  obtain⟨v0,hv0⟩: ∃v,(V 0)[0]?=some v:=⟨_,List.getElem?_eq_getElem (by omega)⟩
  have hc0:=h 0 (by omega) 0 v0 hv0
  have hsp:sp=none:=by simpa[Addr.add] using World.cell?_spot hc0
  subst hsp
  obtain⟨cs,t,fz,hh,_⟩:=Cf4 (by rw[←add_plain];exact hc0)
  refine⟨t,by simp,hn,hc,hel,.inr ⟨b,off,cs,fz,rfl,id,hh,fun j v hj=>?_⟩⟩
  have hjl:=(List.getElem?_eq_some_iff.1 hj).1
  rw[Ac0 (sz:=sz) (fun x hx=>(hel x hx).1)] at hjl
  simp only[List.length_map,List.length_range] at hjl
  have hi:j/sz<n:=(Nat.div_lt_iff_lt_mul hsz).2 hjl
  have hm:j%sz<sz:=Nat.mod_lt _ hsz
  have e:j/sz*sz+j%sz=j:=by rw[Nat.mul_comm];exact Nat.div_add_mod j sz
  have hx:((List.range n).map V)[j/sz]?=some (V (j/sz)):=by simp[hi]
  have hl:=hV _ hi
  have hf:=Ao8 (sz:=sz) (fun x hx=>(hel x hx).1) hx (j:=j%sz) (v:=(V (j/sz))[j%sz]'(by omega)) (List.getElem?_eq_getElem (by omega))
  rw[e,hj] at hf
  have hcell:=h _ hi (j%sz) v (by rw[hf];exact List.getElem?_eq_getElem (by omega))
  rw[e,add_plain] at hcell
  obtain⟨cs',t',fz',hh',hv⟩:=Cf4 hcell
  rw[hh] at hh'
  cases hh'
  exact hv
theorem Ig6 {W:World} {a:Addr} {n c:Nat} {V:Nat→Value} (h: ∀j,j<n→W.cell? (a.add j)=some (V j)) (hn:n≤c) (hc:c≤maxLen) (h1: ∀j,j<n→(V j).oneCell'=true):Bf9 ⟨W,fun _=>False⟩ 1 ⟨some a,n,c⟩ ((List.range n).map fun j=>[V j]):=by
 have hel: ∀x∈(List.range n).map (fun j=>[V j]),x.length=1∧∀u∈x,u.oneCell'=true:=by
  intro x hx
  obtain⟨j,hj,rfl⟩:=List.mem_map.1 hx
  exact⟨rfl,fun u hu=>by rw[List.mem_singleton.1 hu];exact h1 j (List.mem_range.1 hj)⟩
 by_cases h0:n=0
 ·subst h0
  exact⟨0,rfl,Nat.zero_le _,hc,hel,.inl rfl⟩
 ·obtain⟨b,off,sp⟩:=a
  have hsp:sp=none:=by simpa[Addr.add] using World.cell?_spot (h 0 (by omega))
  subst hsp
  have h': ∀j,j<n→W.cell? ⟨b,off+j,none⟩=some (V j):=fun j hj=>by rw[←add_plain];exact h j hj
  obtain⟨cs,t,fz,hh,_⟩:=Cf4 (h' 0 (by omega))
  refine⟨t,by simp,hn,hc,hel,.inr ⟨b,off,cs,fz,rfl,id,hh,fun j v hj=>?_⟩⟩
  have e:((List.range n).map fun j=>[V j]).flatten=(List.range n).map V:=by
   rw[←List.flatMap_def]
   generalize List.range n=l
   induction l with
   | nil=>rfl
   | cons y r ih=>simp[List.flatMap_cons,ih]
  rw[e] at hj
  have hjn:j<n:=by
   have:=(List.getElem?_eq_some_iff.1 hj).1
   simpa using this
  obtain⟨cs',t',fz',hh',hv⟩:=Cf4 (h' j hjn)
  rw[hh] at hh'
  cases hh'
  simp[hjn] at hj
  rw[←hj]
  exact hv
end Go.Proofs.YtahohahjnhfedaaGreat
/- Arguments of pairs of texts, opened. -/
namespace Go.Proofs.YtahohahjnhfedaaGreat
open Go Go.SX Go.ChangeShapes Go.WideShapes Go.ChangeAt Go.RowKit Go.Deep
theorem Cf7:Tryz.prog.cellsOf 115=2:=by kernel_rfl
theorem open_pair {H:Type} {enc:TypeId×Value→H} {W:World} {fuel:Nat} {cs:List Value} {x:DataW H×List MemPlace} (h:DataW.trod enc Tryz.prog W 0 (fun _=>true) true fuel 115 cs=some x):
  ∃a b:ByteArray,cs = [.string a,.string b]∧a.size≤Rows.uptoBulk x.1∧b.size≤Rows.uptoBulk x.1:=by
 obtain⟨xs,k,rfl,rfl,hl,hxl,hf⟩:=DataW.trod_struct Tryz.underlying115 h
 rw[Cf7] at hl
 have g0:DataW.trod enc Tryz.prog W 0 (fun _=>true) true k 9 ((cs.drop 0).take (Tryz.prog.cellsOf 9))=xs[0]?:=hf 0 _ rfl
 have g1:DataW.trod enc Tryz.prog W 0 (fun _=>true) true k 9 ((cs.drop 1).take (Tryz.prog.cellsOf 9))=xs[1]?:=hf 1 _ rfl
 rw[Ct5] at g0 g1
 match cs,hl,xs,hxl with
 | [v0,v1],_,[y0,y1],_=>
  have g0:DataW.trod enc Tryz.prog W 0 (fun _=>true) true k 9 [v0]=some y0:=g0
  have g1:DataW.trod enc Tryz.prog W 0 (fun _=>true) true k 9 [v1]=some y1:=g1
  obtain⟨s0,h0,rfl,_⟩:=DataW.trod_string Tryz.underlying9 g0
  obtain⟨s1,h1,rfl,_⟩:=DataW.trod_string Tryz.underlying9 g1
  have k0:v0=Value.string s0:=(List.cons.inj (show[v0] = [Value.string s0] from h0)).1
  have k1:v1=Value.string s1:=(List.cons.inj (show[v1] = [Value.string s1] from h1)).1
  subst k0 k1
  refine⟨s0,s1,rfl,?_⟩
  have e0:s0.data.toList.length=s0.size:=by rw[Array.length_toList];rfl
  have e1:s1.data.toList.length=s1.size:=by rw[Array.length_toList];rfl
  simp only[List.map_cons,List.map_nil,Rows.uptoBulk,Rows.uptoBulkAll]
  omega
def prc (t:ByteArray×ByteArray):List Value:=[.string t.1,.string t.2]
def Bs7 (W:PW) (s:Sl) (L:List (ByteArray×ByteArray)):Prop:=Bf9 W 2 s (L.map prc)
theorem Gc9 {H:Type} {enc:TypeId×Value→H} {W:World} {fuel:Nat} {v:Value} {d:DataW H} {p:List MemPlace} (h:DataW.trod enc Tryz.prog W 0 (fun _=>true) true fuel 23 [v]=some (d,p)):
  ∃(s:Sl) (L:List (ByteArray×ByteArray)),v=s.v∧Bs7 ⟨W,fun _=>False⟩ s L∧L.length≤Rows.uptoBulk d∧∀t∈L,t.1.size≤Rows.uptoBulk d∧t.2.size≤Rows.uptoBulk d:=by
 rcases open_slice Tryz.underlying23 h with⟨hcs,hx⟩ | ⟨a,len,cap,m,n,D,Pl,hcs,_,hl,hm,hmm,hx,hcell⟩
 ·have hv:v = .slice none 0 0:=by simpa using hcs
  subst hv
  exact⟨⟨none,0,0⟩,[],rfl,⟨0,rfl,Nat.le_refl _,Nat.zero_le _,fun x h=>by simp at h,.inl rfl⟩,Nat.zero_le _,fun l h=>by simp at h⟩
 ·have hv:v = .slice (some a) len cap:=by simpa using hcs
  subst hv
  simp only[if_true] at hmm
  subst hmm
  simp only[Prod.mk.injEq] at hx
  obtain⟨rfl,_⟩:=hx
  rw[Cf7] at hcell
  obtain⟨q,hq⟩: ∃q:Nat→ByteArray×ByteArray,∀i,i<m→W.cells? 0 (a.add (i*2)) 2=some (prc (q i))∧(q i).1.size≤Rows.uptoBulk (D i)∧(q i).2.size≤Rows.uptoBulk (D i):=by
   have:Inhabited (ByteArray×ByteArray):=⟨(⟨#[]⟩,⟨#[]⟩)⟩
   refine choose_lt (α:=ByteArray×ByteArray) (p:=fun i q=>W.cells? 0 (a.add (i*2)) 2=some (prc q)∧q.1.size≤Rows.uptoBulk (D i)∧q.2.size≤Rows.uptoBulk (D i)) fun i hi=>?_
   obtain⟨cs',h1,h2⟩:=hcell i hi
   obtain⟨x,y,rfl,h3,h4⟩:=open_pair h2
   exact⟨(x,y),h1,h3,h4⟩
  have hr:=Bz7 (W:=W) (a:=a) (n:=len) (c:=m) (sz:=2) (V:=fun i=>prc (q i)) (fun j hj i v hv=>by
   obtain⟨_,hlen,hc⟩:=World.cells?_some (hq j (by omega)).1
   have hi:i<2:=by have:=(List.getElem?_eq_some_iff.1 hv).1;omega
   have:=hc i hi
   rw[add_add] at this
   rw[this];exact hv) (fun j hj=>rfl) (by omega) hl hm (fun j hj u hu=>by
   simp only[prc,List.mem_cons,List.not_mem_nil,or_false] at hu
   rcases hu with rfl | rfl<;>rfl)
  have hbulk: ∀i,i<len→Rows.uptoBulk (D i)≤Rows.uptoBulkAll ((List.range len).map D):=fun i hi=>Eo6 (List.mem_map.2 ⟨i,List.mem_range.2 hi,rfl⟩)
  have hlen:=Dj1 ((List.range len).map D)
  simp only[List.length_map,List.length_range] at hlen
  refine⟨⟨some a,len,m⟩,(List.range len).map q,rfl,?_,?_,fun t ht=>?_⟩
  ·unfold Bs7
   rw[List.map_map]
   exact hr
  ·simp only[List.length_map,List.length_range,Rows.uptoBulk]
   omega
  ·obtain⟨j,hj,rfl⟩:=List.mem_map.1 ht
   have hj':=List.mem_range.1 hj
   have h1:=hbulk j hj'
   have h2:=(hq j (by omega)).2
   simp only[Rows.uptoBulk]
   omega
end Go.Proofs.YtahohahjnhfedaaGreat
/- law6.Raw and law13.Squares. -/
namespace Go.Proofs.YtahohahjnhfedaaGreat
open Go Go.SX
def Gy6 (x:Iv):Prop:=IvS 4000 x∧x.1≤x.2
def r6I (W0:PW) (Lt:List (ByteArray×ByteArray)) (n:Nat) (L:List PL) (W:PW):Prop:=match L with
 | [.row l3,.row l4,.val (.int .i64 i)]=>∃(j:Nat) (m:List Iv),i=(j:Int)∧j≤n∧j≤5∧Ext W0 W∧An5 (SpV 240 W) l3 m∧An5 (Ah6 240 W) l4 m∧m.length≤j∧(∀x∈m,Gy6 x)∧∀x∈m,∃t∈Lt,spP t.1 t.2=some x
 | _=>False
def cn3 (n:Nat) (L:List PL) (_:PW):Nat:=match L with
 | [_,_,.val (.int .i64 i)]=>n-i.toNat
 | _=>0
theorem Hm2 {W0:PW} {M:Nat→Prop} {s:Sl} {L:List (ByteArray×ByteArray)} (h:Bs7 W0 s L) (hl:L.length≤1099511627776) (hz: ∀t∈L,t.1.size≤1099511627776∧t.2.size≤1099511627776):
  Aa0 Tryz.prog 10 [s.v] W0 M fun v W'=>∃(s1:Sl),∃(s2:Sl),∃(bs:List Iv),v = .tuple ⟨[Sl.v s1,Sl.v s2]⟩∧Bc3 240 W' s1 bs∧Fx4 240 W' s2 bs∧(bs.length≤5∧(∀x∈bs,Gy6 x)∧∀x∈bs,∃t∈L,spP t.1 t.2=some x):=by
 apply Hj7
 obtain⟨ty,h⟩:=h
 have hn:s.n=L.length:=by have:=h.1;rw[List.length_map] at this;exact this
 refine⟨r6I W0 L L.length,cn3 L.length,⟨0,[],rfl,Nat.zero_le _,Nat.zero_le _,Ext.refl _,trivial,trivial,Nat.zero_le _,fun x hx=>(by cases hx),fun x hx=>(by cases hx)⟩,?_⟩
 rintro l3 l4 i5 W6 ⟨j,m,rfl,hj,hj5,hE6,a3,a4,hm,hs,hf⟩
 have n3:=a3.len
 have n4:=a4.len
 have fin: ∀{y1 y2:TypeId} (s24:Sl) (W25:PW),Ext W6 W25→SX.Own W25 y1 6 s24 l3→Fr W0 W6 s24→∀(s26:Sl) (W27:PW),Ext W25 W27→SX.Own W27 y2 6 s26 l4→Fr W0 W25 s26→∀(W28:PW),Ext W27 W28→∃(s1 s2:Sl) (bs:List Iv),Value.tuple ⟨[Sl.v s24,Sl.v s26]⟩ = .tuple ⟨[Sl.v s1,Sl.v s2]⟩∧Bc3 240 W28 s1 bs∧Fx4 240 W28 s2 bs∧bs.length≤5∧(∀x∈bs,Gy6 x)∧∀x∈bs,∃t∈L,spP t.1 t.2=some x:=
  fun {y1 y2} s24 W25 hE25 hO25 _ s26 W27 hE27 hO27 _ W28 hE28=>⟨s24,s26,m,rfl,⟨l3,⟨_,hO25.row.ext (hE27.trans hE28)⟩,a3.mono fun _ _ h=>h.ext (hE25.trans (hE27.trans hE28))⟩,⟨l4,⟨_,hO27.row.ext hE28⟩,a4.mono fun _ _ h=>h.ext (hE25.trans (hE27.trans hE28))⟩,by omega,hs,hf⟩
 refine⟨fun hlt=>⟨fun h5=>?_,fun _=>fin⟩,fun _=>fin⟩
 have hjl:j<L.length:=by omega
 have hL:=h.ext hE6
 obtain⟨za,zb⟩:=hz _ (List.getElem_mem hjl)
 have hmu:L.length-Int.toNat ((j:Int)+1)<L.length-Int.toNat (j:Int):=by omega
 refine⟨hL.inB (by omega) (by rw[List.length_map];omega),L[j].1,L[j].2,hL.part (x:=prc L[j]) (by rw[Int.toNat_natCast,List.getElem?_map,List.getElem?_eq_getElem hjl];rfl) 0 rfl,?_⟩
 refine Dd8 za zb fun l l' ok x W10 hE10 ⟨k1,k2,k3,k4⟩=>?_
 have hE:=hE6.trans hE10
 obtain⟨s11,b12,s13,s14,b15,s16,rfl,q1,q2⟩:=k1
 obtain⟨b17,s18,s19,b20,s21,s22,rfl,r1,r2⟩:=k2
 refine⟨s11,b12,s13,s14,b15,s16,b17,s18,s19,b20,s21,s22,ok,rfl,fun hok=>?_,fun hno=>⟨by unfold I64;omega,⟨j+1,m,by push_cast;rfl,by omega,by omega,hE,a3.mono fun _ _ h=>h.ext hE10,a4.mono fun _ _ h=>h.ext hE10,by omega,hs,hf⟩,hmu⟩⟩
 obtain⟨e1,e2,e3⟩:=k3 hok
 obtain⟨p1,p2,p3⟩:=Dp3 e1
 have hx:Gy6 x:=⟨⟨(Aw6 p1).1,(Aw6 p2).1⟩,p3⟩
 refine(fun h=>⟨Fc8 h _,h⟩) ⟨by simp only[List.length_cons,List.length_nil];omega,by simp only[List.length_cons,List.length_nil];omega,by unfold I64;omega,⟨j+1,m ++ [x],by push_cast;rfl,by omega,by omega,hE,(a3.mono fun _ _ h=>h.ext hE10).append ⟨⟨s11,b12,s13,s14,b15,s16,rfl,q1,q2⟩,trivial⟩,(a4.mono fun _ _ h=>h.ext hE10).append ⟨⟨b17,s18,s19,b20,s21,s22,rfl,r1,r2⟩,trivial⟩,by simp only[List.length_append,List.length_cons,List.length_nil];omega,fun y hy=>?_,fun y hy=>?_⟩,hmu⟩
 ·rcases List.mem_append.1 hy with hy | hy
  ·exact hs y hy
  ·rw[List.mem_singleton.1 hy];exact hx
 ·rcases List.mem_append.1 hy with hy | hy
  ·exact hf y hy
  ·rw[List.mem_singleton.1 hy];exact⟨_,List.getElem_mem hjl,e1⟩
theorem Hi0 {W0 W:PW} {M:Nat→Prop} {s:Sl} {L:List (ByteArray×ByteArray)} {K:Value→PW→Prop} (h:Bs7 W s L) (hl:L.length≤1099511627776) (hz: ∀t∈L,t.1.size≤1099511627776∧t.2.size≤1099511627776) (kont: ∀(s1:Sl) (s2:Sl) (bs:List Iv) (W':PW),Ext W W'→(Bc3 240 W' s1 bs∧Fx4 240 W' s2 bs∧(bs.length≤5∧(∀x∈bs,Gy6 x)∧∀x∈bs,∃t∈L,spP t.1 t.2=some x))→K (.tuple ⟨[Sl.v s1,Sl.v s2]⟩) W'):
  Aa1 Tryz.prog W0 M 10 [s.v] W K:=
 Aa2 (fun W' hE=>Hm2 (M:=fun _=>False) (h.ext hE) hl hz) (fun W' v W'' hE hE' hP=>by
  obtain⟨s1,s2,bs,rfl,h⟩:=hP
  exact kont s1 s2 bs W'' (hE.trans hE') h)
end Go.Proofs.YtahohahjnhfedaaGreat
/- book.Pairs, for a workshop without doors. -/
namespace Go.Proofs.YtahohahjnhfedaaGreat
open Go Go.SX
theorem Bs7.ext {W W':PW} {s:Sl} {L:List (ByteArray×ByteArray)} (h:Bs7 W s L) (hE:Ext W W'):Bs7 W' s L:=let⟨ty,h⟩:=h;⟨ty,h.ext hE⟩
theorem Bs7.n {W:PW} {s:Sl} {L:List (ByteArray×ByteArray)} (h:Bs7 W s L):s.n=L.length:=let⟨ty,h⟩:=h;by have:=h.1;rwa [List.length_map] at this
theorem Bs7.inB {W:PW} {s:Sl} {L:List (ByteArray×ByteArray)} (h:Bs7 W s L) {i:Int} (h0:0≤i) (h1:i<(L.length:Int)):SX.inB s i:=let⟨ty,h⟩:=h;Row.inB h h0 (by rw[List.length_map];exact h1)
theorem Bs7.part {W:PW} {s:Sl} {L:List (ByteArray×ByteArray)} (h:Bs7 W s L) {i:Nat} (hi:i<L.length) (off:Nat) {m:List Value} (hm:((prc L[i]).drop off).take m.length=m):Aa7 W s 2 i off m:=let⟨ty,h⟩:=h;Row.part h (x:=prc L[i]) (by rw[List.getElem?_map,List.getElem?_eq_getElem hi];rfl) off hm
theorem Ga5 {W0:PW} {M:Nat→Prop} {s:Sl} {Lt:List (ByteArray×ByteArray)} {n:Int} (h:Bs7 W0 s Lt) (hl:Lt.length≤1099511627776):
  Aa0 Tryz.prog 8 [s.v,.int .i64 n] W0 M fun v W'=>∃(b:Bool),v = .bool b∧(b=true→∀t∈Lt,t.1.size≤30∧t.2.size≤30):=by
 apply Fy6
 have hn:=h.n
 have bad: ∀W':PW,∃b:Bool,(Value.bool false) = .bool b∧(b=true→∀t∈Lt,t.1.size≤30∧t.2.size≤30):=fun W'=>⟨false,rfl,fun e=>by cases e⟩
 refine⟨fun _ W1 _=>bad W1,fun _=>⟨fun L W=>match L with | [.val (.int .i64 z)]=>∃j:Nat,z=(j:Int)∧j≤Lt.length∧Ext W0 W∧∀t∈Lt.take j,t.1.size≤30∧t.2.size≤30 | _=>False,(fun L _=>match L with | [.val (.int .i64 z)]=>Lt.length-z.toNat | _=>0),⟨0,rfl,Nat.zero_le _,Ext.refl _,fun t ht=>by simp at ht⟩,?_⟩⟩
 rintro i4 W5 ⟨j,rfl,hj,hE5,hall⟩
 have h5:=h.ext hE5
 refine⟨fun hlt=>?_,fun hge W10 _=>⟨true,rfl,fun _=>?_⟩⟩
 ·have hjl:j<Lt.length:=by omega
  have hib:=h5.inB (i:=(j:Int)) (by omega) (by omega)
  refine⟨hib,Lt[j].1,h5.part hjl 0 rfl,fun _ W7 _=>bad W7,fun h1=>⟨hib,Lt[j].2,h5.part hjl 1 rfl,fun _ W9 _=>bad W9,fun h2=>⟨by unfold I64;omega,⟨j+1,by push_cast;rfl,by omega,hE5,fun t ht=>?_⟩,?_⟩⟩⟩
  ·rw[List.take_succ_eq_append_getElem hjl] at ht
   rcases List.mem_append.1 ht with ht | ht
   ·exact hall t ht
   ·rw[List.mem_singleton.1 ht];omega
  ·show Lt.length-Int.toNat ((j:Int)+1)<Lt.length-Int.toNat (j:Int)
   omega
 ·have:j=Lt.length:=by omega
  subst this
  rwa [List.take_length] at hall
theorem Fy8 {W0 W:PW} {M:Nat→Prop} {s:Sl} {Lt:List (ByteArray×ByteArray)} {n:Int} {K:Value→PW→Prop} (h:Bs7 W s Lt) (hl:Lt.length≤1099511627776) (kont: ∀(b:Bool) (W':PW),Ext W W'→((b=true→∀t∈Lt,t.1.size≤30∧t.2.size≤30))→K (.bool b) W'):
  Aa1 Tryz.prog W0 M 8 [s.v,.int .i64 n] W K:=
 Aa2 (fun W' hE=>Ga5 (M:=fun _=>False) (h.ext hE) hl) (fun W' v W'' hE hE' hP=>by
  obtain⟨b,rfl,h⟩:=hP
  exact kont b W'' (hE.trans hE') h)
end Go.Proofs.YtahohahjnhfedaaGreat
/- law6.Is and cincturelaw16.FlowTraps. -/
namespace Go.Proofs.YtahohahjnhfedaaGreat
open Go Go.SX
theorem Kn2 {W0:PW} {M:Nat→Prop} {s1 s2:Sl} {bs:List Iv} {k:Nat} (h1:Bc3 240 W0 s1 bs) (h2:Fx4 240 W0 s2 bs) (hz: ∀x∈bs,IvS k x) (hk:k≤100000000) (hl:bs.length≤1048576):
  Aa0 Tryz.prog 15 [s1.v,s2.v] W0 M fun v W'=>v = .bool true∧True:=by
 apply Kj8
 have n1:=h1.n
 have n2:=h2.n
 refine⟨fun e=>absurd (by rw[n1,n2]) e,fun _=>?_⟩
 refine⟨flI W0 bs.length,Kq0 bs.length,⟨0,rfl,Nat.zero_le _,Ext.refl _⟩,?_⟩
 rintro i4 W5 ⟨j,rfl,hj,hE5⟩
 refine⟨fun hlt=>?_,fun hge W22 _=>⟨rfl,trivial⟩⟩
 have hjl:j<bs.length:=by omega
 obtain⟨y,⟨s6,b7,s8,s9,b10,s11,rfl,v1,v2⟩,el1⟩:=(h1.ext hE5).at hjl
 obtain⟨y',⟨b12,s13,s14,b15,s16,s17,rfl,v3,v4⟩,el2⟩:=(h2.ext hE5).at hjl
 refine⟨(h1.ext hE5).inB (by omega) (by omega),s6,b7,s8,s9,b10,s11,el1 0 rfl,(h2.ext hE5).inB (by omega) (by omega),b12,s13,s14,b15,s16,s17,el2 0 rfl,?_⟩
 refine Bt3 (SpV.mk v1 v2) (Ah6.mk v3 v4) (hz _ (List.getElem_mem hjl)) hk fun W19 hE19 _=>⟨true,rfl,fun e=>(by cases e),fun _=>⟨by unfold I64;omega,⟨j+1,by push_cast;rfl,by omega,hE5.trans hE19⟩,?_⟩⟩
 show bs.length-Int.toNat ((j:Int)+1)<bs.length-Int.toNat (j:Int)
 omega
theorem Ki7 {W0 W:PW} {M:Nat→Prop} {s1 s2:Sl} {bs:List Iv} {k:Nat} {K:Value→PW→Prop} (h1:Bc3 240 W s1 bs) (h2:Fx4 240 W s2 bs) (hz: ∀x∈bs,IvS k x) (hk:k≤100000000) (hl:bs.length≤1048576) (kont: ∀(W':PW),Ext W W'→(True)→K (.bool true) W'):
  Aa1 Tryz.prog W0 M 15 [s1.v,s2.v] W K:=
 Aa2 (fun W' hE=>Kn2 (M:=fun _=>False) (h1.ext hE) (h2.ext hE) hz hk hl) (fun W' v W'' hE hE' hP=>by
  obtain⟨rfl,h⟩:=hP
  exact kont W'' (hE.trans hE') h)
theorem Kp9 {a:ByteArray} {q:Rat} (h:Gp3 a=some q) (hs:a.size≤12):Sz 4 q:=by
 unfold Gp3 at h
 split at h
 ·exact Ct3 h (by omega)
 ·cases h
theorem Kq2 {f:List (List Tm)} {x e:List Iv} {h:Rat} (hb: ∀q∈f,Bd 56029 q∧q.length≤14) (ho: ∀q∈f,POk q) (kx: ∀y∈x,IvS 4 y) (ke: ∀y∈e,IvS 4 y) (lx:x.length≤5) (le:e.length≤5) (hz:Sz 4 h) {k:Int} : ∀y∈(if Jz2 f x e h k then enL f x e h k.toNat (k.toNat+1) else[]),IvS 20000000 y:=fun y hy=>by
 by_cases ok:Jz2 f x e h k
 ·rw[if_pos ok] at hy
  obtain⟨i,hi,rfl⟩:=List.mem_map.1 hy
  have hk:=ok.2.1
  exact Kp6 hb ho kx ke lx le hz (by omega) (Nat.le_refl _) (List.mem_range.1 hi) fun z hz2=>ok.lie (by omega)
 ·rw[if_neg ok] at hy
  cases hy
theorem Kp0 {f:List (List Tm)} {x e:List Iv} {h:Rat} {k:Int} :(if Jz2 f x e h k then enL f x e h k.toNat (k.toNat+1) else[]).length≤f.length:=by
 split
 ·unfold enL
  rw[List.length_map,List.length_range]
  exact Nat.le_refl _
 ·exact Nat.zero_le _
theorem Ki1 {W0:PW} {M:Nat→Prop} {s sx se:Sl} {T:List (List (Mon×ByteArray))} {Lx Le:List (ByteArray×ByteArray)} {h:ByteArray} {k:Int} (h1:Jz1 W0 s T) (hx:Bs7 W0 sx Lx) (he:Bs7 W0 se Le) (z1: ∀l∈T,l.length≤1099511627776∧∀t∈l,t.2.size≤1099511627776) (lx:Lx.length≤1099511627776) (zx: ∀t∈Lx,t.1.size≤1099511627776∧t.2.size≤1099511627776) (le:Le.length≤1099511627776) (ze: ∀t∈Le,t.1.size≤1099511627776∧t.2.size≤1099511627776) (zh:h.size≤1099511627776):
  Aa0 Tryz.prog 3 [s.v,sx.v,se.v,.string h,.int .i64 k] W0 M fun v W'=>v = .bool true∧True:=by
 apply Ka4
 have hn:=h1.n
 have alv: ∀W,Aa1 Tryz.prog W0 M 7 [] W fun v11 W12=>∃b13:Bool,v11 = .bool b13∧∀(W14:PW),Ext W12 W14→Value.bool b13 = .bool true∧True:=fun W=>Ka0 fun W12 _ _=>⟨true,rfl,fun W14 _=>⟨rfl,trivial⟩⟩
 refine Ke6 h1 z1 fun s3 s4 b5 W2 hE2 g=>⟨s3,s4,b5,rfl,?_⟩
 refine Go0 zh fun s8 s10 b9 b11 s12 s13 W7 hE7 ⟨q1,q2⟩=>⟨_,_,_,_,_,_,_,rfl,fun _=>alv _,fun hb5=>⟨fun _=>alv _,fun hb14=>?_⟩⟩
 obtain⟨ps,hof,h4,p1,p2⟩:=g (by simpa using hb5)
 have hb14:(Gp3 h).isSome=true:=by simpa using hb14
 obtain⟨q,hq⟩:=Option.isSome_iff_exists.1 hb14
 rw[hq] at q1 q2
 have q1:Ab3 240 _ _ _ _ q:=q1
 have q2:Ab6 240 _ _ _ _ q:=q2
 refine Ka0 fun W24 hE24 _=>⟨true,rfl,fun e=>(by cases e),fun _=>?_⟩
 have E24:=hE2.trans (hE7.trans hE24)
 refine Fy8 (hx.ext E24) lx fun b32 W31 hE31 hx30=>⟨b32,rfl,fun _=>alv _,fun hb32=>?_⟩
 have hx30:=hx30 (by simpa using hb32)
 refine Fy8 (he.ext (E24.trans hE31)) le fun b39 W38 hE38 he30=>⟨b39,rfl,fun _=>alv _,fun hb39=>⟨fun _=>alv _,fun h12=>?_⟩⟩
 have he30:=he30 (by simpa using hb39)
 have hz:Sz 4 q:=Kp9 hq (by omega)
 have hpl:=An5.len hof
 have hb: ∀q∈ps,Bd 56029 q∧q.length≤14:=fun q hq=>by
  obtain⟨l,ho⟩:=hof.mem hq
  exact⟨ho.bd,ho.len⟩
 have ho: ∀q∈ps,POk q:=fun q hq=>by
  obtain⟨i,hi,rfl⟩:=List.mem_iff_getElem.1 hq
  obtain⟨y,hy,hp⟩:=p1.at hi
  exact hp.ok
 have E38:=hE31.trans hE38
 refine⟨flI W38 T.length,Kq0 T.length,⟨0,rfl,Nat.zero_le _,Ext.refl _⟩,?_⟩
 rintro i50 W51 ⟨j,rfl,hj,hE51⟩
 have E51:=E38.trans hE51
 have hT:=h1.ext (E24.trans E51)
 have p1:=p1.ext (hE7.trans (hE24.trans E51))
 have p2:=p2.ext (hE7.trans (hE24.trans E51))
 have q1:=q1.ext (hE24.trans E51)
 have q2:=q2.ext (hE24.trans E51)
 refine⟨fun hlt=>?_,fun hge=>?_⟩
 ·have hjl:j<T.length:=by omega
  have hjp:j<ps.length:=by omega
  obtain⟨x,hx,hl⟩:=hT.at hjl
  obtain⟨y,hy,hq⟩:=p2.at hjp
  have:=(hb _ (List.getElem_mem hjp)).2
  refine⟨hT.inB (by omega) (by omega),x,hx,fun _ W26 _=>⟨rfl,trivial⟩,fun _=>⟨p2.inB (by omega) (by omega),y,hy,Ka5 hq (by omega) fun W29 hE29 _=>⟨_,rfl,fun _ W31 _=>⟨rfl,trivial⟩,fun _=>⟨by unfold I64;omega,⟨j+1,by push_cast;rfl,by omega,hE51.trans hE29⟩,?_⟩⟩⟩⟩
  show T.length-Int.toNat ((j:Int)+1)<T.length-Int.toNat (j:Int)
  omega
 refine Hi0 (hx.ext (E24.trans E51)) lx zx fun s61 s62 xs W60 hE60 ⟨x1,x2,xl,_,xf⟩=>⟨s61,s62,rfl,?_⟩
 refine Hi0 (he.ext (E24.trans (E51.trans hE60))) le ze fun s65 s66 es W64 hE64 ⟨e1,e2,el,_,ef⟩=>⟨s65,s66,rfl,?_⟩
 have kx: ∀x∈xs,IvS 4 x:=fun x hx=>by
  obtain⟨t,ht,e⟩:=xf x hx
  obtain⟨g1,g2,_⟩:=Dp3 e
  exact⟨Ct3 g1 (hx30 t ht).1,Ct3 g2 (hx30 t ht).2⟩
 have ke: ∀x∈es,IvS 4 x:=fun x hx=>by
  obtain⟨t,ht,e⟩:=ef x hx
  obtain⟨g1,g2,_⟩:=Dp3 e
  exact⟨Ct3 g1 (he30 t ht).1,Ct3 g2 (he30 t ht).2⟩
 have E64:=hE60.trans hE64
 refine Kh6 (k:=k) (p1.ext E64) (x1.ext hE64) e1 (q1.ext E64) (by omega) hb ho kx ke xl el hz fun s69 W68 hE68 h68=>⟨s69,_,rfl,?_⟩
 refine Kj1 (k:=k) (p2.ext (E64.trans hE68)) (x2.ext (hE64.trans hE68)) (e2.ext hE68) (q2.ext (E64.trans hE68)) (by omega) hb ho kx ke xl el hz fun s73 W72 hE72 h72=>⟨s73,_,rfl,?_⟩
 have E72:=hE68.trans hE72
 refine Kf6 (p1.ext (E64.trans E72)) (x1.ext (hE64.trans E72)) (e1.ext E72) (q1.ext (E64.trans E72)) (by omega) hb ho kx ke xl el hz fun W76 hE76 _=>⟨_,rfl,?_⟩
 have E76:=E72.trans hE76
 refine Kh8 (p2.ext (E64.trans E76)) (x2.ext (hE64.trans E76)) (e2.ext E76) (q2.ext (E64.trans E76)) (by omega) hb ho kx ke xl el hz fun W79 hE79 _=>⟨_,rfl,fun _=>⟨fun _=>?_,fun e=>absurd rfl e⟩,fun e=>absurd rfl e⟩
 have hlen:=Kp0 (f:=ps) (x:=xs) (e:=es) (h:=q) (k:=k)
 exact Ki7 (h68.ext (hE72.trans (hE76.trans hE79))) (h72.ext (hE76.trans hE79)) (Kq2 hb ho kx ke xl el hz) (by omega) (by omega) fun W82 hE82 _=>⟨true,rfl,fun W84 _=>⟨rfl,trivial⟩⟩
end Go.Proofs.YtahohahjnhfedaaGreat
/- An argument that is a slice of terms with texts, opened. -/
namespace Go.Proofs.YtahohahjnhfedaaGreat
open Go Go.SX Go.ChangeShapes Go.WideShapes Go.ChangeAt Go.RowKit Go.Deep
instance:Inhabited (Mon×ByteArray):=⟨(⟨0,0,0⟩,⟨#[]⟩)⟩
theorem Cd6:Tryz.prog.cellsOf 237=4:=by kernel_rfl
theorem Dv1:Tryz.prog.cellsOf 118=3:=by kernel_rfl
theorem Ew8:Tryz.prog.cellsOf 5=1:=by kernel_rfl
theorem Fg4 {n:Int} (h:(Lit.int .u8 n).wf=true):0≤n∧n≤255:=by
 simp[Lit.wf,IntKind.min,IntKind.max,IntKind.bits,IntKind.signed] at h
 omega
theorem Er8 {H:Type} {enc:TypeId×Value→H} {W:World} {fuel:Nat} {cs:List Value} {x:DataW H×List MemPlace} (h:DataW.trod enc Tryz.prog W 0 (fun _=>true) true fuel 237 cs=some x):
  ∃t:Mon×ByteArray,AT cs t∧t.2.size≤Rows.uptoBulk x.1:=by
 obtain⟨xs,k,rfl,rfl,hl,hxl,hf⟩:=DataW.trod_struct Tryz.underlying237 h
 rw[Cd6] at hl
 have g0:DataW.trod enc Tryz.prog W 0 (fun _=>true) true k 118 ((cs.drop 0).take (Tryz.prog.cellsOf 118))=xs[0]?:=hf 0 _ rfl
 have g1:DataW.trod enc Tryz.prog W 0 (fun _=>true) true k 9 ((cs.drop 3).take (Tryz.prog.cellsOf 9))=xs[1]?:=hf 1 _ rfl
 rw[Dv1] at g0
 rw[Ct5] at g1
 match cs,hl,xs,hxl with
 | [v0,v1,v2,v3],_,[y0,y1],_=>
  have g0:DataW.trod enc Tryz.prog W 0 (fun _=>true) true k 118 [v0,v1,v2]=some y0:=g0
  have g1:DataW.trod enc Tryz.prog W 0 (fun _=>true) true k 9 [v3]=some y1:=g1
  obtain⟨zs,m,rfl,rfl,_,hzl,hz⟩:=DataW.trod_array Tryz.underlying118 g0
  obtain⟨s,hs,rfl,hsz⟩:=DataW.trod_string Tryz.underlying9 g1
  have e0:=hz 0 (by omega)
  have e1:=hz 1 (by omega)
  have e2:=hz 2 (by omega)
  rw[Ew8] at e0 e1 e2
  match zs,hzl with
  | [w0,w1,w2],_=>
   have e0:DataW.trod enc Tryz.prog W 0 (fun _=>true) true m 5 [v0]=some w0:=e0
   have e1:DataW.trod enc Tryz.prog W 0 (fun _=>true) true m 5 [v1]=some w1:=e1
   have e2:DataW.trod enc Tryz.prog W 0 (fun _=>true) true m 5 [v2]=some w2:=e2
   obtain⟨n0,h0,_,k0⟩:=DataW.trod_int Tryz.underlying5 e0
   obtain⟨n1,h1,_,k1⟩:=DataW.trod_int Tryz.underlying5 e1
   obtain⟨n2,h2,_,k2⟩:=DataW.trod_int Tryz.underlying5 e2
   have hs: [v3] = [Value.string s]:=hs
   have h0: [v0] = [Value.int .u8 n0]:=h0
   have h1: [v1] = [Value.int .u8 n1]:=h1
   have h2: [v2] = [Value.int .u8 n2]:=h2
   simp only[List.cons.injEq,and_true] at hs h0 h1 h2
   subst hs h0 h1 h2
   refine⟨(⟨n0,n1,n2⟩,s),⟨⟨Fg4 k0,Fg4 k1,Fg4 k2⟩,rfl⟩,?_⟩
   have e:s.data.toList.length=s.size:=by rw[Array.length_toList];rfl
   simp only[List.map_cons,List.map_nil,Rows.uptoBulk,Rows.uptoBulkAll]
   omega
theorem Et3 {n:Nat} {V:Nat→List Value} {y:Nat→Mon×ByteArray} (h: ∀i,i<n→AT (V i) (y i)):An5 AT ((List.range n).map V) ((List.range n).map y):=by
 induction n with
 | zero=>trivial
 | succ n ih=>
  rw[List.range_succ,List.map_append,List.map_append]
  exact(ih fun i hi=>h i (by omega)).append ⟨h n (by omega),trivial⟩
theorem Dt5 {H:Type} {enc:TypeId×Value→H} {W:World} {fuel:Nat} {v:Value} {d:DataW H} {p:List MemPlace} (h:DataW.trod enc Tryz.prog W 0 (fun _=>true) true fuel 44 [v]=some (d,p)):
  ∃(s:Sl) (L:List (Mon×ByteArray)),v=s.v∧Af3 ⟨W,fun _=>False⟩ s L∧L.length≤Rows.uptoBulk d∧∀t∈L,t.2.size≤Rows.uptoBulk d:=by
 rcases open_slice Tryz.underlying44 h with⟨hcs,hx⟩ | ⟨a,len,cap,m,n,D,Pl,hcs,_,hl,hm,hmm,hx,hcell⟩
 ·have hv:v = .slice none 0 0:=by simpa using hcs
  subst hv
  exact⟨⟨none,0,0⟩,[],rfl,⟨[],⟨0,rfl,Nat.le_refl _,Nat.zero_le _,fun x h=>by simp at h,.inl rfl⟩,trivial⟩,Nat.zero_le _,fun l h=>by simp at h⟩
 ·have hv:v = .slice (some a) len cap:=by simpa using hcs
  subst hv
  simp only[if_true] at hmm
  subst hmm
  simp only[Prod.mk.injEq] at hx
  obtain⟨rfl,_⟩:=hx
  rw[Cd6] at hcell
  obtain⟨q,hq⟩: ∃q:Nat→List Value×(Mon×ByteArray),∀i,i<m→W.cells? 0 (a.add (i*4)) 4=some (q i).1∧AT (q i).1 (q i).2∧(q i).2.2.size≤Rows.uptoBulk (D i):=choose_lt (α:=List Value×(Mon×ByteArray)) (p:=fun i q=>W.cells? 0 (a.add (i*4)) 4=some q.1∧AT q.1 q.2∧q.2.2.size≤Rows.uptoBulk (D i)) fun i hi=>by
   obtain⟨cs',h1,h2⟩:=hcell i hi
   obtain⟨t,h3,h4⟩:=Er8 h2
   exact⟨(cs',t),h1,h3,h4⟩
  have hr:=Bz7 (W:=W) (a:=a) (n:=len) (c:=m) (sz:=4) (V:=fun i=>(q i).1) (fun j hj i v hv=>by
   obtain⟨_,hlen,hc⟩:=World.cells?_some (hq j (by omega)).1
   have hi:i<4:=by have:=(List.getElem?_eq_some_iff.1 hv).1;omega
   have:=hc i hi
   rw[add_add] at this
   rw[this];exact hv) (fun j hj=>(World.cells?_some (hq j (by omega)).1).2.1) (by omega) hl hm (fun j hj u hu=>by
   rw[(hq j (by omega)).2.1.2] at hu
   simp only[List.mem_cons,List.not_mem_nil,or_false] at hu
   rcases hu with rfl | rfl | rfl | rfl<;>rfl)
  have hbulk: ∀i,i<len→Rows.uptoBulk (D i)≤Rows.uptoBulkAll ((List.range len).map D):=fun i hi=>Eo6 (List.mem_map.2 ⟨i,List.mem_range.2 hi,rfl⟩)
  have hlen:=Dj1 ((List.range len).map D)
  simp only[List.length_map,List.length_range] at hlen
  refine⟨⟨some a,len,m⟩,(List.range len).map fun i=>(q i).2,rfl,⟨_,hr,Et3 fun i hi=>(hq i (by omega)).2.1⟩,?_,fun t ht=>?_⟩
  ·simp only[List.length_map,List.length_range,Rows.uptoBulk]
   omega
  ·obtain⟨j,hj,rfl⟩:=List.mem_map.1 ht
   have hj':=List.mem_range.1 hj
   have h1:=hbulk j hj'
   have h2:=(hq j (by omega)).2.2
   simp only[Rows.uptoBulk]
   omega
end Go.Proofs.YtahohahjnhfedaaGreat
/- An argument that is a slice of slices of terms, opened. -/
namespace Go.Proofs.YtahohahjnhfedaaGreat
open Go Go.SX Go.ChangeShapes Go.WideShapes Go.ChangeAt Go.RowKit Go.Deep
instance:Inhabited (Sl×List (Mon×ByteArray)):=⟨(⟨none,0,0⟩,[])⟩
theorem Ki8:Tryz.prog.cellsOf 44=1:=by kernel_rfl
theorem Kk2 {H:Type} {enc:TypeId×Value→H} {W:World} {fuel:Nat} {v:Value} {d:DataW H} {p:List MemPlace} (h:DataW.trod enc Tryz.prog W 0 (fun _=>true) true fuel 22 [v]=some (d,p)):
  ∃(s:Sl) (T:List (List (Mon×ByteArray))),v=s.v∧Jz1 ⟨W,fun _=>False⟩ s T∧T.length≤Rows.uptoBulk d∧∀l∈T,l.length≤Rows.uptoBulk d∧∀t∈l,t.2.size≤Rows.uptoBulk d:=by
 rcases open_slice1 Tryz.underlying22 Ki8 h with⟨hcs,hx⟩ | ⟨a,len,cap,m,n,V,D,Pl,hcs,_,hl,hm,hmm,hx,hcell⟩
 ·have hv:v = .slice none 0 0:=by simpa using hcs
  subst hv
  exact⟨⟨none,0,0⟩,[],rfl,⟨[],⟨0,rfl,Nat.le_refl _,Nat.zero_le _,fun x h=>by simp at h,.inl rfl⟩,rfl,fun i h=>by simp at h⟩,Nat.zero_le _,fun l h=>by simp at h⟩
 ·have hv:v = .slice (some a) len cap:=by simpa using hcs
  subst hv
  simp only[if_true] at hmm
  subst hmm
  simp only[Prod.mk.injEq] at hx
  obtain⟨rfl,_⟩:=hx
  obtain⟨y,hy⟩:=choose_lt (α:=Sl×List (Mon×ByteArray)) (p:=fun i y=>V i=y.1.v∧Af3 ⟨W,fun _=>False⟩ y.1 y.2∧y.2.length≤Rows.uptoBulk (D i)∧∀t∈y.2,t.2.size≤Rows.uptoBulk (D i)) fun i hi=>by
   obtain⟨s,L,h1,h2,h3,h4⟩:=Dt5 (hcell i hi).2
   exact⟨(s,L),h1,h2,h3,h4⟩
  have hr:=Ig6 (V:=V) (fun j hj=>(hcell j (by omega)).1) hl hm (fun j hj=>by rw[(hy j (by omega)).1];rfl)
  have hbulk: ∀i,i<len→Rows.uptoBulk (D i)≤Rows.uptoBulkAll ((List.range len).map D):=fun i hi=>Eo6 (List.mem_map.2 ⟨i,List.mem_range.2 hi,rfl⟩)
  have hlen:=Dj1 ((List.range len).map D)
  simp only[List.length_map,List.length_range] at hlen
  refine⟨⟨some a,len,m⟩,(List.range len).map fun i=>(y i).2,rfl,⟨(List.range len).map fun i=>(y i).1,?_,by simp,fun i hi hi'=>?_⟩,?_,fun l hl=>?_⟩
  ·have e:(((List.range len).map fun i=>(y i).1).map fun x=>[x.v])=(List.range len).map fun j=>[V j]:=by
    rw[List.map_map]
    apply List.map_congr_left
    intro j hj
    have:=(hy j (by have:=List.mem_range.1 hj;omega)).1
    simp[this]
   rw[e]
   exact hr
  ·have hi2:i<len:=by simpa using hi
   simp only[List.getElem_map,List.getElem_range]
   exact(hy i (by omega)).2.1
  ·simp only[List.length_map,List.length_range,Rows.uptoBulk]
   omega
  ·obtain⟨j,hj,rfl⟩:=List.mem_map.1 hl
   have hj':=List.mem_range.1 hj
   have h1:=hbulk j hj'
   obtain⟨_,_,h2,h3⟩:=hy j (by omega)
   simp only[Rows.uptoBulk]
   refine⟨by omega,fun t ht=>?_⟩
   have:=h3 t ht
   omega
end Go.Proofs.YtahohahjnhfedaaGreat
/- cincturelaw16.FlowTraps answers true for every input whose bulk is at most 1048576 (the second form), and its arguments read behind the call as they did ahead of it. -/
namespace Go.Proofs.YtahohahjnhfedaaGreat
open Go Go.SX Go.ChangeShapes Go.WideShapes Go.ChangeAt Go.RowKit Go.Deep
theorem Fa3 (H:Type) (enc:TypeId×Value→H) (W:World) (base:Nat) (args:Array Value) (ds gs:List (DataW H)) (before:List MemPlace)
  (hval: ∀(j:Nat) t v,Tryz.f3.params[j]?=some t→args[j]?=some v→Value.okWide Tryz.prog W .any base t v)
  (hW:DataW.Whole enc Tryz.prog Tryz.f3.params.toList Rows.flowTrapsSpec.vars false W args.toList ds gs before) (hk:Rows.uptoSmall H (ds ++ gs)=true):
  Calls Tryz.prog 3 args W fun e W'=>∃v,e = .returned v∧Rows.flowTrapsSpec.post enc Tryz.prog Tryz.f3 false true false false W args v W':=by
 have hW':=hW
 obtain⟨p,q,hA0,hV,rfl,hfz,hnd⟩:=hW
 have hA:DataW.TrodAll enc Tryz.prog W 0 (fun _=>true) true Tryz.f3.params.toList args.toList ds p:=hA0
 rw[Tryz.params3] at hA hval
 obtain⟨v0,vs0,d0,ds0,p0,q0,hargs,rfl,rfl,h0,r0⟩:=trodAll_cons hA
 obtain⟨v1,vs1,d1,ds1,p1,q1,rfl,rfl,rfl,h1,r1⟩:=trodAll_cons r0
 obtain⟨v2,vs2,d2,ds2,p2,q2,rfl,rfl,rfl,h2,r2⟩:=trodAll_cons r1
 obtain⟨v3,vs3,d3,ds3,p3,q3,rfl,rfl,rfl,h3,r3⟩:=trodAll_cons r2
 obtain⟨v4,vs4,d4,ds4,p4,q4,rfl,rfl,rfl,h4,r4⟩:=trodAll_cons r3
 obtain⟨rfl,rfl,rfl⟩:=trodAll_nil r4
 obtain rfl:args = #[v0,v1,v2,v3,v4]:=by cases args;simp_all
 obtain⟨rfl,rfl⟩:=trodVars_none hV
 obtain⟨a0,n0,c0,rfl⟩:=okWide_slice Tryz.underlying22 (hval 0 22 v0 rfl rfl)
 obtain⟨a1,n1,c1,rfl⟩:=okWide_slice Tryz.underlying23 (hval 1 23 v1 rfl rfl)
 obtain⟨a2,n2,c2,rfl⟩:=okWide_slice Tryz.underlying23 (hval 2 23 v2 rfl rfl)
 obtain⟨t3,rfl⟩:=okWide_string Tryz.underlying9 (hval 3 9 v3 rfl rfl)
 obtain⟨z4,rfl⟩:=okWide_int Tryz.underlying3 (hval 4 3 v4 rfl rfl)
 clear hA0
 simp only[List.append_nil] at hW' hk
 have hlt: ∀x∈p0 ++ (p1 ++ (p2 ++ (p3 ++ p4))),x.block<W.heap.size:=fun x hx=>by simpa using hW'.lt x (by simpa using hx)
 have hbulk:Rows.uptoBulkAll [d0,d1,d2,d3,d4]≤1048576:=of_decide_eq_true hk
 simp only[Rows.uptoBulkAll] at hbulk
 have h0k:=h0
 obtain⟨fuel0,hf0⟩:=h0
 have hf0':DataW.trod enc Tryz.prog W 0 (fun _=>true) true fuel0 22 [.slice a0 n0 c0]=some (d0,p0):=by simpa[Value.cells] using hf0
 obtain⟨s0,L0,hs0,hL0,hb0,hc0⟩:=Kk2 hf0'
 have h1k:=h1
 obtain⟨fuel1,hf1⟩:=h1
 have hf1':DataW.trod enc Tryz.prog W 0 (fun _=>true) true fuel1 23 [.slice a1 n1 c1]=some (d1,p1):=by simpa[Value.cells] using hf1
 obtain⟨s1,L1,hs1,hL1,hb1,hc1⟩:=Gc9 hf1'
 have h2k:=h2
 obtain⟨fuel2,hf2⟩:=h2
 have hf2':DataW.trod enc Tryz.prog W 0 (fun _=>true) true fuel2 23 [.slice a2 n2 c2]=some (d2,p2):=by simpa[Value.cells] using hf2
 obtain⟨s2,L2,hs2,hL2,hb2,hc2⟩:=Gc9 hf2'
 have h3k:=h3
 obtain⟨fuel3,hf3⟩:=h3
 have hf3':DataW.trod enc Tryz.prog W 0 (fun _=>true) true fuel3 9 [.string t3]=some (d3,p3):=by simpa[Value.cells] using hf3
 have hb3:t3.size≤Rows.uptoBulk d3:=by
  obtain⟨s,hs,hx,_⟩:=DataW.trod_string Tryz.underlying9 hf3'
  simp only[List.cons.injEq,Value.string.injEq,and_true] at hs
  simp only[Prod.mk.injEq] at hx
  rw[hx.1,hs]
  have e:s.data.toList.length=s.size:=by rw[Array.length_toList];rfl
  simp only[Rows.uptoBulk]
  omega
 have h4k:=h4
 have hc:=Ki1 (M:=fun _=>False) (h:=t3) (k:=z4) hL0 hL1 hL2 (fun l hl=>⟨by have:=(hc0 l hl).1;omega,fun t ht=>by have:=(hc0 l hl).2 t ht;omega⟩) (by omega) (fun t ht=>by have:=hc1 t ht;omega) (by omega) (fun t ht=>by have:=hc2 t ht;omega) (by omega)
 have hcall:=hc.2 (fun b h=>h.elim)
 rw[hs0,hs1,hs2]
 refine hcall.mono fun e W' ⟨v,he,hkeep,hv,_⟩=>⟨v,he,?_⟩
 subst hv
 have hbel:=hkeep.below
 refine⟨[d0,d1,d2,d3,d4],[],_,[],p0 ++ (p1 ++ (p2 ++ (p3 ++ p4))),[],(by rw[←hs0,←hs1,←hs2];simpa using hW'),trodAll_mk1 (shut_bool Tryz.underlying4 _),(by rw[←hs0,←hs1,←hs2];exact trodAll_cons_mk (Below.trod laidOut (by kernel_rfl) (of_decide_eq_true (by kernel_rfl)) h0k hbel fun x hx=>hlt x (by simp[hx])) (trodAll_cons_mk (Below.trod laidOut (by kernel_rfl) (of_decide_eq_true (by kernel_rfl)) h1k hbel fun x hx=>hlt x (by simp[hx])) (trodAll_mk3 (Below.trod laidOut (by kernel_rfl) (of_decide_eq_true (by kernel_rfl)) h2k hbel fun x hx=>hlt x (by simp[hx])) (Below.trod laidOut (by kernel_rfl) (of_decide_eq_true (by kernel_rfl)) h3k hbel fun x hx=>hlt x (by simp[hx])) (Below.trod laidOut (by kernel_rfl) (of_decide_eq_true (by kernel_rfl)) h4k hbel fun x hx=>hlt x (by simp[hx]))))),rfl,hbel.frame _,fun h=>by cases h⟩
theorem lifted (os:Os) (started:os.Started) (H:Type) (enc:TypeId×Value→H) (F:Stop.Interp):
  ReturnsInHanded {} Tryz.checked os 3 .any ((Rows.OpenSpec.upto Rows.flowTrapsSpec).pre6 enc Tryz.prog Tryz.f3 Rows.flowTrapsUptoRow.domain false) (((Rows.OpenSpec.upto Rows.flowTrapsSpec).at F).post enc Tryz.prog Tryz.f3 false true false false):=by
 refine returnsInHanded_of_cond (C:=Tryz.checked) (s:=Rows.OpenSpec.upto Rows.flowTrapsSpec) (k:=Rows.uptoSmall) rfl Cp9 started (by kernel_rfl) Tryz.func3
  (OpenSpec.witness (enc:=enc) (C:=Tryz.checked) (s:=Rows.OpenSpec.upto Rows.flowTrapsSpec) (k:=Rows.uptoSmall) rfl false ⟨#[],#[.slice none 0 0,.slice none 0 0,.slice none 0 0,.string ⟨#[]⟩,.int .i64 0],[]⟩ 8 (by kernel_rfl) (by kernel_rfl) (by kernel_rfl)
   (x:=([.nil,.nil,.nil,.lit (.string []),.lit (.int .i64 0)],[],[])) (by kernel_rfl) rfl (by kernel_rfl)) ?_
 intro W base args ds gs before hval hW _ hk _
 exact Fa3 H enc W base args ds gs before hval hW hk
theorem Fj9:Fc7 Tryz.checked.prog 3 Tryz.f3 (Rows.OpenSpec.upto Rows.flowTrapsSpec).bare Rows.flowTrapsUptoRow=true:=by kernel_rfl
theorem Fl9:Fd9 Tryz.checked.prog 3 Tryz.f3 (Rows.OpenSpec.upto Rows.flowTrapsSpec).bare Rows.flowTrapsUptoRow=true:=by kernel_rfl
theorem Fl2:Fe1 Tryz.checked.prog 3 Tryz.f3 (Rows.OpenSpec.upto Rows.flowTrapsSpec).bare Rows.flowTrapsUptoRow=true:=by kernel_rfl
theorem Fn7:Fd2 Tryz.checked.prog 3 Tryz.f3 (Rows.OpenSpec.upto Rows.flowTrapsSpec).bare Rows.flowTrapsUptoRow=true:=by kernel_rfl
theorem Fj6:Fd4 Tryz.checked.prog 3 Tryz.f3 (Rows.OpenSpec.upto Rows.flowTrapsSpec).bare Rows.flowTrapsUptoRow=true:=by kernel_rfl
theorem flowTraps_holds:Rows.FlowTrapsUptoSaid:=
 OpenClaim.holds_of_cond 3 Tryz.f3 rfl rfl rfl rfl rfl rfl rfl ⟨rfl,rfl,rfl,rfl,rfl⟩ rfl rfl rfl rfl rfl (by kernel_rfl) Tryz.func3 (Eo7 Fj9 Fl9 Fl2 Fn7 Fj6)
  (of_decide_eq_true (by kernel_rfl)) (by unfold Func.isWrapper;first | (rw[if_pos (by decide +kernel)];kernel_rfl) | (rw[if_neg (by decide +kernel)];exact⟨rfl,rfl⟩))
  (fun os started H enc _ F=>lifted os started H enc F)
#print axioms flowTraps_holds
end Go.Proofs.YtahohahjnhfedaaGreat
