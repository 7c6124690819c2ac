/- cinctureref1: Shl, DivNat, Gcd, the texts of numbers. -/
import Derived.Test.YtjkkidjbppphpaaGreatDoorW7
import Derived.Test.YtjkkidjbppphpaaGreatDoorLib2
set_option linter.unusedVariables false
set_option linter.unusedSimpArgs false
set_option maxRecDepth 100000
namespace Go.Proofs.YtjkkidjbppphpaaGreatDoor
open Go Go.SX
theorem Ed7 {W0:PW} {M:Nat→Prop} {s:Sl} {x k:Nat} (h:Aa6 284 W0 s x) (hx:nl x≤274877906944) (hk:k≤68719476736):
  Aa0 Tryz.prog 255 [s.v,.int .i64 (k:Int)] W0 M fun v W'=>∃(s':Sl),v=Sl.v s'∧Aa6 284 W' s' (x*2^k):=by
 apply Cx1
 have hn:=h.n
 have hl:(dg x).length=nl x:=rfl
 unfold Cs0
 simp only[Eg1 (show k≤1099511627776 by omega),Em5,Ab1 (show k%32<18446744073709551616 by omega)]
 obtain⟨N,hN⟩: ∃N,k/32=N:=⟨_,rfl⟩
 obtain⟨sh,hsh⟩: ∃sh,k%32=sh:=⟨_,rfl⟩
 have hs32:sh<32:=by omega
 have hN2:N≤2147483648:=by omega
 have hkk:k=32*N+sh:=by omega
 rw[hN,hsh]
 have hpw:=Fd1 hs32
 refine⟨by decide,by unfold I64;omega,by unfold I64;omega,⟨trivial,by omega,by omega⟩,Ft8 x N sh W0,Fu1 x,?_,?_⟩
 ·refine⟨Ext.refl _,0,List.replicate (nl x+N+1) 0,rfl,?_,by omega,by simp,fun d hd=>?_,by simp[val,Ao6],fun j hj _=>by simp,fun hj=>by simp;exact Nat.two_pow_pos sh⟩
  ·rw[show Int.toNat ((s.n:Int)+(N:Int)+1)=nl x+N+1 by omega];exact Ae3 _
  ·rw[(List.mem_replicate.1 hd).2];decide
 rintro l3 i4 W5 ⟨hE5,i,zs,rfl,rfl,hi,hz,hdz,hv,h0,hp⟩
 have h5:=h.ext hE5
 refine⟨fun hlt=>?_,fun hge s8 W9 hE9 hO hf=>?_⟩
 ·have hia:i<(dg x).length:=by omega
  have hxB:=(Ad8 x).at hia
  obtain⟨d,hd⟩: ∃d,(dg x)[i]=d:=⟨_,rfl⟩
  have hiz:N+i<zs.length:=by omega
  have hiz1:N+i+1<zs.length:=by omega
  have hpi:=hp hiz
  obtain⟨p,hpp⟩: ∃p,zs[N+i]=p:=⟨_,rfl⟩
  have hmul:d*2^sh<18446744073709551616:=by
   rw[hd] at hxB
   have:=Nat.mul_le_mul (Nat.le_of_lt hxB) hpw
   unfold B at this
   omega
  have ed:IntKind.wrap .u64 ((d:Nat):Int)=(d:Int):=Ab1 (by rw[hd] at hxB;unfold B at hxB;omega)
  have ei:(i:Int)+(N:Int)=((N+i:Nat):Int):=by omega
  have lo:=Fc9 (v:=d) hs32
  have hloB:(d*2^sh)%B<B:=Nat.mod_lt _ Ad3
  have hjoin:p+(d*2^sh)%B<B:=by
   have e1:B=2^sh*2^(32-sh):=by rw[←Nat.pow_add,show sh+(32-sh)=32 by omega];rfl
   have e2:=Nat.mod_add_div ((d*2^sh)%B) (2^sh)
   rw[lo,Nat.zero_add] at e2
   rw[hpp] at hpi
   generalize (d*2^sh)%B/2^sh=q at e2
   have:q<2^(32-sh):=by
    apply Nat.lt_of_mul_lt_mul_left (a:=2^sh)
    rw[e2,←e1];exact hloB
   have:=Nat.mul_le_mul_left (2^sh) (show q+1≤2^(32-sh) from this)
   rw[Nat.mul_add,e2,←e1] at this
   omega
  have hhi:d*2^sh/B<2^sh:=by
   rw[Nat.div_lt_iff_lt_mul Ad3,Nat.mul_comm]
   rw[hd] at hxB
   exact Nat.mul_lt_mul_of_pos_left hxB (Nat.two_pow_pos sh)
  have hhiB:d*2^sh/B<B:=by unfold B at *;omega
  have eor:bits .or .u32 (p:Int) (((d*2^sh%B:Nat)):Int)=((p+d*2^sh%B:Nat):Int):=by
   rw[u32_or_nat _ _ (by unfold B at *;omega) (by unfold B at *;omega),Nat.or_comm,nat_join sh _ _ lo (by rw[←hpp];exact hpi),Nat.add_comm]
  have hset:List.length (List.set (cel zs) (N+i) [Value.int .u32 ((p+d*2^sh%B:Nat):Int)])=zs.length:=by simp[Aa5]
  refine⟨Ad4.inB h5 (by omega) (by omega),(d:Int),by rw[←hd];exact Ad4.at h5 hia,by decide,⟨by omega,by show(sh:Int)≤64;omega⟩,by decide,by unfold I64;omega,⟨by omega,by rw[Aa5];omega⟩,(p:Int),?_⟩
  rw[ei,show Int.toNat ((N+i:Nat):Int)=N+i from rfl,show Int.toNat ((sh:Nat):Int)=sh from rfl,ed,Dr8 hmul,Ao0,Cx7 hmul,Ab9,Ab9,Nat.mod_mod,eor,Nat.mod_eq_of_lt hhiB,hset]
  have e3:(zs.set (N+i) (p+d*2^sh%B))[N+i+1]'(by simpa using hiz1)=0:=by
   rw[List.getElem_set_ne (by omega)];exact h0 _ hiz1 (by omega)
  have eor2:bits .or .u32 ((0:Nat):Int) ((d*2^sh/B:Nat):Int)=((d*2^sh/B:Nat):Int):=by
   rw[u32_or_nat _ _ (by decide) (by unfold B at *;omega),Nat.zero_or]
  have e4:Int.toNat (((N+i:Nat):Int)+1)=N+i+1:=by omega
  refine⟨⟨_,Au0 hiz,by rw[hpp];rfl⟩,⟨by omega,by rw[Aa5];omega⟩,by rw[Aa5];omega,by decide,by unfold I64;omega,by unfold I64;omega,⟨by omega,by omega⟩,((0:Nat):Int),?_,⟨by omega,by omega⟩,by omega,by unfold I64;omega,?_,?_⟩
  ·rw[Ae9,e4]
   exact⟨_,Au0 (by simpa using hiz1),by rw[e3];rfl⟩
  ·rw[Ae9,e4,eor2,Ae9]
   refine⟨hE5,i+1,_,by push_cast;rfl,rfl,by omega,by simpa using hz,(hdz.set hjoin).set hhiB,?_,fun j hj hlt=>?_,fun hj=>?_⟩
   ·have e1:=Bh5 zs (k:=N+i) (p+d*2^sh%B) hiz
    have e2:=Bh5 (zs.set (N+i) (p+d*2^sh%B)) (k:=N+i+1) (d*2^sh/B) (by simpa using hiz1)
    have e3:(zs.set (N+i) (p+d*2^sh%B))[N+i+1]'(by simpa using hiz1)=0:=by
     rw[List.getElem_set_ne (by omega)];exact h0 _ hiz1 (by omega)
    rw[e3] at e2
    rw[hpp] at e1
    rw[Aa4 hia,hd]
    have e4:=Nat.mod_add_div (d*2^sh) B
    rw[Nat.mul_zero,Nat.add_zero,Nat.pow_succ] at e2
    rw[e2]
    have e5:B^N*2^sh*(val ((dg x).take i)+B^i*d)=val zs+B^(N+i)*(d*2^sh):=by
     rw[hv,Nat.pow_add]
     generalize B^N=a
     generalize B^i=b
     generalize 2^sh=c
     grind
    have e6:B^(N+i)*(d*2^sh)=B^(N+i)*(d*2^sh%B)+B^(N+i)*B*(d*2^sh/B):=by
     conv=>lhs;rw[←e4]
     rw[Nat.mul_add,Nat.mul_assoc]
    rw[e5,e6]
    generalize d*2^sh%B=z1 at *
    generalize d*2^sh/B=z2 at *
    generalize B^(N+i)=bb at *
    have:bb*(p+z1)=bb*p+bb*z1:=Nat.mul_add ..
    omega
   ·rw[List.getElem_set_ne (by omega),List.getElem_set_ne (by omega)]
    exact h0 j (by simpa using hj) (by omega)
   ·simp only[show N+(i+1)=N+i+1 by omega]
    rw[List.getElem_set_self]
    exact hhi
  ·show nl x-Int.toNat ((i:Int)+1)<nl x-Int.toNat (i:Int)
   omega
 ·have:i=nl x:=by omega
  subst this
  have e:val zs=x*2^k:=by
   rw[hv,←hl,List.take_length,Ac5,Bp0,←Nat.pow_add,←hkk,Nat.mul_comm]
  refine An1 hO.row hdz (by omega) fun s' W12 hE12 h1=>⟨s',rfl,fun W14 hE14=>⟨s',rfl,?_⟩⟩
  rw[e] at h1
  exact h1.ext hE14
theorem Bt0 {W0 W:PW} {M:Nat→Prop} {s:Sl} {x k:Nat} {K:Value→PW→Prop} (h:Aa6 284 W s x) (hx:nl x≤274877906944) (hk:k≤68719476736) (kont: ∀(s':Sl) (W':PW),Ext W W'→(Aa6 284 W' s' (x*2^k))→K (Sl.v s') W'):
  Aa1 Tryz.prog W0 M 255 [s.v,.int .i64 (k:Int)] W K:=
 Aa2 (fun W' hE=>Ed7 (M:=fun _=>False) (h.ext hE) hx hk) (fun W' v W'' hE hE' hP=>by
  obtain⟨s',rfl,h⟩:=hP
  exact kont s' W'' (hE.trans hE') h)
theorem Fn0 {k n:Nat} (h:k<32*n):nl (2^k)≤n:=Bc6 (by rw[Bp0];exact Nat.pow_lt_pow_right (by decide) h)
theorem Eg0 {x:Nat} (h:x≠0):2^(Aj9 x-1)≤x∧x<2^Aj9 x∧1≤Aj9 x:=by
 obtain⟨n,e,h1,h2⟩:=Ax2 h
 rw[e]
 exact⟨h1,h2,by omega⟩
theorem Dm3 (x:Nat):Aj9 x≤32*nl x:=Bb9 (by rw[←Bp0];exact Bb4 x)
theorem Ep1 {W0:PW} {M:Nat→Prop} {s t:Sl} {x y:Nat} (h1:Aa6 284 W0 s x) (h2:Aa6 284 W0 t y) (hx:nl x≤1073741824) (hy:nl y≤1073741824) (hy0:y≠0):
  Aa0 Tryz.prog 231 [s.v,t.v] W0 M fun v W'=>∃(q:Sl),∃(r:Sl),v = .tuple #[Sl.v q,Sl.v r]∧Aa6 284 W' q (x/y)∧Aa6 284 W' r (x%y):=by
 apply By5
 have bx:=Dm3 x
 have by':=Dm3 y
 refine Bj8 h1 (by omega) fun W2 hE2 _=>⟨_,rfl,Bj8 (h2.ext hE2) (by omega) fun W5 hE5 _=>⟨_,rfl,by unfold I64;omega,?_⟩⟩
 refine⟨fun l W=>match l with
  | [.val (.slice A n c),.val (.slice A' n' c'),.val (.int .i64 i)]=>Ext W5 W∧∃q r,Aa6 284 W ⟨A,n,c⟩ r∧Aa6 284 W ⟨A',n',c'⟩ q∧x=y*q+r∧r<y*2^(i+1).toNat∧i≤68719476736
  | _=>False,fun l _=>match l with | [_,_,.val (.int .i64 i)]=>(i+1).toNat | _=>0,⟨Ext.refl _,0,x,(h1.ext hE2).ext hE5,Af6 W5,by simp,?_,by omega⟩,?_⟩
 ·have e2:=Eg0 hy0
  by_cases h0:x=0
  ·subst h0
   exact Nat.mul_pos (by omega) (Nat.two_pow_pos _)
  ·have e1:=Eg0 h0
   by_cases hb:Aj9 y≤Aj9 x
   ·rw[show Int.toNat ((Aj9 x:Int)-(Aj9 y:Int)+1)=Aj9 x-Aj9 y+1 by omega]
    have p:2^Aj9 x=2^(Aj9 y-1)*2^(Aj9 x-Aj9 y+1):=by rw[←Nat.pow_add];congr 1;omega
    have:=Nat.mul_le_mul_right (2^(Aj9 x-Aj9 y+1)) e2.1
    omega
   ·rw[show Int.toNat ((Aj9 x:Int)-(Aj9 y:Int)+1)=0 by omega]
    have p:2^Aj9 x≤2^(Aj9 y-1):=Nat.pow_le_pow_right (by decide) (by omega)
    omega
 rintro s9 s10 i11 W12 ⟨hE12,q,r,hr,hq,hxy,hlt,hi⟩
 have hr:Aa6 284 W12 s9 r:=hr
 have hq:Aa6 284 W12 s10 q:=hq
 have hrx:r≤x:=by omega
 have nr:=Ad1 hrx
 have hqx:q≤x:=by
  have:1*q≤y*q:=Nat.mul_le_mul_right _ (by omega)
  omega
 have nq:=Ad1 hqx
 refine⟨fun h0=>?_,fun h0 W31 hE31=>⟨s10,s9,rfl,?_⟩⟩
 ·obtain⟨k,rfl⟩:=Int.eq_ofNat_of_zero_le h0
  have e1:Int.toNat ((k:Int)+1)=k+1:=by omega
  rw[e1,Nat.pow_succ] at hlt
  have hym:nl (y*2^k)≤1099511627776:=by
   have h2k:nl (2^k)≤68719476737:=Fn0 (by omega)
   have:=Ae5 y (2^k)
   omega
  refine Bt0 (((h2.ext hE2).ext hE5).ext hE12) (by omega) (by omega) fun s15 W14 hE14 h15=>⟨s15,rfl,?_⟩
  refine Aj3 h15 (hr.ext hE14) hym fun W17 hE17 _=>⟨_,rfl,fun hle=>?_,fun hgt=>⟨by unfold I64;omega,⟨(hE12.trans hE14).trans hE17,q,r,(hr.ext hE14).ext hE17,(hq.ext hE14).ext hE17,hxy,?_,by omega⟩,?_⟩⟩
  ·have hle':y*2^k≤r:=by
    apply Nat.le_of_not_lt
    intro h
    rw[Aj4 h] at hle
    omega
   have h2kx:2^k≤x:=by
    have:1*2^k≤y*2^k:=Nat.mul_le_mul_right _ (by omega)
    omega
   have n2k:=Ad1 h2kx
   refine Bc2 ((hr.ext hE14).ext hE17) (h15.ext hE17) (by omega) hle' fun s21 W20 hE20 h21=>⟨s21,rfl,?_⟩
   refine Ae0 (x:=1) (by decide) fun s24 W23 hE23 h24=>⟨s24,rfl,?_⟩
   refine Bt0 h24 (by rw[Ax0];omega) (by omega) fun s27 W26 hE26 h27=>⟨s27,rfl,?_⟩
   rw[Nat.one_mul] at h27
   refine Bz0 (((((hq.ext hE14).ext hE17).ext hE20).ext hE23).ext hE26) h27 (by omega) (by omega) fun s30 W29 hE29 h30=>⟨s30,rfl,by unfold I64;omega,⟨((((((hE12.trans hE14).trans hE17).trans hE20).trans hE23).trans hE26).trans hE29),q+2^k,r-y*2^k,((h21.ext hE23).ext hE26).ext hE29,h30,?_,?_,by omega⟩,?_⟩
   ·rw[Nat.mul_add];omega
   ·rw[show Int.toNat ((k:Int)-1+1)=k by omega]
    have:y*(2^k*2)=y*2^k*2:=by rw[Nat.mul_assoc]
    omega
   ·show Int.toNat ((k:Int)-1+1)<Int.toNat ((k:Int)+1)
    omega
  ·rw[show Int.toNat ((k:Int)-1+1)=k by omega]
   apply Nat.lt_of_not_le
   intro h
   apply hgt
   rcases Nat.lt_or_eq_of_le h with h | h
   ·rw[Al0 h];omega
   ·rw[h,Ap9];omega
  ·show Int.toNat ((k:Int)-1+1)<Int.toNat ((k:Int)+1)
   omega
 ·rw[show Int.toNat (i11+1)=0 by omega,Nat.pow_zero,Nat.mul_one] at hlt
  have e1:x/y=q:=by rw[hxy,Nat.mul_add_div (by omega),Nat.div_eq_of_lt hlt,Nat.add_zero]
  have e2:x%y=r:=by rw[hxy,Nat.mul_add_mod,Nat.mod_eq_of_lt hlt]
  rw[e1,e2]
  exact⟨hq.ext hE31,hr.ext hE31⟩
theorem Ba8 {W0 W:PW} {M:Nat→Prop} {s t:Sl} {x y:Nat} {K:Value→PW→Prop} (h1:Aa6 284 W s x) (h2:Aa6 284 W t y) (hx:nl x≤1073741824) (hy:nl y≤1073741824) (hy0:y≠0) (kont: ∀(q:Sl) (r:Sl) (W':PW),Ext W W'→(Aa6 284 W' q (x/y)∧Aa6 284 W' r (x%y))→K (.tuple #[Sl.v q,Sl.v r]) W'):
  Aa1 Tryz.prog W0 M 231 [s.v,t.v] W K:=
 Aa2 (fun W' hE=>Ep1 (M:=fun _=>False) (h1.ext hE) (h2.ext hE) hx hy hy0) (fun W' v W'' hE hE' hP=>by
  obtain⟨q,r,rfl,h⟩:=hP
  exact kont q r W'' (hE.trans hE') h)
def rgI (x y:Nat) (W0:PW) (l:List PL) (W:PW):Prop:=
 match l with
 | [.val (.slice A n c),.val (.slice A' n' c')]=>Ext W0 W∧∃a b,Aa6 284 W ⟨A,n,c⟩ a∧Aa6 284 W ⟨A',n',c'⟩ b∧Nat.gcd a b=Nat.gcd x y∧nl a≤1073741824∧nl b≤1073741824
 | _=>False
noncomputable def rgM (l:List PL) (W:PW):Nat:=
 match l with
 | [_,.val (.slice A' n' c')]=>slN W 284 ⟨A',n',c'⟩
 | _=>0
theorem Ee0 {W0:PW} {M:Nat→Prop} {s t:Sl} {x y:Nat} (h1:Aa6 284 W0 s x) (h2:Aa6 284 W0 t y) (hx:nl x≤1073741824) (hy:nl y≤1073741824):
  Aa0 Tryz.prog 190 [s.v,t.v] W0 M fun v W'=>∃(s':Sl),v=Sl.v s'∧Aa6 284 W' s' (Nat.gcd x y):=by
 apply Dc2
 refine⟨rgI x y W0,rgM,⟨Ext.refl _,x,y,h1,h2,rfl,hx,hy⟩,?_⟩
 rintro s3 s4 W5 ⟨hE5,a,b,ha,hb,hg,na,nb⟩
 have ha:Aa6 284 W5 s3 a:=ha
 have hb:Aa6 284 W5 s4 b:=hb
 have n4:=hb.n
 refine⟨fun hpos=>?_,fun hz W10 hE10=>⟨s3,rfl,?_⟩⟩
 ·have hb0:b≠0:=fun e=>by subst e;rw[Ag9] at n4;omega
  refine Ba8 ha hb na nb hb0 fun s8 s9 W7 hE7 ⟨h8,h9⟩=>⟨s8,s9,rfl,⟨hE5.trans hE7,b,a%b,hb.ext hE7,h9,?_,nb,?_⟩,?_⟩
  ·rw[Bo4];exact hg
  ·exact Nat.le_trans (Ad1 (Nat.le_of_lt (Nat.mod_lt _ (by omega)))) nb
  ·show slN W7 _ s9<slN W5 _ s4
   rw[Bl5 h9,Bl5 hb]
   exact Nat.mod_lt _ (by omega)
 ·have:b=0:=Ad0.1 (by omega)
  subst this
  rw[Nat.gcd_zero_right] at hg
  rw[←hg]
  exact ha.ext hE10
theorem Bv8 {W0 W:PW} {M:Nat→Prop} {s t:Sl} {x y:Nat} {K:Value→PW→Prop} (h1:Aa6 284 W s x) (h2:Aa6 284 W t y) (hx:nl x≤1073741824) (hy:nl y≤1073741824) (kont: ∀(s':Sl) (W':PW),Ext W W'→(Aa6 284 W' s' (Nat.gcd x y))→K (Sl.v s') W'):
  Aa1 Tryz.prog W0 M 190 [s.v,t.v] W K:=
 Aa2 (fun W' hE=>Ee0 (M:=fun _=>False) (h1.ext hE) (h2.ext hE) hx hy) (fun W' v W'' hE hE' hP=>by
  obtain⟨s',rfl,h⟩:=hP
  exact kont s' W'' (hE.trans hE') h)
end Go.Proofs.YtjkkidjbppphpaaGreatDoor
/- cinctureref1: the texts of numbers; cincturelaw3.Num. -/
namespace Go.Proofs.YtjkkidjbppphpaaGreatDoor
open Go Go.SX
theorem Ey6 {us ws:List Nat} {c' b c:Nat} (ht:Trim us) (hd:Dig us) (hl:ws.length=us.length) (hw:Dig ws) (hc:c'<B) (hb:0<b) (h:val ws+B^ws.length*c'=val us*b+c):dg (val us*b+c)=if c'=0 then ws else ws ++ [c']:=by
 rw[←h]
 split
 ·rename_i h0
  subst h0
  rw[Nat.mul_zero,Nat.add_zero] at h⊢
  by_cases hn:ws = []
  ·subst hn;exact Ae8
  ·refine Bk0 hw (Ek5 hw hn ?_)
   have hun:us≠[]:=fun e=>hn (List.eq_nil_of_length_eq_zero (by rw[hl,e];rfl))
   rw[h,hl]
   have h1:=Ee4 hun ht
   have h2:val us*1≤val us*b:=Nat.mul_le_mul_left _ hb
   omega
 ·rename_i h0
  rw[show val ws+B^ws.length*c'=val (ws ++ [c']) by rw[Ag8];simp[val]]
  exact Bk0 (hw.append (Dig.cons hc Dig.nil)) (Cx9 h0)
theorem Fq2 {a:ByteArray} {k:Nat} (h1:48≤sb a k) (h2:sb a k≤57):IntKind.wrap .u64 (IntKind.wrap .u8 (Ae2 a k-48))=((sb a k-48:Nat):Int):=by
 rw[Ao5,Du1 (by omega) (by omega),show((sb a k:Int)-48)=((sb a k-48:Nat):Int) by omega,Ab1 (by omega)]
def rnI (us:List Nat) (c0:Nat) (W22:PW) (l:List PL) (W:PW):Prop:=
 match l with
 | [.val (.int .u64 c),.val (.int .i64 k),.row xs]=>Ext W22 W∧∃(c' k':Nat) (ws:List Nat),c=(c':Int)∧k=(k':Int)∧xs=cel ws∧ws.length=us.length∧Dig ws∧c'<B∧k'≤us.length∧
   val (ws.take k')+B^k'*c'=val (us.take k')*10+c0∧ws.drop k'=us.drop k'
 | _=>False
def rnM (n:Nat) (l:List PL) (W:PW):Nat:=
 match l with
 | [_,.val (.int .i64 k),_]=>n-k.toNat
 | _=>0
theorem Cc7 {W0:PW} {M:Nat→Prop} {a:ByteArray} :
  Aa0 Tryz.prog 188 [.string a] W0 M fun v W'=>∃(s':Sl),v = .tuple #[Sl.v s',.bool (Ad2 a).isSome]∧Aa6 284 W' s' ((Ad2 a).getD 0):=by
 apply Bi5
 have bad:¬Cv5 a→∀W':PW,∃s':Sl,(Value.tuple #[.slice none 0 0,.bool false]) = .tuple #[Sl.v s',.bool (Ad2 a).isSome]∧Aa6 284 W' s' ((Ad2 a).getD 0):=by
  intro h W'
  rw[Bh4 h]
  exact⟨⟨none,0,0⟩,rfl,Af6 W'⟩
 have hs0:Ae2 a 0=(sb a 0:Int):=Ao5 a 0
 refine⟨fun l W=>Ext W0 W∧a.size≠0∧a.size≤4000∧¬(sb a 0=48∧1<a.size),⟨fun h=>fun W2 _=>bad ?_ W2,fun h=>⟨fun hl=>fun W2 _=>bad ?_ W2,fun hl=>⟨?_,fun h0=>⟨fun h1 W6 _=>bad ?_ W6,fun h1=>?_⟩,fun h0=>?_⟩⟩⟩,?_⟩
 ·rintro⟨h1,_⟩
  omega
 ·rintro⟨_,h1,_⟩
  omega
 ·omega
 ·rintro⟨_,_,h2,_⟩
  exact h2 ⟨by omega,by omega⟩
 ·exact⟨Ext.refl _,by omega,by omega,by omega⟩
 ·exact⟨Ext.refl _,by omega,by omega,by omega⟩
 rintro W8 ⟨hE8,hz,h4,h48⟩
 refine⟨fun l W=>match l with | [.row xs,.val (.int .i64 i)]=>Ext W0 W∧(∃k:Nat,i=(k:Int)∧k≤a.size∧(∀j,j<k→48≤sb a j∧sb a j≤57)∧xs=cel (dg (dv a k))) | _=>False,
  fun l _=>match l with | [_,.val (.int .i64 i)]=>a.size-i.toNat | _=>0,⟨hE8,0,rfl,Nat.zero_le _,fun j h=>(by omega),by rw[show dv a 0=0 from rfl,Ae8];rfl⟩,?_⟩
 rintro l11 i12 W13 ⟨hE13,k,rfl,hk,hdk,rfl⟩
 have hsk:Ae2 a (Int.toNat (k:Int))=(sb a k:Int):=Ao5 a k
 refine⟨fun hlt=>⟨fun l W=>Ext W13 W∧48≤sb a k∧sb a k≤57,⟨by omega,fun hb=>fun W17 _=>bad ?_ W17,fun hb=>⟨by omega,fun hb2 W18 _=>bad ?_ W18,fun hb2=>⟨Ext.refl _,by omega,by omega⟩⟩⟩,?_⟩,fun hge s30 W31 hE31 hO hnew W33 hE33=>?_⟩
 ·rintro⟨_,_,_,h⟩
  have:=h k (by omega)
  omega
 ·rintro⟨_,_,_,h⟩
  have:=h k (by omega)
  omega
 ·rintro t17 i18 b19 t20 i21 W22 ⟨hE22,hb1,hb2⟩
  have hnl:=Fn5 hdk (by omega)
  have hul:(dg (dv a k)).length=nl (dv a k):=rfl
  obtain⟨us,hus⟩: ∃us,dg (dv a k)=us:=⟨_,rfl⟩
  have hud:Dig us:=hus ▸ Ad8 _
  have hut:Trim us:=hus ▸ Df1 _
  have huv:val us=dv a k:=by rw[←hus,Ac5]
  rw[hus] at hul
  refine⟨by omega,?_⟩
  rw[show Int.toNat (k:Int)=k from rfl,Fq2 hb1 hb2,hus]
  refine⟨rnI us (sb a k-48) W22,rnM us.length,⟨Ext.refl _,_,0,us,rfl,rfl,rfl,rfl,hud,by unfold B;omega,Nat.zero_le _,by simp[val],rfl⟩,?_⟩
  rintro l25 i26 i27 W28 ⟨hE28,c,j,ws,rfl,rfl,rfl,hwl,hwd,hcB,hj,hv,hdr⟩
  rw[Aa5]
  refine⟨fun hlt2=>?_,fun hge2=>?_⟩
  ·have hju:j<us.length:=by omega
   have hjw:j<ws.length:=by omega
   have hwj:ws[j]=us[j]:=by
    have:=congrArg (fun l=>l[0]?) hdr
    simpa[List.getElem?_drop,hju,hjw] using this
   have hdj:=hud.at hju
   have hcl:=Ds7 (b:=10) hcB hdj (by decide)
   have e:IntKind.wrap .u64 ((c:Int)+IntKind.wrap .u64 (IntKind.wrap .u64 ((us[j]:Nat):Int)*10))=((c+us[j]*10:Nat):Int):=by
    rw[Ab1 (n:=us[j]) (by unfold B at hdj;omega),show((us[j]:Nat):Int)*10=((us[j]*10:Nat):Int) by push_cast;rfl,Ab1 (n:=us[j]*10) (by omega),←Int.natCast_add,Ab1 hcl.2]
   refine⟨by omega,((us[j]:Nat):Int),⟨_,Au0 hjw,by rw[hwj];rfl⟩,by omega,by omega,by unfold I64;omega,?_,?_⟩
   ·rw[e,Ao0,Cx7 hcl.2,Ab9,Nat.mod_mod,show Int.toNat (j:Int)=j from rfl,Ae9]
    refine⟨hE28,_,j+1,_,rfl,by push_cast;rfl,rfl,by simpa using hwl,hwd.set (Nat.mod_lt _ Ad3),hcl.1,by omega,?_,?_⟩
    ·rw[Ac1 hjw,Aa4 hju,Nat.pow_succ]
     exact grow_step hv
    ·rw[Ah5 (by omega)]
     have:=congrArg (fun l=>l.drop 1) hdr
     simpa using this
   ·show us.length-Int.toNat ((j:Int)+1)<us.length-Int.toNat (j:Int)
    omega
  ·have hju:j=us.length:=by omega
   subst hju
   rw[←hwl,List.take_length,hwl,List.take_length] at hv
   have hf:=Ey6 hut hud hwl hwd hcB (b:=10) (by decide) (by rw[hwl];exact hv)
   have hdig: ∀j,j<k+1→48≤sb a j∧sb a j≤57:=by
    intro j hj
    by_cases e:j=k
    ·subst e;exact⟨hb1,hb2⟩
    ·exact hdk j (by omega)
   have edv:dv a (k+1)=val us*10+(sb a k-48):=by rw[huv];rfl
   have hm:a.size-Int.toNat ((k:Int)+1)<a.size-Int.toNat (k:Int):=by omega
   refine⟨fun hpos=>⟨by simp;omega,by unfold I64;omega,⟨(hE13.trans hE22).trans hE28,k+1,by push_cast;rfl,by omega,hdig,?_⟩,hm⟩,fun hz=>⟨by unfold I64;omega,⟨(hE13.trans hE22).trans hE28,k+1,by push_cast;rfl,by omega,hdig,?_⟩,hm⟩⟩
   ·rw[edv,hf,if_neg (by omega),Ab9,Nat.mod_eq_of_lt hcB,←Bh9];rfl
   ·rw[edv,hf,if_pos (by omega)]
 ·have hk':k=a.size:=by omega
  subst hk'
  have hg:Cv5 a:=⟨hz,h4,h48,hdk⟩
  rw[Bu4 hg]
  exact⟨s30,rfl,(hO.ext hE33).row⟩
theorem Aj1 {W0 W:PW} {M:Nat→Prop} {a:ByteArray} {K:Value→PW→Prop} (kont: ∀(s':Sl) (W':PW),Ext W W'→(Aa6 284 W' s' ((Ad2 a).getD 0))→K (.tuple #[Sl.v s',.bool (Ad2 a).isSome]) W'):
  Aa1 Tryz.prog W0 M 188 [.string a] W K:=
 Aa2 (fun W' hE=>Cc7 (M:=fun _=>False) ) (fun W' v W'' hE hE' hP=>by
  obtain⟨s',rfl,h⟩:=hP
  exact kont s' W'' (hE.trans hE') h)
theorem Dv5 {t:TypeId} (W:PW):Ab6 t W false ⟨none,0,0⟩ ⟨none,0,0⟩ 0:=⟨By0 W,.inr ⟨rfl,Af6 W⟩⟩
theorem Cd1 {W0:PW} {M:Nat→Prop} {a:ByteArray} :
  Aa0 Tryz.prog 187 [.string a] W0 M fun v W'=>∃(b':Bool),∃(s':Sl),v = .tuple #[.agg #[.bool b',Sl.v s'],.bool (Ac3 a).isSome]∧Ab5 284 W' s' b' ((Ac3 a).getD 0):=by
 apply Bi8
 have bad:Ac3 a=none→∀W':PW,∃(b':Bool) (s':Sl),(Value.tuple #[.agg #[.bool false,.slice none 0 0],.bool false]) = .tuple #[.agg #[.bool b',Sl.v s'],.bool (Ac3 a).isSome]∧Ab5 284 W' s' b' ((Ac3 a).getD 0):=by
  intro h W'
  rw[h]
  exact⟨false,⟨none,0,0⟩,rfl,By0 W'⟩
 have hs0:Ae2 a 0=(sb a 0:Int):=Ao5 a 0
 have hp0:¬(0<a.size∧sb a 0=45)→Ac3 a=(Ad2 a).map fun x=>(x:Int):=fun h=>by unfold Ac3;rw[if_neg h]
 have hp1:(0<a.size∧sb a 0=45)→Ac3 a=match Ad2 (a.extract 1 a.size) with
  | some x=>if x=0 then none else some (-(x:Int))
  | none=>none:=fun h=>by unfold Ac3;rw[if_pos h];rfl
 have plain:¬(0<a.size∧sb a 0=45)→∀(s:Sl) (W W':PW),Aa6 284 W s ((Ad2 a).getD 0)→Ext W W'→∃(b':Bool) (s':Sl),(Value.tuple #[.agg #[.bool false,Sl.v s],.bool (Ad2 a).isSome]) = .tuple #[.agg #[.bool b',Sl.v s'],.bool (Ac3 a).isSome]∧Ab5 284 W' s' b' ((Ac3 a).getD 0):=by
  intro h s W W' hs hE
  rw[hp0 h]
  refine⟨false,s,?_,?_⟩
  ·cases Ad2 a<;>rfl
  ·have e:(((Ad2 a).map fun x=>(x:Int)).getD 0)=(((Ad2 a).getD 0:Nat):Int):=by cases Ad2 a<;>rfl
   rw[e]
   exact⟨by rw[Int.natAbs_natCast];exact hs.ext hE,by rw[decide_eq_false (by omega)]⟩
 refine⟨fun hz=>⟨by omega,fun h45=>⟨by omega,?_⟩,fun h45=>?_⟩,fun hz=>?_⟩
 ·have hc:0<a.size∧sb a 0=45:=⟨by omega,by omega⟩
  rw[show Int.toNat (a.size:Int)=a.size from rfl]
  refine Aj1 fun s3 W2 hE2 h3=>⟨s3,_,rfl,?_⟩
  have n3:=h3.n
  cases hp:Ad2 (a.extract 1 a.size) with
  | none=>
   refine⟨fun _ W5 _=>bad ?_ W5,fun h=>(by cases h)⟩
   rw[hp1 hc,hp]
  | some x=>
   rw[hp] at h3 n3
   have h3:Aa6 284 W2 s3 x:=h3
   have n3:s3.n=nl x:=n3
   refine⟨fun h=>(by cases h),fun _=>⟨fun h0 W7 _=>bad ?_ W7,fun h0 W8 hE8=>?_⟩⟩
   ·have:x=0:=Ad0.1 (by omega)
    rw[hp1 hc,hp]
    simp[this]
   ·have hx0:x≠0:=fun e=>h0 (by rw[n3,e,Ag9];rfl)
    have hpe:Ac3 a=some (-(x:Int)):=by
     rw[hp1 hc,hp]
     simp[hx0]
    rw[hpe]
    refine⟨true,s3,rfl,?_,?_⟩
    ·show Aa6 _ _ _ (-(x:Int)).natAbs
     rw[Int.natAbs_neg,Int.natAbs_natCast]
     exact h3.ext hE8
    ·show true=decide (-(x:Int)<0)
     rw[decide_eq_true (by omega)]
 ·have hc:¬(0<a.size∧sb a 0=45):=by omega
  exact Aj1 fun s11 W10 hE10 h11=>⟨s11,_,rfl,fun W13 hE13=>plain hc s11 W10 W13 h11 hE13⟩
 ·have hc:¬(0<a.size∧sb a 0=45):=by omega
  exact Aj1 fun s11 W10 hE10 h11=>⟨s11,_,rfl,fun W13 hE13=>plain hc s11 W10 W13 h11 hE13⟩
theorem Au4 {W0 W:PW} {M:Nat→Prop} {a:ByteArray} {K:Value→PW→Prop} (kont: ∀(b':Bool) (s':Sl) (W':PW),Ext W W'→(Ab5 284 W' s' b' ((Ac3 a).getD 0))→K (.tuple #[.agg #[.bool b',Sl.v s'],.bool (Ac3 a).isSome]) W'):
  Aa1 Tryz.prog W0 M 187 [.string a] W K:=
 Aa2 (fun W' hE=>Cd1 (M:=fun _=>False) ) (fun W' v W'' hE hE' hP=>by
  obtain⟨b',s',rfl,h⟩:=hP
  exact kont b' s' W'' (hE.trans hE') h)
theorem Bl0 {a:ByteArray} {k:Nat} (h:k<a.size):Al7 a 47 (a.size-k) k=if sb a k=47 then some k else Al7 a 47 (a.size-(k+1)) (k+1):=by
 rw[show a.size-k=(a.size-(k+1))+1 by omega]
 rfl
theorem Ca3 {W0:PW} {M:Nat→Prop} {a:ByteArray} (hs:a.size≤1099511627776):
  Aa0 Tryz.prog 112 [.string a] W0 M fun v W'=>∃(b':Bool),∃(s':Sl),∃(t':Sl),v = .tuple #[.agg #[.bool b',Sl.v s',Sl.v t'],.bool (Ab7 a).isSome]∧Ab6 284 W' b' s' t' ((Ab7 a).getD 0):=by
 apply Bj0
 have bad:Ab7 a=none→∀W':PW,∃(b':Bool) (s' t':Sl),(Value.tuple #[.agg #[.bool false,.slice none 0 0,.slice none 0 0],.bool false]) = .tuple #[.agg #[.bool b',Sl.v s',Sl.v t'],.bool (Ab7 a).isSome]∧Ab6 284 W' b' s' t' ((Ab7 a).getD 0):=by
  intro h W'
  rw[h]
  exact⟨false,⟨none,0,0⟩,⟨none,0,0⟩,rfl,Dv5 W'⟩
 refine⟨fun l W=>match l with | [.val (.int .i64 i)]=>Ext W0 W∧i=Cx6 (Ak5 a) | _=>False,⟨fun l W=>match l with
  | [.val (.int .i64 p),.val (.int .i64 i)]=>Ext W0 W∧∃k:Nat,i=(k:Int)∧k≤a.size∧((p = -1∧Ak5 a=Al7 a 47 (a.size-k) k)∨(0≤p∧p=Cx6 (Ak5 a)))
  | _=>False,fun l _=>match l with | [_,.val (.int .i64 i)]=>a.size-i.toNat | _=>0,⟨Ext.refl _,0,rfl,Nat.zero_le _,.inl ⟨rfl,rfl⟩⟩,?_⟩,?_⟩
 ·rintro i4 i5 W6 ⟨hE6,k,rfl,hk,hcase⟩
  have hsk:Ae2 a (Int.toNat (k:Int))=(sb a k:Int):=Ao5 a k
  refine⟨fun hlt=>⟨fun hneg=>⟨by omega,fun h47=>?_,fun h47=>?_⟩,fun hpos=>⟨hE6,?_⟩⟩,fun hge=>⟨hE6,?_⟩⟩
  ·have hm:a.size-Int.toNat ((k:Int)+1)<a.size-Int.toNat (k:Int):=by omega
   refine⟨by unfold I64;omega,⟨hE6,k+1,by push_cast;rfl,by omega,.inr ⟨by omega,?_⟩⟩,hm⟩
   rcases hcase with⟨_,h⟩ | ⟨h,_⟩
   ·rw[h,Bl0 (by omega),if_pos (by omega)];rfl
   ·omega
  ·have hm:a.size-Int.toNat ((k:Int)+1)<a.size-Int.toNat (k:Int):=by omega
   refine⟨by unfold I64;omega,⟨hE6,k+1,by push_cast;rfl,by omega,.inl ?_⟩,hm⟩
   rcases hcase with⟨h0,h⟩ | ⟨h,_⟩
   ·refine⟨h0,?_⟩
    rw[h,Bl0 (by omega),if_neg (by omega)]
   ·omega
  ·rcases hcase with⟨h0,h⟩ | ⟨_,h⟩
   ·omega
   ·exact h
  ·rcases hcase with⟨h0,h⟩ | ⟨_,h⟩
   ·rw[h0,h,show a.size-k=0 by omega];rfl
   ·exact h
 rintro i7 W8 ⟨hE8,rfl⟩
 cases hsl:Ak5 a with
 | none=>
  have hq:Ab7 a=(Ac3 a).map fun(z:Int)=>(z:Rat):=by unfold Ab7;rw[hsl]
  refine⟨fun _=>Au4 fun b11 s12 W10 hE10 h12=>⟨b11,s12,_,rfl,Ae0 (x:=1) (by decide) fun s16 W15 hE15 h16=>⟨s16,rfl,fun W17 hE17=>⟨b11,s12,s16,?_,?_⟩⟩⟩,fun h=>(by exact absurd (by decide) h)⟩
  ·rw[hq]
   cases Ac3 a<;>rfl
  ·have e:(Ab7 a).getD 0=(((Ac3 a).getD 0:Int):Rat):=by
    rw[hq]
    cases Ac3 a<;>rfl
   rw[e]
   exact⟨by rw[Rat.num_intCast];exact(h12.ext hE15).ext hE17,.inl (by rw[Rat.den_intCast];exact h16.ext hE17)⟩
 | some i=>
  have hi:=Aq6 _ _ hsl
  have hq:Ab7 a=match Ac3 (a.extract 0 i),Ad2 (a.extract (i+1) a.size) with
   | some n,some d=>if d<2∨Nat.gcd d n.natAbs≠1 then none else some (mkRat n d)
   | _,_=>none:=by unfold Ab7;rw[hsl];rfl
  show(((i:Nat):Int)<0→_)∧(¬((i:Nat):Int)<0→_)
  refine⟨fun h=>(by omega),fun _=>⟨by simp only[Cx6];omega,?_⟩⟩
  simp only[Cx6]
  rw[show Int.toNat (i:Int)=i from rfl,show Int.toNat ((i:Int)+1)=i+1 by omega,show Int.toNat (a.size:Int)=a.size from rfl]
  refine Au4 fun b20 s21 W19 hE19 h21=>⟨b20,s21,_,rfl,by unfold I64;omega,by omega,Aj1 fun s25 W24 hE24 h25=>⟨s25,_,rfl,?_⟩⟩
  have h21:=h21.ext hE24
  cases hn:Ac3 (a.extract 0 i) with
  | none=>
   have hqn:Ab7 a=none:=by rw[hq,hn]
   exact⟨fun _ _=>False,⟨fun _ W28 _=>bad hqn W28,fun h=>(by cases h)⟩,fun _ _ _ _ h=>h.elim⟩
  | some n=>
   cases hd:Ad2 (a.extract (i+1) a.size) with
   | none=>
    have hqn:Ab7 a=none:=by rw[hq,hn,hd]
    exact⟨fun _ _=>False,⟨fun h=>(by cases h),fun _=>⟨fun _ W56 _=>bad hqn W56,fun h=>(by cases h)⟩⟩,fun _ _ _ _ h=>h.elim⟩
   | some d=>
    rw[hn,hd] at hq
    rw[hn] at h21
    rw[hd] at h25
    have h21:Ab5 284 W24 s21 b20 n:=h21
    have h25:Aa6 284 W24 s25 d:=h25
    have hnn:=Be9 hn
    have hdn:=Ap1 hd
    have hone:nl 1≤1099511627776:=by rw[Ax0];omega
    refine⟨fun l W=>Ext W24 W∧¬(d<2∨Nat.gcd d n.natAbs≠1),⟨fun h=>(by cases h),fun _=>⟨fun h=>(by cases h),fun _=>?_⟩⟩,?_⟩
    ·refine Ae0 (x:=1) (by decide) fun s69 W68 hE68 h69=>⟨s69,rfl,Aj3 (h25.ext hE68) h69 (by omega) fun W71 hE71 _=>⟨_,rfl,fun hle W73 _=>bad ?_ W73,fun hgt=>?_⟩⟩
     ·have:d<2:=by
       apply Nat.lt_of_not_le
       intro h
       rw[Aj4 (by omega)] at hle
       omega
      rw[hq]
      simp[this]
     ·have hd2:¬d<2:=by
       intro h
       apply hgt
       rcases(show d<1∨d=1 by omega) with h | h
       ·rw[Al0 h];omega
       ·rw[h,Ap9];omega
      refine Bv8 ((h25.ext hE68).ext hE71) ((h21.ext hE68).ext hE71).1 (by omega) (by omega) fun s76 W75 hE75 h76=>⟨s76,rfl,Ae0 (x:=1) (by decide) fun s79 W78 hE78 h79=>⟨s79,rfl,Aj3 (h76.ext hE78) h79 (Nat.le_trans (Ad1 (Nat.gcd_le_left _ (by omega))) (by omega)) fun W81 hE81 _=>⟨_,rfl,fun hne W83 _=>bad ?_ W83,fun heq=>⟨((((hE68.trans hE71).trans hE75).trans hE78).trans hE81),?_⟩⟩⟩⟩
      ·have:Nat.gcd d n.natAbs≠1:=fun e=>by
        rw[e,Ap9] at hne
        exact hne rfl
       rw[hq]
       simp[this]
      ·rintro(h | h)
       ·exact hd2 h
       ·rcases Nat.lt_or_gt_of_ne h with h | h
        ·rw[Al0 h] at heq;omega
        ·rw[Aj4 h] at heq;omega
    ·rintro b84 s85 s86 W87 ⟨hE87,hc⟩ W88 hE88
     have hqe:Ab7 a=some (mkRat n d):=by rw[hq];exact if_neg hc
     have hm:=Br3 hc
     have hden:(mkRat n d).den=d:=by
      have h2:dn (mkRat n d)≠0:=by rw[hm.2];omega
      rw[←Cl4 h2,hm.2]
     rw[hqe]
     refine⟨b20,s21,s25,rfl,?_,.inl ?_⟩
     ·show Ab5 _ _ _ _ (mkRat n d).num
      rw[hm.1]
      exact(h21.ext hE87).ext hE88
     ·show Aa6 _ _ _ (mkRat n d).den
      rw[hden]
      exact(h25.ext hE87).ext hE88
theorem An7 {W0 W:PW} {M:Nat→Prop} {a:ByteArray} {K:Value→PW→Prop} (hs:a.size≤1099511627776) (kont: ∀(b':Bool) (s':Sl) (t':Sl) (W':PW),Ext W W'→(Ab6 284 W' b' s' t' ((Ab7 a).getD 0))→K (.tuple #[.agg #[.bool b',Sl.v s',Sl.v t'],.bool (Ab7 a).isSome]) W'):
  Aa1 Tryz.prog W0 M 112 [.string a] W K:=
 Aa2 (fun W' hE=>Ca3 (M:=fun _=>False) hs) (fun W' v W'' hE hE' hP=>by
  obtain⟨b',s',t',rfl,h⟩:=hP
  exact kont b' s' t' W'' (hE.trans hE') h)
def Gp3 (a:ByteArray):Option Rat:=if a.size≤100 then Ab7 a else none
theorem Gt8 {W0:PW} {M:Nat→Prop} {a:ByteArray} (hs:a.size≤1099511627776):
  Aa0 Tryz.prog 41 [.string a] W0 M fun v W'=>∃(s:Sl),∃(b:Bool),∃(t:Sl),∃(b':Bool),∃(s':Sl),∃(t':Sl),v = .tuple #[.agg #[Sl.v s,.bool b,Sl.v t],.agg #[.bool b',Sl.v s',Sl.v t'],.bool (Gp3 a).isSome]∧Ab3 284 W' s b t ((Gp3 a).getD 0)∧Ab6 284 W' b' s' t' ((Gp3 a).getD 0):=by
 apply Gp5
 have bad:Gp3 a=none→∀W':PW,∃(s:Sl) (b:Bool) (t:Sl) (b':Bool) (s' t':Sl),(Value.tuple #[.agg #[.slice none 0 0,.bool false,.slice none 0 0],.agg #[.bool false,.slice none 0 0,.slice none 0 0],.bool false]) = .tuple #[.agg #[Sl.v s,.bool b,Sl.v t],.agg #[.bool b',Sl.v s',Sl.v t'],.bool (Gp3 a).isSome]∧Ab3 284 W' s b t ((Gp3 a).getD 0)∧Ab6 284 W' b' s' t' ((Gp3 a).getD 0):=by
  intro h W'
  rw[h]
  exact⟨⟨none,0,0⟩,false,⟨none,0,0⟩,false,⟨none,0,0⟩,⟨none,0,0⟩,rfl,Ef0 W',Dv5 W'⟩
 refine An7 hs fun b3 s4 s5 W2 hE2 h4=>⟨b3,s4,s5,_,rfl,?_⟩
 cases hq:Ab7 a with
 | none=>
  have hn:Gp3 a=none:=by unfold Gp3;rw[hq];split<;>rfl
  exact⟨fun _ W7 _=>bad hn W7,fun h=>(by cases h)⟩
 | some q=>
  refine⟨fun h=>(by cases h),fun _=>⟨fun hlt W15 _=>bad ?_ W15,fun hge=>?_⟩⟩
  ·unfold Gp3
   rw[if_neg (by omega)]
  ·have hn:Gp3 a=some q:=by
    unfold Gp3
    rw[if_pos (by omega),hq]
   rw[hn]
   refine As8 hs fun s18 b19 s20 W17 hE17 h18=>⟨s18,b19,s20,_,rfl,fun W22 hE22=>⟨s18,b19,s20,b3,s4,s5,rfl,?_,?_⟩⟩
   ·rw[hq] at h18
    exact h18.ext hE22
   ·rw[hq] at h4
    exact(h4.ext hE17).ext hE22
theorem Go0 {W0 W:PW} {M:Nat→Prop} {a:ByteArray} {K:Value→PW→Prop} (hs:a.size≤1099511627776) (kont: ∀(s:Sl) (b:Bool) (t:Sl) (b':Bool) (s':Sl) (t':Sl) (W':PW),Ext W W'→(Ab3 284 W' s b t ((Gp3 a).getD 0)∧Ab6 284 W' b' s' t' ((Gp3 a).getD 0))→K (.tuple #[.agg #[Sl.v s,.bool b,Sl.v t],.agg #[.bool b',Sl.v s',Sl.v t'],.bool (Gp3 a).isSome]) W'):
  Aa1 Tryz.prog W0 M 41 [.string a] W K:=
 Aa2 (fun W' hE=>Gt8 (M:=fun _=>False) hs) (fun W' v W'' hE hE' hP=>by
  obtain⟨s,b,t,b',s',t',rfl,h⟩:=hP
  exact kont s b t b' s' t' W'' (hE.trans hE') h)
end Go.Proofs.YtjkkidjbppphpaaGreatDoor
