/- nat: Shr. -/
import Derived.Test.YtjkkidjbppphpaaGreatDoorW1
set_option linter.unusedVariables false
set_option linter.unusedSimpArgs false
set_option maxRecDepth 100000
namespace Go.Proofs.YtjkkidjbppphpaaGreatDoor
open Go Go.SX
def Fu9 (l:List Nat) (sh:Nat) (W0:PW) (pl:List PL) (W:PW):Prop:=
 match pl with
 | [.val (.int .i64 k),.row xs]=>Ext W0 W∧∃(k':Nat) (zs:List Nat),k=(k':Int)∧xs=cel zs∧k'≤l.length∧zs.length=l.length∧Dig zs∧
   val (zs.take k')=val (l.take k')/2^sh∧(∀(h:k'-1<zs.length),0<k'→zs[k'-1]<2^(32-sh))
 | _=>False
def Fw3 (l:List Nat) (pl:List PL) (W:PW):Nat:=
 match pl with
 | [.val (.int .i64 k),_]=>l.length-k.toNat
 | _=>0
theorem Et1 {A d b sh:Nat} (hs:sh<32):(A+b*B*d)/2^sh=A/2^sh+b*(d*2^(32-sh)%B)+b*B*(d/2^sh):=by
 have hB:B=2^sh*2^(32-sh):=by rw[←Nat.pow_add,show sh+(32-sh)=32 by omega];rfl
 have e1:A+b*B*d=A+2^sh*(b*(2^(32-sh)*d)):=by
  rw[hB]
  generalize 2^sh=p
  generalize 2^(32-sh)=q
  grind
 have e2:=Nat.mod_add_div (d*2^(32-sh)) B
 have e3:d*2^(32-sh)/B=d/2^sh:=by
  rw[hB]
  exact Nat.mul_div_mul_right _ _ (Nat.two_pow_pos _)
 rw[e1,Nat.add_mul_div_left _ _ (Nat.two_pow_pos sh),Nat.mul_comm (2^(32-sh)) d]
 rw[e3] at e2
 generalize d*2^(32-sh)%B=z1 at *
 generalize d/2^sh=z2 at *
 rw[←e2,Nat.mul_add,Nat.mul_assoc,Nat.add_assoc]
theorem Eh9 {W0:PW} {M:Nat→Prop} {s:Sl} {x k:Nat} (h:Aa6 284 W0 s x) (hx:nl x≤274877906944) (hk:k≤1048576):
  Aa0 Tryz.prog 239 [.agg #[s.v],.int .i64 (k:Int)] W0 M fun v W'=>∃(s':Sl),v = .agg #[Sl.v s']∧Aa6 284 W' s' (x/2^k):=by
 apply Df5
 have hn:=h.n
 have hl:(dg x).length=nl x:=rfl
 unfold Dq5
 simp only[Fj7 hk,Eg1 (show k≤1099511627776 by omega),Em5]
 obtain⟨N,hN⟩: ∃N,k/32=N:=⟨_,rfl⟩
 obtain⟨sh,hsh⟩: ∃sh,k%32=sh:=⟨_,rfl⟩
 have hs32:sh<32:=by omega
 have hkk:k=32*N+sh:=by omega
 rw[hN,hsh]
 refine⟨by decide,fun hge W1 hE=>⟨⟨none,0,0⟩,rfl,?_⟩,fun hlt=>?_⟩
 ·have:x/2^k=0:=by
   apply Nat.div_eq_of_lt
   have h1:=Bb4 x
   rw[Bp0] at h1
   exact Nat.lt_of_lt_of_le h1 (Nat.pow_le_pow_right (by decide) (by omega))
  rw[this]
  exact⟨by simp[cel,Ae8],by simp,by decide,by simp[cel,Ae8],.inl (by simp[cel,Ae8])⟩
 have hNl:N<nl x:=by omega
 rw[show Int.toNat ((s.n:Nat):Int)=s.n from rfl,show Int.toNat ((N:Nat):Int)=N from rfl,show Int.toNat ((sh:Nat):Int)=sh from rfl,show Int.toNat ((s.n-N:Nat):Int)=s.n-N from rfl]
 have hc:Ad4 284 W0 (s.cut 1 N s.n) ((dg x).drop N):=by
  have:=Ad4.cut h (lo:=N) (hi:=s.n) (by omega) (by omega)
  rwa [List.take_of_length_le (by omega)] at this
 obtain⟨l,hll⟩: ∃l,(dg x).drop N=l:=⟨_,rfl⟩
 rw[hll] at hc
 have hlen:l.length=s.n-N:=by rw[←hll];simp;omega
 have hdl:Dig l:=by rw[←hll];exact(Ad8 x).drop N
 have hcap:=hc.2.1
 have hnc:=h.2.1
 refine⟨by decide,⟨by omega,by omega,by omega⟩,⟨trivial,by omega,by omega⟩,Fu9 l sh W0,Fw3 l,?_,?_⟩
 ·refine⟨Ext.refl _,0,List.replicate l.length 0,rfl,?_,by omega,by simp,fun d hd=>?_,by simp[val],fun hj h0=>by omega⟩
  ·rw[hlen];exact Ae3 _
  ·rw[(List.mem_replicate.1 hd).2];decide
 rintro l3 i4 W5 ⟨hE5,i,zs,rfl,rfl,hi,hz,hdz,hv,hp⟩
 have h5:=hc.ext hE5
 refine⟨fun hlt=>?_,fun hge s8 W9 hE9 hO hf=>?_⟩
 ·have hia:i<l.length:=by omega
  have hxB:=hdl.at hia
  obtain⟨d,hd⟩: ∃d,l[i]=d:=⟨_,rfl⟩
  rw[hd] at hxB
  have hiz:i<zs.length:=by omega
  have hdB:d/2^sh<B:=Nat.lt_of_le_of_lt (Nat.div_le_self ..) hxB
  have ht:Int.toNat (i:Int)=i:=rfl
  rw[ht]
  refine⟨Ad4.inB h5 (by omega) (by omega),(d:Int),by rw[←hd];exact Ad4.at h5 hia,?_⟩
  rw[Ay2]
  have hdtop:d/2^sh<2^(32-sh):=by
   rw[Nat.div_lt_iff_lt_mul (Nat.two_pow_pos _),←Nat.pow_add,show 32-sh+sh=32 by omega]
   exact hxB
  refine⟨by decide,⟨by omega,by show(sh:Int)≤32;omega⟩,⟨by omega,by rw[Aa5];omega⟩,by rw[Aa5];omega,fun hpos=>?_,fun hnp=>?_⟩
  ·have hi1:i-1<zs.length:=by omega
   have ei:(i:Int)-1=((i-1:Nat):Int):=by omega
   obtain⟨p,hpp⟩: ∃p,zs[i-1]=p:=⟨_,rfl⟩
   have hpi:=hp hi1 (by omega)
   rw[hpp] at hpi
   have hsetl:List.length (List.set (cel zs) i [Value.int .u32 ((d/2^sh:Nat):Int)])=zs.length:=by simp[Aa5]
   have e32:(32:Int)-(sh:Int)=((32-sh:Nat):Int):=by omega
   have hpw:2^(32-sh)≤4294967296:=Nat.pow_le_pow_right (by decide:0<2) (show 32-sh≤32 by omega)
   have hmul:d*2^(32-sh)<18446744073709551616:=by
    have h1:(d+1)*2^(32-sh)≤B*4294967296:=Nat.mul_le_mul hxB hpw
    have h2:=Nat.two_pow_pos (32-sh)
    rw[Nat.add_mul] at h1
    unfold B at h1
    omega
   have ed:IntKind.wrap .u64 ((d:Nat):Int)=(d:Int):=Ab1 (by unfold B at hxB;omega)
   have hB:B=2^(32-sh)*2^sh:=by rw[←Nat.pow_add,show 32-sh+sh=32 by omega];rfl
   have lo:(d*2^(32-sh))%B%2^(32-sh)=0:=by
    rw[hB,Nat.mod_mul_right_mod];exact Nat.mul_mod_left ..
   have hloB:(d*2^(32-sh))%B<B:=Nat.mod_lt _ Ad3
   have hjoin:p+(d*2^(32-sh))%B<B:=by
    have e2:=Nat.mod_add_div ((d*2^(32-sh))%B) (2^(32-sh))
    rw[lo,Nat.zero_add] at e2
    generalize (d*2^(32-sh))%B/2^(32-sh)=q at e2
    have:q<2^sh:=by
     apply Nat.lt_of_mul_lt_mul_left (a:=2^(32-sh))
     rw[e2,←hB];exact hloB
    have:=Nat.mul_le_mul_left (2^(32-sh)) (show q+1≤2^sh from this)
    rw[Nat.mul_add,e2,←hB] at this
    omega
   have eor:bits .or .u32 (p:Int) (((d*2^(32-sh)%B:Nat)):Int)=((p+d*2^(32-sh)%B:Nat):Int):=by
    rw[u32_or_nat _ _ (by unfold B at *;omega) (by unfold B at *;omega),Nat.or_comm,nat_join (32-sh) _ _ lo hpi,Nat.add_comm]
   rw[hsetl,ei,e32,show Int.toNat ((i-1:Nat):Int)=i-1 from rfl,show Int.toNat ((32-sh:Nat):Int)=32-sh from rfl]
   refine⟨by unfold I64;omega,⟨by omega,by omega⟩,(p:Int),?_⟩
   rw[ed,Dr8 hmul,Ab9,eor]
   refine⟨⟨[Value.int .u32 (p:Int)],?_,rfl⟩,by decide,by unfold I64;omega,⟨by omega,by show((32-sh:Nat):Int)≤64;omega⟩,⟨by omega,by omega⟩,by omega,by unfold I64;omega,?_,?_⟩
   ·rw[Ae9,Au0 (by simp;omega),List.getElem_set_ne (by omega),hpp]
   ·rw[Ae9,Ae9]
    refine⟨hE5,i+1,_,by push_cast;rfl,rfl,by omega,by simpa using hz,(hdz.set hdB).set hjoin,?_,fun hj h0=>?_⟩
    ·obtain⟨m,rfl⟩: ∃m,i=m+1:=⟨i-1,by omega⟩
     simp only[Nat.add_sub_cancel] at *
     rw[Aa4 hia,hd,Nat.pow_succ,Et1 hs32,←hv]
     have hm1:m+1<((zs.set (m+1) (d/2^sh)).set m (p+d*2^(32-sh)%B)).length:=by simp;omega
     have hm0:m<((zs.set (m+1) (d/2^sh)).set m (p+d*2^(32-sh)%B)).length:=by simp;omega
     have a1:((zs.set (m+1) (d/2^sh)).set m (p+d*2^(32-sh)%B))[m]'hm0=p+d*2^(32-sh)%B:=List.getElem_set_self _
     have a2:((zs.set (m+1) (d/2^sh)).set m (p+d*2^(32-sh)%B))[m+1]'hm1=d/2^sh:=by
      rw[List.getElem_set_ne (by omega),List.getElem_set_self]
     rw[Aa4 hm1,Aa4 hm0,Aa4 (show m<zs.length by omega),a1,a2,hpp,At3 (Nat.le_refl _),At3 (by omega),Nat.pow_succ]
     generalize d*2^(32-sh)%B=z1
     rw[Nat.mul_add]
     omega
    ·simp only[Nat.add_sub_cancel]
     rw[List.getElem_set_ne (by omega),List.getElem_set_self]
     exact hdtop
   ·show l.length-Int.toNat ((i:Int)+1)<l.length-Int.toNat (i:Int)
    omega
  ·have:i=0:=by omega
   subst this
   refine⟨by unfold I64;omega,?_,?_⟩
   ·rw[Ae9]
    refine⟨hE5,1,_,rfl,rfl,by omega,by simpa using hz,hdz.set hdB,?_,fun hj h0=>?_⟩
    ·rw[Aa4 (by simpa using hiz),Aa4 hia,hd,List.getElem_set_self]
     simp[val]
    ·simp only[Nat.sub_self]
     rw[List.getElem_set_self]
     exact hdtop
   ·show l.length-Int.toNat (((0:Nat):Int)+1)<l.length-Int.toNat ((0:Nat):Int)
    omega
 ·have:i=l.length:=by omega
  subst this
  have e:val zs=x/2^k:=by
   rw[List.take_length,←hz,List.take_length] at hv
   rw[hv,←hll]
   have e1:=Am8 (dg x) (k:=N) (by omega)
   rw[Ac5] at e1
   have e2:val ((dg x).drop N)=x/B^N:=by
    conv=>rhs;rw[e1]
    rw[Nat.add_mul_div_left _ _ (Nat.pow_pos Ad3),Nat.div_eq_of_lt (Ae6 (Ad8 x) N),Nat.zero_add]
   rw[e2,Bp0,Nat.div_div_eq_div_mul,←Nat.pow_add,←hkk]
  refine Ap7 hO.row hdz (by omega) fun s' W12 hE12 h1=>⟨s',rfl,fun W14 hE14=>⟨s',rfl,?_⟩⟩
  rw[e] at h1
  exact h1.ext hE14
theorem Br2 {W0 W:PW} {M:Nat→Prop} {s:Sl} {x k:Nat} {K:Value→PW→Prop} (h:Aa6 284 W s x) (hx:nl x≤274877906944) (hk:k≤1048576) (kont: ∀(s':Sl) (W':PW),Ext W W'→(Aa6 284 W' s' (x/2^k))→K (.agg #[Sl.v s']) W'):
  Aa1 Tryz.prog W0 M 239 [.agg #[s.v],.int .i64 (k:Int)] W K:=
 Aa2 (fun W' hE=>Eh9 (M:=fun _=>False) (h.ext hE) hx hk) (fun W' v W'' hE hE' hP=>by
  obtain⟨s',rfl,h⟩:=hP
  exact kont s' W'' (hE.trans hE') h)
end Go.Proofs.YtjkkidjbppphpaaGreatDoor
/- nat: guess. -/
namespace Go.Proofs.YtjkkidjbppphpaaGreatDoor
open Go Go.SX
theorem val_two {l:List Nat} {m:Nat} (h:l.length=m+2):val l=val (l.take m)+B^m*(l[m+1]*B+l[m]):=by
 have e:=Aa4 (l:=l) (k:=m+1) (by omega)
 rw[Aa4 (l:=l) (k:=m) (by omega),show m+1+1=l.length by omega,List.take_length,Nat.pow_succ] at e
 rw[e]
 generalize B^m=b
 grind
theorem Ei6 {l:List Nat} {m:Nat} (h:l.length=m+3):val l=val (l.take m)+B^m*((l[m+2]*B+l[m+1])*B+l[m]):=by
 have e:=Aa4 (l:=l) (k:=m+2) (by omega)
 rw[Aa4 (l:=l) (k:=m+1) (by omega),Aa4 (l:=l) (k:=m) (by omega),show m+2+1=l.length by omega,List.take_length] at e
 simp only[Nat.pow_succ] at e
 rw[e]
 generalize B^m=b
 grind
def Fc4 (U V top first:Nat) (W0:PW) (l:List PL) (W:PW):Prop:=
 match l with
 | [.val (.int .u64 g),.val (.int .u64 r)]=>Ext W0 W∧∃g' r':Nat,g=(g':Int)∧r=(r':Int)∧top=g'*first+r'∧U/V≤g'∧g'<18446744073709551616∧r'<8589934592
 | _=>False
def Eh7 (l:List PL) (W:PW):Nat:=
 match l with
 | [.val (.int .u64 g),_]=>g.toNat
 | _=>0
theorem Fb6 {W0:PW} {M:Nat→Prop} {u v:Sl} {us vs:List Nat} (hu:Ad4 284 W0 u us) (hv:Ad4 284 W0 v vs) (hdu:Dig us) (hdv:Dig vs) (hl:us.length=vs.length+1) (h2:2≤vs.length) (ht: ∀h:vs.length-1<vs.length,vs[vs.length-1]≠0) (hUV:val us<val vs*B) (hb:vs.length≤1099511627776):
  Aa0 Tryz.prog 257 [u.v,v.v] W0 M fun v W'=>∃(g:Nat),v = .int .u64 (g:Int)∧val us/val vs≤g∧g≤val us/val vs+1∧g<B:=by
 apply Cl2
 obtain⟨m,hm⟩: ∃m,vs.length=m+2:=⟨vs.length-2,by omega⟩
 have hum:us.length=m+3:=by omega
 have eV:=val_two hm
 have eU:=Ei6 hum
 have hn:=hv.n
 have b0:=hdu.at (k:=m+2) (by omega)
 have b1:=hdu.at (k:=m+1) (by omega)
 have b2:=hdu.at (k:=m) (by omega)
 have c1:=hdv.at (k:=m+1) (by omega)
 have c2:=hdv.at (k:=m) (by omega)
 have a0:=fun {W:PW} (h:Ad4 284 W u us)=>Ad4.at h (i:=m+2) (by omega)
 have a1:=fun {W:PW} (h:Ad4 284 W u us)=>Ad4.at h (i:=m+1) (by omega)
 have a2:=fun {W:PW} (h:Ad4 284 W u us)=>Ad4.at h (i:=m) (by omega)
 have d1:=fun {W:PW} (h:Ad4 284 W v vs)=>Ad4.at h (i:=m+1) (by omega)
 have d2:=fun {W:PW} (h:Ad4 284 W v vs)=>Ad4.at h (i:=m) (by omega)
 have hf0:vs[m+1]'(by omega)≠0:=by
  have h:=ht (by omega)
  simp only[hm,show m+2-1=m+1 from rfl] at h
  exact h
 have ul:=Ae6 hdu m
 have vl:=Ae6 hdv m
 obtain⟨u0,e0⟩: ∃d,us[m+2]'(by omega)=d:=⟨_,rfl⟩
 obtain⟨u1,e1⟩: ∃d,us[m+1]'(by omega)=d:=⟨_,rfl⟩
 obtain⟨u2,e2⟩: ∃d,us[m]'(by omega)=d:=⟨_,rfl⟩
 obtain⟨first,e3⟩: ∃d,vs[m+1]'(by omega)=d:=⟨_,rfl⟩
 obtain⟨v2,e4⟩: ∃d,vs[m]'(by omega)=d:=⟨_,rfl⟩
 simp only[e0,e1,e2,e3,e4] at *
 have hfp:0<first:=Nat.pos_of_ne_zero hf0
 have hP:0<B^m:=Nat.pow_pos Ad3
 obtain⟨U,hU⟩: ∃U,val us=U:=⟨_,rfl⟩
 obtain⟨V,hV⟩: ∃V,val vs=V:=⟨_,rfl⟩
 rw[hU] at eU hUV
 rw[hV] at eV hUV
 rw[hU,hV]
 obtain⟨top,htop⟩: ∃t,u0*B+u1=t:=⟨_,rfl⟩
 rw[htop] at eU
 have hV1:(first*B+v2)*B^m≤V:=by rw[eV,Nat.mul_comm];omega
 have hV2:V<(first*B+v2+1)*B^m:=by rw[eV,Nat.add_mul,Nat.mul_comm (first*B+v2)];omega
 have hU1:(top*B+u2)*B^m≤U:=by rw[eU,Nat.mul_comm];omega
 have hU2:U<(top*B+u2+1)*B^m:=by rw[eU,Nat.add_mul,Nat.mul_comm (top*B+u2)];omega
 have hVp:0<V:=by
  have:0<(first*B+v2)*B^m:=Nat.mul_pos (by have:=Nat.mul_pos hfp Ad3;omega) hP
  omega
 have hqV:U/V*V≤U:=Nat.div_mul_le_self U V
 have hqB:U/V<B:=(Nat.div_lt_iff_lt_mul hVp).2 (by rw[Nat.mul_comm];exact hUV)
 obtain⟨q,hqd⟩: ∃q,U/V=q:=⟨_,rfl⟩
 have htf:top<(first+1)*B:=by
  have h1:(top*B+u2)*B^m<(first*B+v2+1)*B^m*B:=by
   have:=Nat.mul_lt_mul_of_pos_right hV2 Ad3
   omega
  have h2:(first*B+v2+1)*B^m*B=(first*B+v2+1)*B*B^m:=by rw[Nat.mul_assoc,Nat.mul_assoc,Nat.mul_comm (B^m)]
  rw[h2] at h1
  have h3:=Nat.lt_of_mul_lt_mul_right h1
  have h4:(first*B+v2+1)*B≤(first+1)*B*B:=Nat.mul_le_mul_right B (by rw[Nat.add_mul];omega)
  exact Nat.lt_of_mul_lt_mul_right (a:=B) (by omega)
 have hf64:IntKind.wrap .u64 (first:Int)=(first:Int):=Ab1 (by unfold B at c1;omega)
 have htopB:top<18446744073709551616:=by unfold B at *;omega
 have etop:bits .or .u64 (Bc5 .u64 (IntKind.wrap .u64 (u0:Int)) 32) (IntKind.wrap .u64 (u1:Int))=(top:Int):=by
  rw[Ab1 (n:=u0) (by unfold B at b0;omega),Ab1 (n:=u1) (by unfold B at b1;omega),Eh5 b0,Dq8 b1 b0,htop]
 have edv:IntKind.wrap .u64 (Int.tdiv (top:Int) (first:Int))=((top/first:Nat):Int):=by
  rw[Int.tdiv_eq_ediv_of_nonneg (by omega),←Int.natCast_ediv,Ab1 (Nat.lt_of_le_of_lt (Nat.div_le_self ..) htopB)]
 have emd:Int.tmod (top:Int) (first:Int)=((top%first:Nat):Int):=by
  rw[Int.tmod_eq_emod_of_nonneg (by omega)];rfl
 have x1:(v.n:Int)=((m+2:Nat):Int):=by omega
 have x2:((m+2:Nat):Int)-1=((m+1:Nat):Int):=by omega
 have x3:((m+2:Nat):Int)-2=(m:Int):=by omega
 unfold Cf8
 simp only[x2,x3,x1]
 have t1:Int.toNat ((m+2:Nat):Int)=m+2:=rfl
 have t2:Int.toNat ((m+1:Nat):Int)=m+1:=rfl
 have t3:Int.toNat ((m:Nat):Int)=m:=rfl
 simp only[t1,t2,t3]
 have q0:=Dv6 (q:=U/V) hP Ad3 (V:=V) (first:=first) (top:=top) (U:=U) (X:=0) (by
   have:first*(B*B^m)=first*B*B^m:=by rw[Nat.mul_assoc]
   have:=Nat.mul_le_mul_right (B^m) (Nat.le_add_right (first*B) v2)
   omega) (by
   have:(top+1)*(B*B^m)=(top+1)*B*B^m:=by rw[Nat.mul_assoc]
   have:=Nat.mul_le_mul_right (B^m) (show top*B+u2+1≤(top+1)*B by rw[Nat.add_mul];omega)
   omega) hqV hfp
 refine⟨Ad4.inB hu (by omega) (by omega),_,a0 hu,by unfold I64;omega,Ad4.inB hu (by omega) (by omega),_,a1 hu,by unfold I64;omega,Ad4.inB hv (by omega) (by omega),_,d1 hv,?_⟩
 rw[hf64,etop,edv,emd]
 refine⟨by omega,by omega,Fc4 U V top first W0,Eh7,?_,?_⟩
 ·have hm:=Nat.mod_lt top hfp
  have hd:=Nat.mod_add_div top first
  rw[Nat.mul_comm] at hd
  exact⟨Ext.refl _,_,_,rfl,rfl,by omega,q0,Nat.lt_of_le_of_lt (Nat.div_le_self ..) htopB,by unfold B at c1;omega⟩
 rintro i6 i7 W8 ⟨hE8,g,r,rfl,rfl,hgr,hq,hg64,hr⟩
 rw[hqd] at hq
 have fin:g<B→g*v2≤r*B+u2→U/V≤g∧g≤U/V+1∧g<B:=fun hgB hle=>⟨by rw[hqd];exact hq,Ee6 hV1 hV2 hU1 hfp hgr hle hgB hVp,hgB⟩
 have next:r<B→q<g→Fc4 U V top first W0 [.val (.int .u64 (IntKind.wrap .u64 ((g:Int)-1))),.val (.int .u64 (IntKind.wrap .u64 ((r:Int)+(first:Int))))] W8∧
   Eh7 [.val (.int .u64 (IntKind.wrap .u64 ((g:Int)-1))),.val (.int .u64 (IntKind.wrap .u64 ((r:Int)+(first:Int))))] W8<Eh7 [.val (.int .u64 (g:Int)),.val (.int .u64 (r:Int))] W8:=fun hrB hqg=>by
  have ea:(g:Int)-1=((g-1:Nat):Int):=by omega
  have eb:(r:Int)+(first:Int)=((r+first:Nat):Int):=by omega
  rw[ea,eb,Ab1 (by omega),Ab1 (by unfold B at *;omega)]
  refine⟨⟨hE8,g-1,r+first,rfl,rfl,?_,by rw[hqd];omega,by omega,by unfold B at *;omega⟩,?_⟩
  ·obtain⟨g',rfl⟩: ∃g',g=g'+1:=⟨g-1,by omega⟩
   rw[hgr,Nat.add_mul,Nat.add_sub_cancel]
   omega
  ·show Int.toNat ((g-1:Nat):Int)<Int.toNat (g:Int)
   omega
 refine⟨fun hlt=>⟨fun hge=>?_,fun hge=>?_⟩,fun hge=>fun W13 hE13=>⟨g,rfl,?_⟩⟩
 ·have hrB:r<B:=by unfold B;omega
  have hBg:B≤g:=by unfold B;omega
  exact next hrB (by rw[hqd] at hqB;omega)
 ·have hrB:r<B:=by unfold B;omega
  have hgB:g<B:=by unfold B;omega
  have e5:bits .or .u64 (Bc5 .u64 (r:Int) 32) (IntKind.wrap .u64 (u2:Int))=((r*B+u2:Nat):Int):=by
   rw[Ab1 (n:=u2) (by unfold B at b2;omega),Eh5 hrB,Dq8 b2 hrB]
  have e6:IntKind.wrap .u64 ((g:Int)*IntKind.wrap .u64 (v2:Int))=((g*v2:Nat):Int):=by
   rw[Ab1 (n:=v2) (by unfold B at c2;omega),←Int.natCast_mul,Ab1]
   have:=Nat.mul_le_mul (Nat.le_of_lt hgB) (Nat.le_of_lt c2)
   have h3:g*v2≤(B-1)*(B-1):=Nat.mul_le_mul (by omega) (by omega)
   unfold B at h3
   omega
  refine⟨by unfold I64;omega,Ad4.inB (hv.ext hE8) (by omega) (by omega),_,d2 (hv.ext hE8),by unfold I64;omega,Ad4.inB (hu.ext hE8) (by omega) (by omega),_,a2 (hu.ext hE8),?_⟩
  rw[e5,e6]
  refine⟨fun h=>next hrB (by rw[←hqd];exact Ec0 hP hV1 hU2 hqV hgr (by omega)),fun h W12 hE12=>⟨g,rfl,fin hgB (by omega)⟩⟩
 ·have hrB:B≤r:=by unfold B;omega
  have hgB:g<B:=by
   apply Nat.lt_of_not_le
   intro h
   have:=Nat.mul_le_mul_right first h
   rw[Nat.add_mul,Nat.mul_comm first B] at htf
   omega
  refine fin hgB ?_
  have h1:=Nat.mul_le_mul (Nat.le_of_lt hgB) (Nat.le_of_lt c2)
  have h2:=Nat.mul_le_mul_right B hrB
  omega
theorem Dz5 {W0 W:PW} {M:Nat→Prop} {u v:Sl} {us vs:List Nat} {K:Value→PW→Prop} (hu:Ad4 284 W u us) (hv:Ad4 284 W v vs) (hdu:Dig us) (hdv:Dig vs) (hl:us.length=vs.length+1) (h2:2≤vs.length) (ht: ∀h:vs.length-1<vs.length,vs[vs.length-1]≠0) (hUV:val us<val vs*B) (hb:vs.length≤1099511627776) (kont: ∀(g:Nat) (W':PW),Ext W W'→(val us/val vs≤g∧g≤val us/val vs+1∧g<B)→K (.int .u64 (g:Int)) W'):
  Aa1 Tryz.prog W0 M 257 [u.v,v.v] W K:=
 Aa2 (fun W' hE=>Fb6 (M:=fun _=>False) (hu.ext hE) (hv.ext hE) hdu hdv hl h2 ht hUV hb) (fun W' v W'' hE hE' hP=>by
  obtain⟨g,rfl,h⟩:=hP
  exact kont g W'' (hE.trans hE') h)
end Go.Proofs.YtjkkidjbppphpaaGreatDoor
/- nat: take. -/
namespace Go.Proofs.YtjkkidjbppphpaaGreatDoor
open Go Go.SX
def Fq3 (us vs:List Nat) (gq:Nat) (g o:Nat) (cs:Array Value) (W0:PW) (l:List PL) (W:PW):Prop:=
 match l with
 | [.val (.int .u64 c),.val (.int .u64 low),.val (.int .i64 i)]=>∃(c' low' i':Nat) (ws:List Nat),c=(c':Int)∧low=(low':Int)∧i=(i':Int)∧Aq5 W0 W g cs 284 o (cv ws)∧i'≤vs.length∧ws.length=us.length∧Dig ws∧ws.drop i'=us.drop i'∧
   val (ws.take i')+gq*val (vs.take i')=val (us.take i')+B^i'*(c'+low')∧c'<B∧low'≤1
 | _=>False
def Fq7 (vs:List Nat) (l:List PL) (W:PW):Nat:=
 match l with
 | [_,_,.val (.int .i64 i)]=>vs.length-i.toNat
 | _=>0
theorem Dw7 {W0:PW} {u v:Sl} {us vs:List Nat} {g o gq:Nat} {cs:Array Value} (hm:Mut W0 284 u g o cs us) (hv:Ad4 284 W0 v vs) (hne: ∀a:Addr,v.A=Option.some a→a.block≠g) (hl:us.length=vs.length+1) (hdu:Dig us) (hdv:Dig vs) (hg:gq<B) (hb:vs.length≤1099511627776):
  Aa0 Tryz.prog 258 [u.v,v.v,.int .u64 (gq:Int)] W0 (fun b=>b=g) fun r W'=>∃(neg:Nat) (ws:List Nat),r = .bool (decide (neg=1))∧neg≤1∧ws.length=us.length∧Dig ws∧val ws+gq*val vs=val us+B^us.length*neg∧Aq5 W0 W' g cs 284 o (cv ws):=by
 apply Dc5
 have hn:=hv.n
 refine⟨Fq3 us vs gq g o cs W0,Fq7 vs,⟨0,0,0,us,rfl,rfl,rfl,hm.start (Ext.refl _),by omega,rfl,hdu,rfl,by simp[val],by decide,by omega⟩,?_⟩
 rintro i3 i4 i5 W6 ⟨c,low,i,ws,rfl,rfl,rfl,hput,hi,hwl,hdw,hdr,hval,hc,hlow⟩
 have hm6:=hm.put hput hwl
 have hu6:=hm6.row
 have hv6:Ad4 284 W6 v vs:=Row.other hv hput.ext fun a ha=>hne a ha
 have hmay:may W0 (fun b=>b=g) g:=.inl rfl
 refine⟨fun hlt=>?_,fun hge=>?_⟩
 ·have hiv:i<vs.length:=by omega
  have hiw:i<ws.length:=by omega
  have hiu:i<us.length:=by omega
  have dv:=hdv.at hiv
  have du:=hdu.at hiu
  have ewu:ws[i]=us[i]:=by
   have h1:ws[i]?=us[i]?:=by
    have:=congrArg (fun l=>l[0]?) hdr
    simpa using this
   rw[List.getElem?_eq_getElem hiw,List.getElem?_eq_getElem hiu] at h1
   exact Option.some.inj h1
  have hx:=Ad4.at hv6 hiv
  have hy:=Ad4.at hu6 hiw
  rw[ewu] at hy
  obtain⟨x,hxx⟩: ∃x,vs[i]=x:=⟨_,rfl⟩
  obtain⟨y,hyy⟩: ∃y,us[i]=y:=⟨_,rfl⟩
  rw[hxx] at hx dv
  rw[hyy] at hy du
  have hcg:c+gq*x≤(B-1)*B:=by
   have h1:gq*x≤(B-1)*(B-1):=Nat.mul_le_mul (by omega) (by omega)
   unfold B at *
   omega
  have e1:IntKind.wrap .u64 ((c:Int)+IntKind.wrap .u64 ((gq:Int)*IntKind.wrap .u64 (x:Int)))=((c+gq*x:Nat):Int):=by
   have h1:gq*x≤(B-1)*(B-1):=Nat.mul_le_mul (by omega) (by omega)
   rw[Ab1 (n:=x) (by unfold B at dv;omega),←Int.natCast_mul,Ab1 (n:=gq*x) (by unfold B at h1;omega),←Int.natCast_add,Ab1 (by unfold B at hcg;omega)]
  have e2:bits .and .u64 ((c+gq*x:Nat):Int) 4294967295=(((c+gq*x)%B:Nat):Int):=by
   have:=bits_and_u64_nat (c+gq*x) 4294967295 (by unfold B at hcg;omega) (by decide)
   rw[show((4294967295:Nat):Int)=4294967295 from rfl] at this
   rw[this]
   congr 1
   exact Nat.and_two_pow_sub_one_eq_mod _ 32
  have e3:IntKind.wrap .u64 (y:Int)=(y:Int):=Ab1 (by unfold B at du;omega)
  obtain⟨z,neg,s1,s2,s3,s4,s5⟩:=Cg9 (d:=(c+gq*x)%B) du hlow (Nat.mod_lt _ Ad3)
  refine⟨Ad4.inB hv6 (by omega) (by omega),_,hx,Ad4.inB hu6 (by omega) (by omega),_,hy,Ad4.inB hu6 (by omega) (by omega),?_⟩
  rw[e1,e2,e3,s1,s2,Ao0,Nat.mul_one,Nat.add_zero,show Int.toNat (i:Int)=i from rfl]
  refine Ar7 hm hput hwl hiw hmay fun W9 hput9=>⟨by unfold I64;omega,⟨(c+gq*x)/B,neg,i+1,_,rfl,rfl,by push_cast;rfl,hput9,by omega,by simpa using hwl,hdw.set s4,?_,?_,?_,s3⟩,?_⟩
  ·rw[Ah5 (Nat.lt_succ_self i)]
   have:=congrArg (List.drop 1) hdr
   simpa[List.drop_drop] using this
  ·rw[Ac1 hiw,Aa4 hiv,Aa4 hiu,hxx,hyy,Nat.pow_succ]
   exact Ee8 hval s5
  ·rw[Nat.div_lt_iff_lt_mul Ad3]
   unfold B at *
   omega
  ·show vs.length-Int.toNat ((i:Int)+1)<vs.length-Int.toNat (i:Int)
   omega
 ·have:i=vs.length:=by omega
  subst this
  have hiw:vs.length<ws.length:=by omega
  have hiu:vs.length<us.length:=by omega
  have du:=hdu.at hiu
  have ewu:ws[vs.length]=us[vs.length]:=by
   have h1:ws[vs.length]?=us[vs.length]?:=by
    have:=congrArg (fun l=>l[0]?) hdr
    simpa using this
   rw[List.getElem?_eq_getElem hiw,List.getElem?_eq_getElem hiu] at h1
   exact Option.some.inj h1
  have hy:=Ad4.at hu6 hiw
  rw[ewu] at hy
  obtain⟨y,hyy⟩: ∃y,us[vs.length]=y:=⟨_,rfl⟩
  rw[hyy] at hy du
  have e3:IntKind.wrap .u64 (y:Int)=(y:Int):=Ab1 (by unfold B at du;omega)
  obtain⟨z,neg,s1,s2,s3,s4,s5⟩:=Cg9 (d:=c) du hlow hc
  rw[show(v.n:Int)=((vs.length:Nat):Int) by omega,show Int.toNat ((vs.length:Nat):Int)=vs.length from rfl]
  refine⟨Ad4.inB hu6 (by omega) (by omega),_,hy,Ad4.inB hu6 (by omega) (by omega),?_⟩
  rw[e3,s1,s2,Nat.mul_one,Nat.add_zero]
  refine Ar7 hm hput hwl hiw hmay fun W11 hput11 W12 hE12=>⟨neg,_,?_,s3,by simpa using hwl,hdw.set s4,?_,hput11.ext' hE12⟩
  ·congr 1
   apply decide_eq_decide.2
   omega
  ·have h1:(ws.set vs.length z).take (vs.length+1)=ws.set vs.length z:=List.take_of_length_le (by simp;omega)
   have h2:=Ac1 (d:=z) hiw
   rw[h1] at h2
   have h3:=Aa4 hiu
   rw[show us.take (vs.length+1)=us from List.take_of_length_le (by omega),hyy] at h3
   rw[List.take_length] at hval
   rw[h2,h3,hl,Nat.pow_succ]
   generalize B^vs.length=b at *
   have:b*(z+low+c)=b*(y+B*neg):=by rw[s5]
   have e:b*B*neg=b*(B*neg):=Nat.mul_assoc ..
   have e4:b*(z+low+c)=b*z+b*(c+low):=by rw[Nat.add_assoc,Nat.mul_add,Nat.add_comm low c]
   have e5:b*(y+B*neg)=b*y+b*(B*neg):=Nat.mul_add ..
   omega
end Go.Proofs.YtjkkidjbppphpaaGreatDoor
