/- cinctureref1: whole numbers and quotients. -/
import Derived.Test.YtjkkidjbppphpaaGreatDoorW8
import Derived.Test.YtjkkidjbppphpaaGreatDoorR6
set_option linter.unusedVariables false
set_option linter.unusedSimpArgs false
set_option maxRecDepth 100000
namespace Go.Proofs.YtjkkidjbppphpaaGreatDoor
open Go Go.SX
theorem Am1 {t:TypeId} {W:PW} {s:Sl} {x:Nat} (h:Aa6 t W s x):Ab5 t W s false (x:Int):=⟨by rw[Int.natAbs_natCast];exact h,by symm;exact decide_eq_false (by omega)⟩
def Fv0 (x y:Nat) (W0:PW) (l:List PL) (W:PW):Prop:=
 match l with
 | [.val (.int .i64 i),.row l3]=>Ext W0 W∧∃(k:Nat) (zs:List Nat),i=(k:Int)∧l3=cel zs∧k≤nl x∧zs.length=nl x+nl y+1∧Dig zs∧val zs=val ((dg x).take k)*y∧∀j (h:j<zs.length),k+nl y≤j→zs[j]=0
 | _=>False
def Fv4 (x y k d v0:Nat) (W0:PW) (l:List PL) (W:PW):Prop:=
 match l with
 | [.val (.int .u64 c),.val (.int .i64 i),.row l3]=>Ext W0 W∧∃(c' j:Nat) (zs:List Nat),c=(c':Int)∧i=(j:Int)∧l3=cel zs∧j≤nl y∧c'<B∧zs.length=nl x+nl y+1∧Dig zs∧val zs+B^(k+j)*c'=v0+B^k*(d*val ((dg y).take j))∧∀i (h:i<zs.length),k+nl y≤i→zs[i]=0
 | _=>False
def Fu0 (n:Nat) (l:List PL) (W:PW):Nat:=
 match l with
 | .val (.int .i64 i) :: _=>n-i.toNat
 | _ :: .val (.int .i64 i) :: _=>n-i.toNat
 | _=>0
theorem El6 {W0:PW} {M:Nat→Prop} {s t:Sl} {x y:Nat} (h1:Aa6 284 W0 s x) (h2:Aa6 284 W0 t y) (hx:nl x≤274877906944) (hy:nl y≤274877906944):
  Aa0 Tryz.prog 206 [s.v,t.v] W0 M fun v W'=>∃(s':Sl),v=Sl.v s'∧Aa6 284 W' s' (x*y):=by
 apply Bt6
 have hs:=h1.n
 have ht:=h2.n
 have lx:(dg x).length=nl x:=rfl
 have ly:(dg y).length=nl y:=rfl
 refine⟨by unfold I64;omega,by unfold I64;omega,⟨rfl,by omega,by omega⟩,Fv0 x y W0,Fu0 (nl x),⟨Ext.refl _,0,List.replicate (nl x+nl y+1) 0,rfl,?_,by omega,by simp,fun d hd=>?_,by simp[val,Ao6],fun j h _=>by simp⟩,?_⟩
 ·rw[show Int.toNat ((s.n:Int)+(t.n:Int)+1)=nl x+nl y+1 by omega];exact Ae3 _
 ·rw[(List.mem_replicate.1 hd).2];decide
 rintro l3 i4 W5 ⟨hE5,k,zs,rfl,rfl,hk,hz,hdz,hv,h0⟩
 refine⟨fun hlt=>?_,fun hge s15 W16 hE16 hO hf=>?_⟩
 ·have hka:k<(dg x).length:=by omega
  have hdB:=(Ad8 x).at hka
  obtain⟨d,hd⟩: ∃d,(dg x)[k]=d:=⟨_,rfl⟩
  rw[hd] at hdB
  refine⟨Fv4 x y k d (val zs) W5,Fu0 (nl y),⟨Ext.refl _,0,0,zs,rfl,rfl,rfl,by omega,by decide,hz,hdz,by simp[val],h0⟩,?_⟩
  rintro l8 i9 i10 W11 ⟨hE11,c,j,ws,rfl,rfl,rfl,hj,hc,hw,hdw,hvw,h0w⟩
  have e1:(k:Int)+(j:Int)=((k+j:Nat):Int):=by omega
  refine⟨fun hlt2=>?_,fun hge2=>?_⟩
  ·have hjb:j<(dg y).length:=by omega
   have heB:=(Ad8 y).at hjb
   obtain⟨e,he⟩: ∃e,(dg y)[j]=e:=⟨_,rfl⟩
   rw[he] at heB
   have hkj:k+j<ws.length:=by omega
   have hpB:=hdw.at hkj
   obtain⟨p,hp⟩: ∃p,ws[k+j]=p:=⟨_,rfl⟩
   rw[hp] at hpB
   have m1:d*e≤4294967295*4294967295:=Nat.mul_le_mul (by unfold B at hdB;omega) (by unfold B at heB;omega)
   obtain⟨m,hm⟩: ∃m,d*e=m:=⟨_,rfl⟩
   have hcell:Ck3 (cel ws) (k+j) 0 [.int .u32 (p:Int)]:=⟨_,Au0 hkj,by rw[hp];rfl⟩
   have w1:IntKind.wrap .u64 (d:Int)=(d:Int):=Ab1 (by unfold B at hdB;omega)
   have w2:IntKind.wrap .u64 (e:Int)=(e:Int):=Ab1 (by unfold B at heB;omega)
   have w3:IntKind.wrap .u64 (p:Int)=(p:Int):=Ab1 (by unfold B at hpB;omega)
   have w4:(d:Int)*(e:Int)=(m:Int):=by rw[←hm];push_cast;rfl
   have tB:c+(m+p)<18446744073709551616:=by unfold B at hc hpB;omega
   have w5:IntKind.wrap .u64 ((c:Int)+IntKind.wrap .u64 (IntKind.wrap .u64 ((m:Nat):Int)+(p:Int)))=((c+(m+p):Nat):Int):=by
    rw[Ab1 (n:=m) (by omega),show((m:Nat):Int)+(p:Int)=((m+p:Nat):Int) by omega,Ab1 (n:=m+p) (by omega),show(c:Int)+((m+p:Nat):Int)=((c+(m+p):Nat):Int) by omega,Ab1 tB]
   rw[e1]
   refine⟨Ad4.inB (h1.ext (hE5.trans hE11)) (by omega) (by omega),(d:Int),by rw[←hd];exact Ad4.at (h1.ext (hE5.trans hE11)) hka,Ad4.inB (h2.ext (hE5.trans hE11)) (by omega) (by omega),(e:Int),by rw[←he];exact Ad4.at (h2.ext (hE5.trans hE11)) hjb,by unfold I64;omega,⟨by omega,by rw[Aa5];omega⟩,(p:Int),hcell,by unfold I64;omega,⟨by omega,by rw[Aa5];omega⟩,by rw[Aa5];exact hkj,by unfold I64;omega,?_⟩
   rw[w1,w2,w3,w4,w5,Cx7 tB,Ab9,Nat.mod_mod,Ao0,show Int.toNat ((k+j:Nat):Int)=k+j from rfl,Ae9]
   refine⟨⟨hE11,(c+(m+p))/B,j+1,_,rfl,by push_cast;rfl,rfl,by omega,?_,by simpa using hw,hdw.set (Nat.mod_lt _ Ad3),?_,fun i hi hge=>?_⟩,?_⟩
   ·rw[Nat.div_lt_iff_lt_mul Ad3]
    unfold B at *
    omega
   ·have q1:=Bh5 ws (k:=k+j) ((c+(m+p))%B) hkj
    rw[hp] at q1
    have q2:=Nat.mod_add_div (c+(m+p)) B
    rw[Aa4 hjb,he,show k+(j+1)=k+j+1 by omega,Nat.pow_succ,Nat.mul_add,Nat.mul_add,←Nat.mul_assoc,←Nat.mul_assoc,←Nat.mul_assoc]
    have q3:B^k*d*B^j*e=B^(k+j)*m:=by rw[Nat.pow_add,←hm];grind
    rw[q3]
    rw[←Nat.mul_assoc] at hvw
    have q4:B^(k+j)*((c+(m+p))%B)+B^(k+j)*B*((c+(m+p))/B)=B^(k+j)*(c+(m+p)):=by
     conv=>rhs;rw[←q2]
     rw[Nat.mul_add,Nat.mul_assoc]
    rw[Nat.mul_add,Nat.mul_add] at q4
    generalize B^(k+j)*((c+(m+p))%B)=z1 at *
    generalize B^(k+j)*B*((c+(m+p))/B)=z2 at *
    generalize B^(k+j)*c=z3 at *
    generalize B^(k+j)*m=z4 at *
    generalize B^(k+j)*p=z5 at *
    omega
   ·rw[List.getElem_set_ne (by omega)]
    exact h0w i (by simpa using hi) hge
   ·show nl y-Int.toNat ((j:Int)+1)<nl y-Int.toNat (j:Int)
    omega
  ·have hjy:j=nl y:=by omega
   subst hjy
   have hkl:k+nl y<ws.length:=by omega
   have e2:(k:Int)+(t.n:Int)=((k+nl y:Nat):Int):=by omega
   rw[e2]
   have hz0:=h0w (k+nl y) hkl (Nat.le_refl _)
   refine⟨by unfold I64;omega,⟨by omega,by rw[Aa5];omega⟩,by rw[Aa5];exact hkl,by unfold I64;omega,?_⟩
   rw[Ab9,Nat.mod_eq_of_lt hc,show Int.toNat ((k+nl y:Nat):Int)=k+nl y from rfl,Ae9]
   refine⟨⟨hE5.trans hE11,k+1,_,by push_cast;rfl,rfl,by omega,by simpa using hw,hdw.set hc,?_,fun i hi hge=>?_⟩,?_⟩
   ·have q1:=Bh5 ws (k:=k+nl y) c hkl
    rw[hz0,Nat.mul_zero,Nat.add_zero] at q1
    rw[←ly,List.take_length,Ac5,ly] at hvw
    rw[q1,hvw,Aa4 hka,hd,hv,Nat.add_mul,Nat.mul_assoc]
   ·rw[List.getElem_set_ne (by omega)]
    exact h0w i (by simpa using hi) (by omega)
   ·show nl x-Int.toNat ((k:Int)+1)<nl x-Int.toNat (k:Int)
    omega
 ·have hkx:k=nl x:=by omega
  subst hkx
  rw[←lx,List.take_length,Ac5] at hv
  refine An1 hO.row hdz (by omega) fun s' W19 hE19 h19=>⟨s',rfl,fun W21 hE21=>⟨s',rfl,?_⟩⟩
  rw[hv] at h19
  exact h19.ext hE21
theorem Bb0 {W0 W:PW} {M:Nat→Prop} {s t:Sl} {x y:Nat} {K:Value→PW→Prop} (h1:Aa6 284 W s x) (h2:Aa6 284 W t y) (hx:nl x≤274877906944) (hy:nl y≤274877906944) (kont: ∀(s':Sl) (W':PW),Ext W W'→(Aa6 284 W' s' (x*y))→K (Sl.v s') W'):
  Aa1 Tryz.prog W0 M 206 [s.v,t.v] W K:=
 Aa2 (fun W' hE=>El6 (M:=fun _=>False) (h1.ext hE) (h2.ext hE) hx hy) (fun W' v W'' hE hE' hP=>by
  obtain⟨s',rfl,h⟩:=hP
  exact kont s' W'' (hE.trans hE') h)
theorem El0 {W0:PW} {M:Nat→Prop} {s:Sl} :
  Aa0 Tryz.prog 205 [s.v] W0 M fun v W'=>v = .agg #[.bool false,s.v]∧True:=by
 apply Cz3
 exact fun W hE=>⟨rfl,trivial⟩
theorem Ak8 {W0 W:PW} {M:Nat→Prop} {s:Sl} {K:Value→PW→Prop} (kont: ∀(W':PW),Ext W W'→(True)→K (.agg #[.bool false,s.v]) W'):
  Aa1 Tryz.prog W0 M 205 [s.v] W K:=
 Aa2 (fun W' hE=>El0 (M:=fun _=>False) ) (fun W' v W'' hE hE' hP=>by
  obtain⟨rfl,h⟩:=hP
  exact kont W'' (hE.trans hE') h)
theorem Ec9 {W0:PW} {M:Nat→Prop} {b:Bool} {s:Sl} {x:Nat} (h:Aa6 284 W0 s x):
  Aa0 Tryz.prog 242 [.bool b,s.v] W0 M fun v W'=>∃(b':Bool),v = .agg #[.bool b',s.v]∧Ab5 284 W' s b' (if b=true then -(x:Int) else(x:Int)):=by
 apply Bn3
 have hn:=h.n
 refine⟨fun hb W1 hE=>⟨_,rfl,?_⟩,fun hb W2 hE=>⟨_,rfl,?_⟩⟩
 ·rw[if_pos hb]
  refine⟨by rw[Int.natAbs_neg,Int.natAbs_natCast];exact h.ext hE,decide_eq_decide.2 ⟨fun h=>?_,fun h=>?_⟩⟩
  ·have:x≠0:=fun e=>by rw[e,Ag9] at hn;omega
   omega
  ·have:nl x≠0:=fun e=>by rw[Ad0] at e;omega
   omega
 ·rw[if_neg (by simp[hb])]
  exact Am1 (h.ext hE)
theorem Aj7 {W0 W:PW} {M:Nat→Prop} {b:Bool} {s:Sl} {x:Nat} {K:Value→PW→Prop} (h:Aa6 284 W s x) (kont: ∀(b':Bool) (W':PW),Ext W W'→(Ab5 284 W' s b' (if b=true then -(x:Int) else(x:Int)))→K (.agg #[.bool b',s.v]) W'):
  Aa1 Tryz.prog W0 M 242 [.bool b,s.v] W K:=
 Aa2 (fun W' hE=>Ec9 (M:=fun _=>False) (h.ext hE)) (fun W' v W'' hE hE' hP=>by
  obtain⟨b',rfl,h⟩:=hP
  exact kont b' W'' (hE.trans hE') h)
theorem Di6 {W0:PW} {M:Nat→Prop} {z:Int} (hz:I64 z):
  Aa0 Tryz.prog 166 [.int .i64 z] W0 M fun v W'=>∃(b':Bool),∃(s':Sl),v = .agg #[.bool b',Sl.v s']∧Ab5 284 W' s' b' z:=by
 apply Ca7
 unfold I64 at hz
 refine⟨fun h=>⟨by unfold I64;omega,by unfold I64;omega,?_⟩,fun h=>?_⟩
 ·obtain⟨n,hn⟩: ∃n:Nat,z = -(n:Int):=⟨z.natAbs,by omega⟩
  subst hn
  rw[wrap64 (z:=0-(-(n:Int)+1)) (by omega) (by omega),show(0-(-(n:Int)+1)+1)=(n:Int) by omega,Ab1 (by omega)]
  refine Ae0 (by unfold B;omega) fun s3 W2 hE2 h3=>⟨s3,rfl,fun W4 hE4=>⟨true,s3,rfl,by rw[Int.natAbs_neg,Int.natAbs_natCast];exact h3.ext hE4,by symm;exact decide_eq_true h⟩⟩
 ·obtain⟨n,rfl⟩:=Int.eq_ofNat_of_zero_le (by omega:0≤z)
  rw[Ab1 (by omega)]
  exact Ae0 (by unfold B;omega) fun s3 W2 hE2 h3=>⟨s3,rfl,fun W4 hE4=>⟨false,s3,rfl,Am1 (h3.ext hE4)⟩⟩
theorem Cj2 {W0 W:PW} {M:Nat→Prop} {z:Int} {K:Value→PW→Prop} (hz:I64 z) (kont: ∀(b':Bool) (s':Sl) (W':PW),Ext W W'→(Ab5 284 W' s' b' z)→K (.agg #[.bool b',Sl.v s']) W'):
  Aa1 Tryz.prog W0 M 166 [.int .i64 z] W K:=
 Aa2 (fun W' hE=>Di6 (M:=fun _=>False) hz) (fun W' v W'' hE hE' hP=>by
  obtain⟨b',s',rfl,h⟩:=hP
  exact kont b' s' W'' (hE.trans hE') h)
theorem Dt9 {W0:PW} {M:Nat→Prop} {s:Sl} {b:Bool} {z:Int} (h:Ab5 284 W0 s b z):
  Aa0 Tryz.prog 35 [.agg #[.bool b,s.v]] W0 M fun v W'=>v = .int .i64 (By8 z)∧True:=by
 apply Cn4
 have hn:=h.1.n
 have hb:=h.2
 refine⟨fun h0 W hE=>⟨?_,trivial⟩,fun h0=>⟨fun hb1 W hE=>⟨?_,trivial⟩,fun hb1 W hE=>⟨?_,trivial⟩⟩⟩
 ·have:z.natAbs=0:=Ad0.1 (by omega)
  have:z=0:=by omega
  subst this
  rfl
 ·have:z<0:=of_decide_eq_true (hb ▸ hb1)
  rw[By8,if_pos this]
 ·have h1:¬z<0:=of_decide_eq_false (hb ▸ hb1)
  have h2:z≠0:=fun e=>by subst e;rw[Int.natAbs_zero,Ag9] at hn;omega
  rw[By8,if_neg h1,if_neg h2]
theorem Aq7 {W0 W:PW} {M:Nat→Prop} {s:Sl} {b:Bool} {z:Int} {K:Value→PW→Prop} (h:Ab5 284 W s b z) (kont: ∀(W':PW),Ext W W'→(True)→K (.int .i64 (By8 z)) W'):
  Aa1 Tryz.prog W0 M 35 [.agg #[.bool b,s.v]] W K:=
 Aa2 (fun W' hE=>Dt9 (M:=fun _=>False) (h.ext hE)) (fun W' v W'' hE hE' hP=>by
  obtain⟨rfl,h⟩:=hP
  exact kont W'' (hE.trans hE') h)
theorem Ed6 {W0:PW} {M:Nat→Prop} {s:Sl} {b:Bool} {z:Int} (h:Ab5 284 W0 s b z):
  Aa0 Tryz.prog 241 [.agg #[.bool b,s.v]] W0 M fun v W'=>∃(b':Bool),v = .agg #[.bool b',Sl.v s]∧Ab5 284 W' s b' (-z):=by
 apply Bw5
 have hb:=h.2
 refine Aj7 h.1 fun b3 W2 hE2 h3=>⟨b3,s,rfl,fun W5 hE5=>⟨b3,rfl,?_⟩⟩
 have e:(if(!b)=true then -(z.natAbs:Int) else(z.natAbs:Int)) = -z:=by
  cases b
  ·rw[if_pos (by rfl)]
   have:=of_decide_eq_false hb.symm
   omega
  ·rw[if_neg (by decide)]
   have:=of_decide_eq_true hb.symm
   omega
 rw[e] at h3
 exact h3.ext hE5
theorem Bb6 {W0 W:PW} {M:Nat→Prop} {s:Sl} {b:Bool} {z:Int} {K:Value→PW→Prop} (h:Ab5 284 W s b z) (kont: ∀(b':Bool) (W':PW),Ext W W'→(Ab5 284 W' s b' (-z))→K (.agg #[.bool b',Sl.v s]) W'):
  Aa1 Tryz.prog W0 M 241 [.agg #[.bool b,s.v]] W K:=
 Aa2 (fun W' hE=>Ed6 (M:=fun _=>False) (h.ext hE)) (fun W' v W'' hE hE' hP=>by
  obtain⟨b',rfl,h⟩:=hP
  exact kont b' W'' (hE.trans hE') h)
theorem Dx6 {W0:PW} {M:Nat→Prop} {s t:Sl} {b c:Bool} {z w:Int} (h1:Ab5 284 W0 s b z) (h2:Ab5 284 W0 t c w) (hz:nl z.natAbs≤274877906944) (hw:nl w.natAbs≤274877906944):
  Aa0 Tryz.prog 208 [.agg #[.bool b,s.v],.agg #[.bool c,t.v]] W0 M fun v W'=>∃(b':Bool),∃(s':Sl),v = .agg #[.bool b',Sl.v s']∧Ab5 284 W' s' b' (z+w):=by
 apply Bv0
 have hb:=Ce6 h1.2
 have hc:=Ce6 h2.2
 refine⟨fun hbc=>?_,fun hbc=>?_⟩
 ·refine Bz0 h1.1 h2.1 (by omega) (by omega) fun s3 W2 hE2 h3=>⟨s3,rfl,Aj7 h3 fun b6 W5 hE5 h6=>⟨b6,s3,rfl,fun W8 hE8=>⟨b6,s3,rfl,?_⟩⟩⟩
  have e:(if b=true then -((z.natAbs+w.natAbs:Nat):Int) else((z.natAbs+w.natAbs:Nat):Int))=z+w:=by
   rw[←hbc] at hc
   cases b<;>simp at hb hc⊢<;>omega
  rw[e] at h6
  exact h6.ext hE8
 ·refine Aj3 h1.1 h2.1 (by omega) fun W10 hE10 _=>⟨_,rfl,fun hle=>?_,fun hle=>?_⟩
  ·have hle':w.natAbs≤z.natAbs:=Nat.le_of_not_lt fun h=>by rw[Al0 h] at hle;omega
   refine Bc2 (h1.1.ext hE10) (h2.1.ext hE10) (by omega) hle' fun s11 W13 hE13 h11=>⟨s11,rfl,Aj7 h11 fun b17 W16 hE16 h17=>⟨b17,s11,rfl,fun W19 hE19=>⟨b17,s11,rfl,?_⟩⟩⟩
   have e:(if b=true then -((z.natAbs-w.natAbs:Nat):Int) else((z.natAbs-w.natAbs:Nat):Int))=z+w:=by
    cases b<;>cases c<;>simp at hbc hb hc⊢<;>omega
   rw[e] at h17
   exact h17.ext hE19
  ·have hle':z.natAbs≤w.natAbs:=Nat.le_of_not_lt fun h=>by rw[Aj4 h] at hle;omega
   refine Bc2 (h2.1.ext hE10) (h1.1.ext hE10) (by omega) hle' fun s11 W13 hE13 h11=>⟨s11,rfl,Aj7 h11 fun b17 W16 hE16 h17=>⟨b17,s11,rfl,fun W19 hE19=>⟨b17,s11,rfl,?_⟩⟩⟩
   have hlt:z.natAbs<w.natAbs:=Nat.lt_of_not_le fun h=>hle (by
    rcases Nat.lt_or_eq_of_le h with h | h
    ·rw[Aj4 h];omega
    ·rw[h,Ap9];omega)
   have e:(if c=true then -((w.natAbs-z.natAbs:Nat):Int) else((w.natAbs-z.natAbs:Nat):Int))=z+w:=by
    cases b<;>cases c<;>simp at hbc hb hc⊢<;>omega
   rw[e] at h17
   exact h17.ext hE19
theorem Bl7 {W0 W:PW} {M:Nat→Prop} {s t:Sl} {b c:Bool} {z w:Int} {K:Value→PW→Prop} (h1:Ab5 284 W s b z) (h2:Ab5 284 W t c w) (hz:nl z.natAbs≤274877906944) (hw:nl w.natAbs≤274877906944) (kont: ∀(b':Bool) (s':Sl) (W':PW),Ext W W'→(Ab5 284 W' s' b' (z+w))→K (.agg #[.bool b',Sl.v s']) W'):
  Aa1 Tryz.prog W0 M 208 [.agg #[.bool b,s.v],.agg #[.bool c,t.v]] W K:=
 Aa2 (fun W' hE=>Dx6 (M:=fun _=>False) (h1.ext hE) (h2.ext hE) hz hw) (fun W' v W'' hE hE' hP=>by
  obtain⟨b',s',rfl,h⟩:=hP
  exact kont b' s' W'' (hE.trans hE') h)
theorem Dw8 {W0:PW} {M:Nat→Prop} {s t:Sl} {b c:Bool} {z w:Int} (h1:Ab5 284 W0 s b z) (h2:Ab5 284 W0 t c w) (hz:nl z.natAbs≤274877906944) (hw:nl w.natAbs≤274877906944):
  Aa0 Tryz.prog 245 [.agg #[.bool b,s.v],.agg #[.bool c,t.v]] W0 M fun v W'=>∃(b':Bool),∃(s':Sl),v = .agg #[.bool b',Sl.v s']∧Ab5 284 W' s' b' (z-w):=by
 apply Bs2
 exact Bb6 h2 fun b3 W2 hE2 h3=>⟨b3,t,rfl,Bl7 (h1.ext hE2) h3 hz (by rw[Int.natAbs_neg];exact hw) fun b7 s8 W6 hE6 h7=>⟨b7,s8,rfl,fun W9 hE9=>⟨b7,s8,rfl,by rw[Int.sub_eq_add_neg];exact h7.ext hE9⟩⟩⟩
theorem Cz4 {W0 W:PW} {M:Nat→Prop} {s t:Sl} {b c:Bool} {z w:Int} {K:Value→PW→Prop} (h1:Ab5 284 W s b z) (h2:Ab5 284 W t c w) (hz:nl z.natAbs≤274877906944) (hw:nl w.natAbs≤274877906944) (kont: ∀(b':Bool) (s':Sl) (W':PW),Ext W W'→(Ab5 284 W' s' b' (z-w))→K (.agg #[.bool b',Sl.v s']) W'):
  Aa1 Tryz.prog W0 M 245 [.agg #[.bool b,s.v],.agg #[.bool c,t.v]] W K:=
 Aa2 (fun W' hE=>Dw8 (M:=fun _=>False) (h1.ext hE) (h2.ext hE) hz hw) (fun W' v W'' hE hE' hP=>by
  obtain⟨b',s',rfl,h⟩:=hP
  exact kont b' s' W'' (hE.trans hE') h)
theorem Ec2 {W0:PW} {M:Nat→Prop} {s t:Sl} {b c:Bool} {z w:Int} (h1:Ab5 284 W0 s b z) (h2:Ab5 284 W0 t c w) (hz:nl z.natAbs≤274877906944) (hw:nl w.natAbs≤274877906944):
  Aa0 Tryz.prog 204 [.agg #[.bool b,s.v],.agg #[.bool c,t.v]] W0 M fun v W'=>∃(b':Bool),∃(s':Sl),v = .agg #[.bool b',Sl.v s']∧Ab5 284 W' s' b' (z*w):=by
 apply Bq1
 have hb:=h1.2
 have hc:=h2.2
 refine Bb0 h1.1 h2.1 hz hw fun s3 W2 hE2 h3=>⟨s3,rfl,Aj7 h3 fun b6 W5 hE5 h6=>⟨b6,s3,rfl,fun W8 hE8=>⟨b6,s3,rfl,?_⟩⟩⟩
 have e:(if(decide (b≠c))=true then -((z.natAbs*w.natAbs:Nat):Int) else((z.natAbs*w.natAbs:Nat):Int))=z*w:=by
  rw[←Int.natAbs_mul]
  rcases Int.lt_or_le z 0 with h | h<;>rcases Int.lt_or_le w 0 with h' | h'
  ·rw[decide_eq_true h] at hb
   rw[decide_eq_true h'] at hc
   subst hb hc
   have:=Int.mul_pos_of_neg_of_neg h h'
   simp
   omega
  ·rw[decide_eq_true h] at hb
   rw[decide_eq_false (by omega)] at hc
   subst hb hc
   have:=Int.mul_nonneg (show 0≤-z by omega) h'
   rw[Int.neg_mul] at this
   simp
   omega
  ·rw[decide_eq_false (by omega)] at hb
   rw[decide_eq_true h'] at hc
   subst hb hc
   have:=Int.mul_nonneg h (show 0≤-w by omega)
   rw[Int.mul_neg] at this
   simp
   omega
  ·rw[decide_eq_false (by omega)] at hb
   rw[decide_eq_false (by omega)] at hc
   subst hb hc
   have:=Int.mul_nonneg h h'
   simp
   omega
 rw[e] at h6
 exact h6.ext hE8
theorem Am2 {W0 W:PW} {M:Nat→Prop} {s t:Sl} {b c:Bool} {z w:Int} {K:Value→PW→Prop} (h1:Ab5 284 W s b z) (h2:Ab5 284 W t c w) (hz:nl z.natAbs≤274877906944) (hw:nl w.natAbs≤274877906944) (kont: ∀(b':Bool) (s':Sl) (W':PW),Ext W W'→(Ab5 284 W' s' b' (z*w))→K (.agg #[.bool b',Sl.v s']) W'):
  Aa1 Tryz.prog W0 M 204 [.agg #[.bool b,s.v],.agg #[.bool c,t.v]] W K:=
 Aa2 (fun W' hE=>Ec2 (M:=fun _=>False) (h1.ext hE) (h2.ext hE) hz hw) (fun W' v W'' hE hE' hP=>by
  obtain⟨b',s',rfl,h⟩:=hP
  exact kont b' s' W'' (hE.trans hE') h)
theorem Dx8 {W0:PW} {M:Nat→Prop} {s t:Sl} {b c:Bool} {z w:Int} (h1:Ab5 284 W0 s b z) (h2:Ab5 284 W0 t c w) (hz:nl z.natAbs≤274877906944) (hw:nl w.natAbs≤274877906944):
  Aa0 Tryz.prog 209 [.agg #[.bool b,s.v],.agg #[.bool c,t.v]] W0 M fun v W'=>v = .int .i64 (As4 z w)∧True:=by
 apply By7
 refine Cz4 h1 h2 hz hw fun b3 s4 W2 hE2 h3=>⟨b3,s4,rfl,Aq7 h3 fun W6 hE6 _=>⟨_,rfl,fun W8 hE8=>⟨?_,trivial⟩⟩⟩
 have:As4 z w=By8 (z-w):=by
  unfold As4 By8
  split<;>split<;>(try split)<;>(try split)<;>first | rfl | omega
 rw[this]
theorem Cv9 {W0 W:PW} {M:Nat→Prop} {s t:Sl} {b c:Bool} {z w:Int} {K:Value→PW→Prop} (h1:Ab5 284 W s b z) (h2:Ab5 284 W t c w) (hz:nl z.natAbs≤274877906944) (hw:nl w.natAbs≤274877906944) (kont: ∀(W':PW),Ext W W'→(True)→K (.int .i64 (As4 z w)) W'):
  Aa1 Tryz.prog W0 M 209 [.agg #[.bool b,s.v],.agg #[.bool c,t.v]] W K:=
 Aa2 (fun W' hE=>Dx8 (M:=fun _=>False) (h1.ext hE) (h2.ext hE) hz hw) (fun W' v W'' hE hE' hP=>by
  obtain⟨rfl,h⟩:=hP
  exact kont W'' (hE.trans hE') h)
end Go.Proofs.YtjkkidjbppphpaaGreatDoor
/- cinctureref1: quotients. -/
namespace Go.Proofs.YtjkkidjbppphpaaGreatDoor
open Go Go.SX
theorem El5 {W0:PW} {M:Nat→Prop} {b:Bool} {s t:Sl} {q:Rat} (h:Ab6 284 W0 b s t q):
  Aa0 Tryz.prog 207 [.agg #[.bool b,s.v,t.v]] W0 M fun v W'=>∃(s':Sl),v=Sl.v s'∧Aa6 284 W' s' q.den:=by
 apply Cq5
 refine⟨fun h0=>?_,fun h0 W5 hE5=>⟨t,rfl,?_⟩⟩
 ·refine Ae0 (x:=1) (by decide) fun s3 W2 hE2 h3=>⟨s3,rfl,fun W4 hE4=>⟨s3,rfl,?_⟩⟩
  have:q.den=1:=by
   rcases h.2 with h | h
   ·have:=h.n
    have:=Ad0.1 (show nl q.den=0 by omega)
    exact absurd this q.den_nz
   ·exact h.1
  rw[this]
  exact h3.ext hE4
 ·rcases h.2 with h | h
  ·exact h.ext hE5
  ·have:=h.2.n
   rw[Ag9] at this
   omega
theorem Ag4 {W0 W:PW} {M:Nat→Prop} {b:Bool} {s t:Sl} {q:Rat} {K:Value→PW→Prop} (h:Ab6 284 W b s t q) (kont: ∀(s':Sl) (W':PW),Ext W W'→(Aa6 284 W' s' q.den)→K (Sl.v s') W'):
  Aa1 Tryz.prog W0 M 207 [.agg #[.bool b,s.v,t.v]] W K:=
 Aa2 (fun W' hE=>El5 (M:=fun _=>False) (h.ext hE)) (fun W' v W'' hE hE' hP=>by
  obtain⟨s',rfl,h⟩:=hP
  exact kont s' W'' (hE.trans hE') h)
theorem Dn9 {W0:PW} {M:Nat→Prop} {z:Int} (hz:I64 z):
  Aa0 Tryz.prog 80 [.int .i64 z] W0 M fun v W'=>∃(b':Bool),∃(s':Sl),∃(t':Sl),v = .agg #[.bool b',Sl.v s',Sl.v t']∧Ab6 284 W' b' s' t' (z:Rat):=by
 apply Ca8
 exact Cj2 hz fun b3 s4 W2 hE2 h3=>⟨b3,s4,rfl,Ae0 (x:=1) (by decide) fun s7 W6 hE6 h7=>⟨s7,rfl,fun W8 hE8=>⟨b3,s4,s7,rfl,(h3.ext hE6).ext hE8,.inl (h7.ext hE8)⟩⟩⟩
theorem Ak1 {W0 W:PW} {M:Nat→Prop} {z:Int} {K:Value→PW→Prop} (hz:I64 z) (kont: ∀(b':Bool) (s':Sl) (t':Sl) (W':PW),Ext W W'→(Ab6 284 W' b' s' t' (z:Rat))→K (.agg #[.bool b',Sl.v s',Sl.v t']) W'):
  Aa1 Tryz.prog W0 M 80 [.int .i64 z] W K:=
 Aa2 (fun W' hE=>Dn9 (M:=fun _=>False) hz) (fun W' v W'' hE hE' hP=>by
  obtain⟨b',s',t',rfl,h⟩:=hP
  exact kont b' s' t' W'' (hE.trans hE') h)
theorem Av7 (x y:Nat):Dt2 x y=0↔x=y:=by
 rcases Nat.lt_trichotomy x y with h | h | h
 ·rw[Al0 h];omega
 ·rw[h,Ap9];simp
 ·rw[Aj4 h];omega
theorem Ck5 {n k:Nat} (h:nl n≤k):nl (n:Int).natAbs≤k:=by rw[Int.natAbs_natCast];exact h
theorem Bw8 {z w:Int} {k l:Nat} (h:nl z.natAbs≤k) (h':nl w.natAbs≤l):nl (z*w).natAbs≤k+l:=by
 rw[Int.natAbs_mul]
 exact Nat.le_trans (Ae5 _ _) (Nat.add_le_add h h')
theorem Dz8 {W0:PW} {M:Nat→Prop} {s t s' t':Sl} {b b':Bool} {p q:Rat} {k l:Nat} (h1:Ab6 284 W0 b s t p) (h2:Ab6 284 W0 b' s' t' q) (hp:Sz k p) (hq:Sz l q) (hk:k≤500000000) (hl:l≤500000000):
  Aa0 Tryz.prog 141 [.agg #[.bool b,s.v,t.v],.agg #[.bool b',s'.v,t'.v]] W0 M fun v W'=>v = .int .i64 (Co4 p q)∧True:=by
 apply Bs0
 have a1:=hp.1
 have a2:=hp.2
 have b1:=hq.1
 have b2:=hq.2
 have m1:=Bw8 a1 (Ck5 b2)
 have m2:=Bw8 b1 (Ck5 a2)
 refine Ag4 h2 fun s3 W2 hE2 h3=>⟨s3,rfl,Ak8 fun W5 hE5 _=>⟨_,_,rfl,Am2 ((h1.1.ext hE2).ext hE5) (Am1 (h3.ext hE5)) (by omega) (by rw[Int.natAbs_natCast];omega) fun b10 s11 W9 hE9 h11=>⟨b10,s11,rfl,?_⟩⟩⟩
 have hEa:=(hE2.trans hE5).trans hE9
 refine Ag4 (h1.ext hEa) fun s14 W13 hE13 h14=>⟨s14,rfl,Ak8 fun W16 hE16 _=>⟨_,_,rfl,Am2 (((h2.1.ext hEa).ext hE13).ext hE16) (Am1 (h14.ext hE16)) (by omega) (by rw[Int.natAbs_natCast];omega) fun b21 s22 W20 hE20 h22=>⟨b21,s22,rfl,?_⟩⟩⟩
 refine Cv9 (((h11.ext hE13).ext hE16).ext hE20) h22 (by omega) (by omega) fun W24 hE24 _=>⟨_,rfl,fun W26 hE26=>⟨?_,trivial⟩⟩
 rw[Dn0]
theorem Ar1 {W0 W:PW} {M:Nat→Prop} {s t s' t':Sl} {b b':Bool} {p q:Rat} {k l:Nat} {K:Value→PW→Prop} (h1:Ab6 284 W b s t p) (h2:Ab6 284 W b' s' t' q) (hp:Sz k p) (hq:Sz l q) (hk:k≤500000000) (hl:l≤500000000) (kont: ∀(W':PW),Ext W W'→(True)→K (.int .i64 (Co4 p q)) W'):
  Aa1 Tryz.prog W0 M 141 [.agg #[.bool b,s.v,t.v],.agg #[.bool b',s'.v,t'.v]] W K:=
 Aa2 (fun W' hE=>Dz8 (M:=fun _=>False) (h1.ext hE) (h2.ext hE) hp hq hk hl) (fun W' v W'' hE hE' hP=>by
  obtain⟨rfl,h⟩:=hP
  exact kont W'' (hE.trans hE') h)
end Go.Proofs.YtjkkidjbppphpaaGreatDoor
