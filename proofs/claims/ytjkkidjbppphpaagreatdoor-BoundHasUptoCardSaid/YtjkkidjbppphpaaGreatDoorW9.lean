/- cinctureref1: whole numbers and quotients. -/
import Derived.Test.YtjkkidjbppphpaaGreatDoorW8
import Derived.Test.YtjkkidjbppphpaaGreatDoorR6
set_option linter.unusedVariables false
set_option linter.unusedSimpArgs false
set_option maxRecDepth 100000
set_option linter.unusedVariables false
set_option linter.unusedSimpArgs false
namespace Go.Proofs.YtjkkidjbppphpaaGreatDoor
open Go Go.SX
theorem isInt_pos {t:TypeId} {W:PW} {s:Sl} {x:Nat} (h:IsNat t W s x):IsInt t W s false (x:Int):=⟨by rw[Int.natAbs_natCast];exact h,by symm;exact decide_eq_false (by omega)⟩
def mulA (x y:Nat) (W0:PW) (l:List PL) (W:PW):Prop:=
 match l with
 | [.val (.int .i64 i),.row l3]=>Ext W0 W∧∃(k:Nat) (zs:List Nat),i=(k:Int)∧l3=cel zs∧k≤nl x∧zs.length=nl x+nl y+1∧Dig zs∧val zs=val ((dg x).take k)*y∧∀j (h:j<zs.length),k+nl y≤j→zs[j]=0
 | _=>False
def mulB (x y k d v0:Nat) (W0:PW) (l:List PL) (W:PW):Prop:=
 match l with
 | [.val (.int .u64 c),.val (.int .i64 i),.row l3]=>Ext W0 W∧∃(c' j:Nat) (zs:List Nat),c=(c':Int)∧i=(j:Int)∧l3=cel zs∧j≤nl y∧c'<B∧zs.length=nl x+nl y+1∧Dig zs∧val zs+B^(k+j)*c'=v0+B^k*(d*val ((dg y).take j))∧∀i (h:i<zs.length),k+nl y≤i→zs[i]=0
 | _=>False
def cntM (n:Nat) (l:List PL) (W:PW):Nat:=
 match l with
 | .val (.int .i64 i) :: _=>n-i.toNat
 | _ :: .val (.int .i64 i) :: _=>n-i.toNat
 | _=>0
theorem refMul_ok {W0:PW} {M:Nat→Prop} {s t:Sl} {x y:Nat} (h1:IsNat 284 W0 s x) (h2:IsNat 284 W0 t y) (hx:nl x≤274877906944) (hy:nl y≤274877906944):
  PCallsM Go.Proofs.Tryz.prog 206 [s.v,t.v] W0 M fun v W'=>∃(s':Sl),v=Sl.v s'∧IsNat 284 W' s' (x*y):=by
 apply callref1_MulNat
 have hs:=h1.n
 have ht:=h2.n
 have lx:(dg x).length=nl x:=rfl
 have ly:(dg y).length=nl y:=rfl
 refine⟨by unfold I64;omega,by unfold I64;omega,⟨rfl,by omega,by omega⟩,mulA x y W0,cntM (nl x),⟨Ext.refl _,0,List.replicate (nl x+nl y+1) 0,rfl,?_,by omega,by simp,fun d hd=>?_,by simp[val,val_replicate],fun j h _=>by simp⟩,?_⟩
 ·rw[show Int.toNat ((s.n:Int)+(t.n:Int)+1)=nl x+nl y+1 by omega];exact cel_replicate _
 ·rw[(List.mem_replicate.1 hd).2];decide
 rintro l3 i4 W5 ⟨hE5,k,zs,rfl,rfl,hk,hz,hdz,hv,h0⟩
 refine⟨fun hlt=>?_,fun hge s15 W16 hE16 hO hf=>?_⟩
 ·have hka:k<(dg x).length:=by omega
  have hdB:=(dig_dg x).at hka
  obtain⟨d,hd⟩: ∃d,(dg x)[k]=d:=⟨_,rfl⟩
  rw[hd] at hdB
  refine⟨mulB x y k d (val zs) W5,cntM (nl y),⟨Ext.refl _,0,0,zs,rfl,rfl,rfl,by omega,by decide,hz,hdz,by simp[val],h0⟩,?_⟩
  rintro l8 i9 i10 W11 ⟨hE11,c,j,ws,rfl,rfl,rfl,hj,hc,hw,hdw,hvw,h0w⟩
  have e1:(k:Int)+(j:Int)=((k+j:Nat):Int):=by omega
  refine⟨fun hlt2=>?_,fun hge2=>?_⟩
  ·have hjb:j<(dg y).length:=by omega
   have heB:=(dig_dg y).at hjb
   obtain⟨e,he⟩: ∃e,(dg y)[j]=e:=⟨_,rfl⟩
   rw[he] at heB
   have hkj:k+j<ws.length:=by omega
   have hpB:=hdw.at hkj
   obtain⟨p,hp⟩: ∃p,ws[k+j]=p:=⟨_,rfl⟩
   rw[hp] at hpB
   have m1:d*e≤4294967295*4294967295:=Nat.mul_le_mul (by unfold B at hdB;omega) (by unfold B at heB;omega)
   obtain⟨m,hm⟩: ∃m,d*e=m:=⟨_,rfl⟩
   have hcell:OwnAt (cel ws) (k+j) 0 [.int .u32 (p:Int)]:=⟨_,cel_get hkj,by rw[hp];rfl⟩
   have w1:IntKind.wrap .u64 (d:Int)=(d:Int):=wrap64n (by unfold B at hdB;omega)
   have w2:IntKind.wrap .u64 (e:Int)=(e:Int):=wrap64n (by unfold B at heB;omega)
   have w3:IntKind.wrap .u64 (p:Int)=(p:Int):=wrap64n (by unfold B at hpB;omega)
   have w4:(d:Int)*(e:Int)=(m:Int):=by rw[←hm];push_cast;rfl
   have tB:c+(m+p)<18446744073709551616:=by unfold B at hc hpB;omega
   have w5:IntKind.wrap .u64 ((c:Int)+IntKind.wrap .u64 (IntKind.wrap .u64 ((m:Nat):Int)+(p:Int)))=((c+(m+p):Nat):Int):=by
    rw[wrap64n (n:=m) (by omega),show((m:Nat):Int)+(p:Int)=((m+p:Nat):Int) by omega,wrap64n (n:=m+p) (by omega),show(c:Int)+((m+p:Nat):Int)=((c+(m+p):Nat):Int) by omega,wrap64n tB]
   rw[e1]
   refine⟨Digs.inB (h1.ext (hE5.trans hE11)) (by omega) (by omega),(d:Int),by rw[←hd];exact Digs.at (h1.ext (hE5.trans hE11)) hka,Digs.inB (h2.ext (hE5.trans hE11)) (by omega) (by omega),(e:Int),by rw[←he];exact Digs.at (h2.ext (hE5.trans hE11)) hjb,by unfold I64;omega,⟨by omega,by rw[cel_length];omega⟩,(p:Int),hcell,by unfold I64;omega,⟨by omega,by rw[cel_length];omega⟩,by rw[cel_length];exact hkj,by unfold I64;omega,?_⟩
   rw[w1,w2,w3,w4,w5,and32 tB,wrap32n,Nat.mod_mod,ishr32,show Int.toNat ((k+j:Nat):Int)=k+j from rfl,cel_set]
   refine⟨⟨hE11,(c+(m+p))/B,j+1,_,rfl,by push_cast;rfl,rfl,by omega,?_,by simpa using hw,hdw.set (Nat.mod_lt _ B_pos),?_,fun i hi hge=>?_⟩,?_⟩
   ·rw[Nat.div_lt_iff_lt_mul B_pos]
    unfold B at *
    omega
   ·have q1:=val_set ws (k:=k+j) ((c+(m+p))%B) hkj
    rw[hp] at q1
    have q2:=Nat.mod_add_div (c+(m+p)) B
    rw[val_take_succ hjb,he,show k+(j+1)=k+j+1 by omega,Nat.pow_succ,Nat.mul_add,Nat.mul_add,←Nat.mul_assoc,←Nat.mul_assoc,←Nat.mul_assoc]
    have q3:B^k*d*B^j*e=B^(k+j)*m:=by rw[Nat.pow_add,←hm];grind
    rw[q3]
    rw[←Nat.mul_assoc] at hvw
    have q4:B^(k+j)*((c+(m+p))%B)+B^(k+j)*B*((c+(m+p))/B)=B^(k+j)*(c+(m+p)):=by
     conv=>rhs;rw[←q2]
     rw[Nat.mul_add,Nat.mul_assoc]
    rw[Nat.mul_add,Nat.mul_add] at q4
    generalize B^(k+j)*((c+(m+p))%B)=z1 at *
    generalize B^(k+j)*B*((c+(m+p))/B)=z2 at *
    generalize B^(k+j)*c=z3 at *
    generalize B^(k+j)*m=z4 at *
    generalize B^(k+j)*p=z5 at *
    omega
   ·rw[List.getElem_set_ne (by omega)]
    exact h0w i (by simpa using hi) hge
   ·show nl y-Int.toNat ((j:Int)+1)<nl y-Int.toNat (j:Int)
    omega
  ·have hjy:j=nl y:=by omega
   subst hjy
   have hkl:k+nl y<ws.length:=by omega
   have e2:(k:Int)+(t.n:Int)=((k+nl y:Nat):Int):=by omega
   rw[e2]
   have hz0:=h0w (k+nl y) hkl (Nat.le_refl _)
   refine⟨by unfold I64;omega,⟨by omega,by rw[cel_length];omega⟩,by rw[cel_length];exact hkl,by unfold I64;omega,?_⟩
   rw[wrap32n,Nat.mod_eq_of_lt hc,show Int.toNat ((k+nl y:Nat):Int)=k+nl y from rfl,cel_set]
   refine⟨⟨hE5.trans hE11,k+1,_,by push_cast;rfl,rfl,by omega,by simpa using hw,hdw.set hc,?_,fun i hi hge=>?_⟩,?_⟩
   ·have q1:=val_set ws (k:=k+nl y) c hkl
    rw[hz0,Nat.mul_zero,Nat.add_zero] at q1
    rw[←ly,List.take_length,val_dg,ly] at hvw
    rw[q1,hvw,val_take_succ hka,hd,hv,Nat.add_mul,Nat.mul_assoc]
   ·rw[List.getElem_set_ne (by omega)]
    exact h0w i (by simpa using hi) (by omega)
   ·show nl x-Int.toNat ((k:Int)+1)<nl x-Int.toNat (k:Int)
    omega
 ·have hkx:k=nl x:=by omega
  subst hkx
  rw[←lx,List.take_length,val_dg] at hv
  refine refTrim_call hO.row hdz (by omega) fun s' W19 hE19 h19=>⟨s',rfl,fun W21 hE21=>⟨s',rfl,?_⟩⟩
  rw[hv] at h19
  exact h19.ext hE21
theorem refMul_call {W0 W:PW} {M:Nat→Prop} {s t:Sl} {x y:Nat} {K:Value→PW→Prop} (h1:IsNat 284 W s x) (h2:IsNat 284 W t y) (hx:nl x≤274877906944) (hy:nl y≤274877906944) (kont: ∀(s':Sl) (W':PW),Ext W W'→(IsNat 284 W' s' (x*y))→K (Sl.v s') W'):
  callN Go.Proofs.Tryz.prog W0 M 206 [s.v,t.v] W K:=
 callN_of (fun W' hE=>refMul_ok (M:=fun _=>False) (h1.ext hE) (h2.ext hE) hx hy) (fun W' v W'' hE hE' hP=>by
  obtain⟨s',rfl,h⟩:=hP
  exact kont s' W'' (hE.trans hE') h)
theorem refPos_ok {W0:PW} {M:Nat→Prop} {s:Sl} :
  PCallsM Go.Proofs.Tryz.prog 205 [s.v] W0 M fun v W'=>v = .agg #[.bool false,s.v]∧True:=by
 apply callref1_pos
 exact fun W hE=>⟨rfl,trivial⟩
theorem refPos_call {W0 W:PW} {M:Nat→Prop} {s:Sl} {K:Value→PW→Prop} (kont: ∀(W':PW),Ext W W'→(True)→K (.agg #[.bool false,s.v]) W'):
  callN Go.Proofs.Tryz.prog W0 M 205 [s.v] W K:=
 callN_of (fun W' hE=>refPos_ok (M:=fun _=>False) ) (fun W' v W'' hE hE' hP=>by
  obtain⟨rfl,h⟩:=hP
  exact kont W'' (hE.trans hE') h)
theorem refFrom_ok {W0:PW} {M:Nat→Prop} {b:Bool} {s:Sl} {x:Nat} (h:IsNat 284 W0 s x):
  PCallsM Go.Proofs.Tryz.prog 242 [.bool b,s.v] W0 M fun v W'=>∃(b':Bool),v = .agg #[.bool b',s.v]∧IsInt 284 W' s b' (if b=true then -(x:Int) else(x:Int)):=by
 apply callref1_IntFrom
 have hn:=h.n
 refine⟨fun hb W1 hE=>⟨_,rfl,?_⟩,fun hb W2 hE=>⟨_,rfl,?_⟩⟩
 ·rw[if_pos hb]
  refine⟨by rw[Int.natAbs_neg,Int.natAbs_natCast];exact h.ext hE,decide_eq_decide.2 ⟨fun h=>?_,fun h=>?_⟩⟩
  ·have:x≠0:=fun e=>by rw[e,nl_zero] at hn;omega
   omega
  ·have:nl x≠0:=fun e=>by rw[nl_eq_zero] at e;omega
   omega
 ·rw[if_neg (by simp[hb])]
  exact isInt_pos (h.ext hE)
theorem refFrom_call {W0 W:PW} {M:Nat→Prop} {b:Bool} {s:Sl} {x:Nat} {K:Value→PW→Prop} (h:IsNat 284 W s x) (kont: ∀(b':Bool) (W':PW),Ext W W'→(IsInt 284 W' s b' (if b=true then -(x:Int) else(x:Int)))→K (.agg #[.bool b',s.v]) W'):
  callN Go.Proofs.Tryz.prog W0 M 242 [.bool b,s.v] W K:=
 callN_of (fun W' hE=>refFrom_ok (M:=fun _=>False) (h.ext hE)) (fun W' v W'' hE hE' hP=>by
  obtain⟨b',rfl,h⟩:=hP
  exact kont b' W'' (hE.trans hE') h)
theorem refIntOf_ok {W0:PW} {M:Nat→Prop} {z:Int} (hz:I64 z):
  PCallsM Go.Proofs.Tryz.prog 166 [.int .i64 z] W0 M fun v W'=>∃(b':Bool),∃(s':Sl),v = .agg #[.bool b',Sl.v s']∧IsInt 284 W' s' b' z:=by
 apply callref1_IntOf
 unfold I64 at hz
 refine⟨fun h=>⟨by unfold I64;omega,by unfold I64;omega,?_⟩,fun h=>?_⟩
 ·obtain⟨n,hn⟩: ∃n:Nat,z = -(n:Int):=⟨z.natAbs,by omega⟩
  subst hn
  rw[wrap64 (z:=0-(-(n:Int)+1)) (by omega) (by omega),show(0-(-(n:Int)+1)+1)=(n:Int) by omega,wrap64n (by omega)]
  refine refNatOf_call (by unfold B;omega) fun s3 W2 hE2 h3=>⟨s3,rfl,fun W4 hE4=>⟨true,s3,rfl,by rw[Int.natAbs_neg,Int.natAbs_natCast];exact h3.ext hE4,by symm;exact decide_eq_true h⟩⟩
 ·obtain⟨n,rfl⟩:=Int.eq_ofNat_of_zero_le (by omega:0≤z)
  rw[wrap64n (by omega)]
  exact refNatOf_call (by unfold B;omega) fun s3 W2 hE2 h3=>⟨s3,rfl,fun W4 hE4=>⟨false,s3,rfl,isInt_pos (h3.ext hE4)⟩⟩
theorem refIntOf_call {W0 W:PW} {M:Nat→Prop} {z:Int} {K:Value→PW→Prop} (hz:I64 z) (kont: ∀(b':Bool) (s':Sl) (W':PW),Ext W W'→(IsInt 284 W' s' b' z)→K (.agg #[.bool b',Sl.v s']) W'):
  callN Go.Proofs.Tryz.prog W0 M 166 [.int .i64 z] W K:=
 callN_of (fun W' hE=>refIntOf_ok (M:=fun _=>False) hz) (fun W' v W'' hE hE' hP=>by
  obtain⟨b',s',rfl,h⟩:=hP
  exact kont b' s' W'' (hE.trans hE') h)
theorem refSign_ok {W0:PW} {M:Nat→Prop} {s:Sl} {b:Bool} {z:Int} (h:IsInt 284 W0 s b z):
  PCallsM Go.Proofs.Tryz.prog 35 [.agg #[.bool b,s.v]] W0 M fun v W'=>v = .int .i64 (sgnI z)∧True:=by
 apply callref1_Sign
 have hn:=h.1.n
 have hb:=h.2
 refine⟨fun h0 W hE=>⟨?_,trivial⟩,fun h0=>⟨fun hb1 W hE=>⟨?_,trivial⟩,fun hb1 W hE=>⟨?_,trivial⟩⟩⟩
 ·have:z.natAbs=0:=nl_eq_zero.1 (by omega)
  have:z=0:=by omega
  subst this
  rfl
 ·have:z<0:=of_decide_eq_true (hb ▸ hb1)
  rw[sgnI,if_pos this]
 ·have h1:¬z<0:=of_decide_eq_false (hb ▸ hb1)
  have h2:z≠0:=fun e=>by subst e;rw[Int.natAbs_zero,nl_zero] at hn;omega
  rw[sgnI,if_neg h1,if_neg h2]
theorem refSign_call {W0 W:PW} {M:Nat→Prop} {s:Sl} {b:Bool} {z:Int} {K:Value→PW→Prop} (h:IsInt 284 W s b z) (kont: ∀(W':PW),Ext W W'→(True)→K (.int .i64 (sgnI z)) W'):
  callN Go.Proofs.Tryz.prog W0 M 35 [.agg #[.bool b,s.v]] W K:=
 callN_of (fun W' hE=>refSign_ok (M:=fun _=>False) (h.ext hE)) (fun W' v W'' hE hE' hP=>by
  obtain⟨rfl,h⟩:=hP
  exact kont W'' (hE.trans hE') h)
theorem refNeg_ok {W0:PW} {M:Nat→Prop} {s:Sl} {b:Bool} {z:Int} (h:IsInt 284 W0 s b z):
  PCallsM Go.Proofs.Tryz.prog 241 [.agg #[.bool b,s.v]] W0 M fun v W'=>∃(b':Bool),v = .agg #[.bool b',Sl.v s]∧IsInt 284 W' s b' (-z):=by
 apply callref1_NegInt
 have hb:=h.2
 refine refFrom_call h.1 fun b3 W2 hE2 h3=>⟨b3,s,rfl,fun W5 hE5=>⟨b3,rfl,?_⟩⟩
 have e:(if(!b)=true then -(z.natAbs:Int) else(z.natAbs:Int)) = -z:=by
  cases b
  ·rw[if_pos (by rfl)]
   have:=of_decide_eq_false hb.symm
   omega
  ·rw[if_neg (by decide)]
   have:=of_decide_eq_true hb.symm
   omega
 rw[e] at h3
 exact h3.ext hE5
theorem refNeg_call {W0 W:PW} {M:Nat→Prop} {s:Sl} {b:Bool} {z:Int} {K:Value→PW→Prop} (h:IsInt 284 W s b z) (kont: ∀(b':Bool) (W':PW),Ext W W'→(IsInt 284 W' s b' (-z))→K (.agg #[.bool b',Sl.v s]) W'):
  callN Go.Proofs.Tryz.prog W0 M 241 [.agg #[.bool b,s.v]] W K:=
 callN_of (fun W' hE=>refNeg_ok (M:=fun _=>False) (h.ext hE)) (fun W' v W'' hE hE' hP=>by
  obtain⟨b',rfl,h⟩:=hP
  exact kont b' W'' (hE.trans hE') h)
theorem refAddI_ok {W0:PW} {M:Nat→Prop} {s t:Sl} {b c:Bool} {z w:Int} (h1:IsInt 284 W0 s b z) (h2:IsInt 284 W0 t c w) (hz:nl z.natAbs≤274877906944) (hw:nl w.natAbs≤274877906944):
  PCallsM Go.Proofs.Tryz.prog 208 [.agg #[.bool b,s.v],.agg #[.bool c,t.v]] W0 M fun v W'=>∃(b':Bool),∃(s':Sl),v = .agg #[.bool b',Sl.v s']∧IsInt 284 W' s' b' (z+w):=by
 apply callref1_AddInt
 have hb:=pos_if h1.2
 have hc:=pos_if h2.2
 refine⟨fun hbc=>?_,fun hbc=>?_⟩
 ·refine refAdd_call h1.1 h2.1 (by omega) (by omega) fun s3 W2 hE2 h3=>⟨s3,rfl,refFrom_call h3 fun b6 W5 hE5 h6=>⟨b6,s3,rfl,fun W8 hE8=>⟨b6,s3,rfl,?_⟩⟩⟩
  have e:(if b=true then -((z.natAbs+w.natAbs:Nat):Int) else((z.natAbs+w.natAbs:Nat):Int))=z+w:=by
   rw[←hbc] at hc
   cases b<;>simp at hb hc⊢<;>omega
  rw[e] at h6
  exact h6.ext hE8
 ·refine refCmp_call h1.1 h2.1 (by omega) fun W10 hE10 _=>⟨_,rfl,fun hle=>?_,fun hle=>?_⟩
  ·have hle':w.natAbs≤z.natAbs:=Nat.le_of_not_lt fun h=>by rw[cmpN_lt h] at hle;omega
   refine refSub_call (h1.1.ext hE10) (h2.1.ext hE10) (by omega) hle' fun s11 W13 hE13 h11=>⟨s11,rfl,refFrom_call h11 fun b17 W16 hE16 h17=>⟨b17,s11,rfl,fun W19 hE19=>⟨b17,s11,rfl,?_⟩⟩⟩
   have e:(if b=true then -((z.natAbs-w.natAbs:Nat):Int) else((z.natAbs-w.natAbs:Nat):Int))=z+w:=by
    cases b<;>cases c<;>simp at hbc hb hc⊢<;>omega
   rw[e] at h17
   exact h17.ext hE19
  ·have hle':z.natAbs≤w.natAbs:=Nat.le_of_not_lt fun h=>by rw[cmpN_gt h] at hle;omega
   refine refSub_call (h2.1.ext hE10) (h1.1.ext hE10) (by omega) hle' fun s11 W13 hE13 h11=>⟨s11,rfl,refFrom_call h11 fun b17 W16 hE16 h17=>⟨b17,s11,rfl,fun W19 hE19=>⟨b17,s11,rfl,?_⟩⟩⟩
   have hlt:z.natAbs<w.natAbs:=Nat.lt_of_not_le fun h=>hle (by
    rcases Nat.lt_or_eq_of_le h with h | h
    ·rw[cmpN_gt h];omega
    ·rw[h,cmpN_eq];omega)
   have e:(if c=true then -((w.natAbs-z.natAbs:Nat):Int) else((w.natAbs-z.natAbs:Nat):Int))=z+w:=by
    cases b<;>cases c<;>simp at hbc hb hc⊢<;>omega
   rw[e] at h17
   exact h17.ext hE19
theorem refAddI_call {W0 W:PW} {M:Nat→Prop} {s t:Sl} {b c:Bool} {z w:Int} {K:Value→PW→Prop} (h1:IsInt 284 W s b z) (h2:IsInt 284 W t c w) (hz:nl z.natAbs≤274877906944) (hw:nl w.natAbs≤274877906944) (kont: ∀(b':Bool) (s':Sl) (W':PW),Ext W W'→(IsInt 284 W' s' b' (z+w))→K (.agg #[.bool b',Sl.v s']) W'):
  callN Go.Proofs.Tryz.prog W0 M 208 [.agg #[.bool b,s.v],.agg #[.bool c,t.v]] W K:=
 callN_of (fun W' hE=>refAddI_ok (M:=fun _=>False) (h1.ext hE) (h2.ext hE) hz hw) (fun W' v W'' hE hE' hP=>by
  obtain⟨b',s',rfl,h⟩:=hP
  exact kont b' s' W'' (hE.trans hE') h)
theorem refSubI_ok {W0:PW} {M:Nat→Prop} {s t:Sl} {b c:Bool} {z w:Int} (h1:IsInt 284 W0 s b z) (h2:IsInt 284 W0 t c w) (hz:nl z.natAbs≤274877906944) (hw:nl w.natAbs≤274877906944):
  PCallsM Go.Proofs.Tryz.prog 245 [.agg #[.bool b,s.v],.agg #[.bool c,t.v]] W0 M fun v W'=>∃(b':Bool),∃(s':Sl),v = .agg #[.bool b',Sl.v s']∧IsInt 284 W' s' b' (z-w):=by
 apply callref1_SubInt
 exact refNeg_call h2 fun b3 W2 hE2 h3=>⟨b3,t,rfl,refAddI_call (h1.ext hE2) h3 hz (by rw[Int.natAbs_neg];exact hw) fun b7 s8 W6 hE6 h7=>⟨b7,s8,rfl,fun W9 hE9=>⟨b7,s8,rfl,by rw[Int.sub_eq_add_neg];exact h7.ext hE9⟩⟩⟩
theorem refSubI_call {W0 W:PW} {M:Nat→Prop} {s t:Sl} {b c:Bool} {z w:Int} {K:Value→PW→Prop} (h1:IsInt 284 W s b z) (h2:IsInt 284 W t c w) (hz:nl z.natAbs≤274877906944) (hw:nl w.natAbs≤274877906944) (kont: ∀(b':Bool) (s':Sl) (W':PW),Ext W W'→(IsInt 284 W' s' b' (z-w))→K (.agg #[.bool b',Sl.v s']) W'):
  callN Go.Proofs.Tryz.prog W0 M 245 [.agg #[.bool b,s.v],.agg #[.bool c,t.v]] W K:=
 callN_of (fun W' hE=>refSubI_ok (M:=fun _=>False) (h1.ext hE) (h2.ext hE) hz hw) (fun W' v W'' hE hE' hP=>by
  obtain⟨b',s',rfl,h⟩:=hP
  exact kont b' s' W'' (hE.trans hE') h)
theorem refMulI_ok {W0:PW} {M:Nat→Prop} {s t:Sl} {b c:Bool} {z w:Int} (h1:IsInt 284 W0 s b z) (h2:IsInt 284 W0 t c w) (hz:nl z.natAbs≤274877906944) (hw:nl w.natAbs≤274877906944):
  PCallsM Go.Proofs.Tryz.prog 204 [.agg #[.bool b,s.v],.agg #[.bool c,t.v]] W0 M fun v W'=>∃(b':Bool),∃(s':Sl),v = .agg #[.bool b',Sl.v s']∧IsInt 284 W' s' b' (z*w):=by
 apply callref1_MulInt
 have hb:=h1.2
 have hc:=h2.2
 refine refMul_call h1.1 h2.1 hz hw fun s3 W2 hE2 h3=>⟨s3,rfl,refFrom_call h3 fun b6 W5 hE5 h6=>⟨b6,s3,rfl,fun W8 hE8=>⟨b6,s3,rfl,?_⟩⟩⟩
 have e:(if(decide (b≠c))=true then -((z.natAbs*w.natAbs:Nat):Int) else((z.natAbs*w.natAbs:Nat):Int))=z*w:=by
  rw[←Int.natAbs_mul]
  rcases Int.lt_or_le z 0 with h | h<;>rcases Int.lt_or_le w 0 with h' | h'
  ·rw[decide_eq_true h] at hb
   rw[decide_eq_true h'] at hc
   subst hb hc
   have:=Int.mul_pos_of_neg_of_neg h h'
   simp
   omega
  ·rw[decide_eq_true h] at hb
   rw[decide_eq_false (by omega)] at hc
   subst hb hc
   have:=Int.mul_nonneg (show 0≤-z by omega) h'
   rw[Int.neg_mul] at this
   simp
   omega
  ·rw[decide_eq_false (by omega)] at hb
   rw[decide_eq_true h'] at hc
   subst hb hc
   have:=Int.mul_nonneg h (show 0≤-w by omega)
   rw[Int.mul_neg] at this
   simp
   omega
  ·rw[decide_eq_false (by omega)] at hb
   rw[decide_eq_false (by omega)] at hc
   subst hb hc
   have:=Int.mul_nonneg h h'
   simp
   omega
 rw[e] at h6
 exact h6.ext hE8
theorem refMulI_call {W0 W:PW} {M:Nat→Prop} {s t:Sl} {b c:Bool} {z w:Int} {K:Value→PW→Prop} (h1:IsInt 284 W s b z) (h2:IsInt 284 W t c w) (hz:nl z.natAbs≤274877906944) (hw:nl w.natAbs≤274877906944) (kont: ∀(b':Bool) (s':Sl) (W':PW),Ext W W'→(IsInt 284 W' s' b' (z*w))→K (.agg #[.bool b',Sl.v s']) W'):
  callN Go.Proofs.Tryz.prog W0 M 204 [.agg #[.bool b,s.v],.agg #[.bool c,t.v]] W K:=
 callN_of (fun W' hE=>refMulI_ok (M:=fun _=>False) (h1.ext hE) (h2.ext hE) hz hw) (fun W' v W'' hE hE' hP=>by
  obtain⟨b',s',rfl,h⟩:=hP
  exact kont b' s' W'' (hE.trans hE') h)
theorem refCmpI_ok {W0:PW} {M:Nat→Prop} {s t:Sl} {b c:Bool} {z w:Int} (h1:IsInt 284 W0 s b z) (h2:IsInt 284 W0 t c w) (hz:nl z.natAbs≤274877906944) (hw:nl w.natAbs≤274877906944):
  PCallsM Go.Proofs.Tryz.prog 209 [.agg #[.bool b,s.v],.agg #[.bool c,t.v]] W0 M fun v W'=>v = .int .i64 (cmpI z w)∧True:=by
 apply callref1_CmpInt
 refine refSubI_call h1 h2 hz hw fun b3 s4 W2 hE2 h3=>⟨b3,s4,rfl,refSign_call h3 fun W6 hE6 _=>⟨_,rfl,fun W8 hE8=>⟨?_,trivial⟩⟩⟩
 have:cmpI z w=sgnI (z-w):=by
  unfold cmpI sgnI
  split<;>split<;>(try split)<;>(try split)<;>first | rfl | omega
 rw[this]
theorem refCmpI_call {W0 W:PW} {M:Nat→Prop} {s t:Sl} {b c:Bool} {z w:Int} {K:Value→PW→Prop} (h1:IsInt 284 W s b z) (h2:IsInt 284 W t c w) (hz:nl z.natAbs≤274877906944) (hw:nl w.natAbs≤274877906944) (kont: ∀(W':PW),Ext W W'→(True)→K (.int .i64 (cmpI z w)) W'):
  callN Go.Proofs.Tryz.prog W0 M 209 [.agg #[.bool b,s.v],.agg #[.bool c,t.v]] W K:=
 callN_of (fun W' hE=>refCmpI_ok (M:=fun _=>False) (h1.ext hE) (h2.ext hE) hz hw) (fun W' v W'' hE hE' hP=>by
  obtain⟨rfl,h⟩:=hP
  exact kont W'' (hE.trans hE') h)
end Go.Proofs.YtjkkidjbppphpaaGreatDoor

/- cinctureref1: quotients. -/
set_option maxRecDepth 100000
set_option linter.unusedVariables false
set_option linter.unusedSimpArgs false
namespace Go.Proofs.YtjkkidjbppphpaaGreatDoor
open Go Go.SX
theorem refDen_ok {W0:PW} {M:Nat→Prop} {b:Bool} {s t:Sl} {q:Rat} (h:IsRefQ 284 W0 b s t q):
  PCallsM Go.Proofs.Tryz.prog 207 [.agg #[.bool b,s.v,t.v]] W0 M fun v W'=>∃(s':Sl),v=Sl.v s'∧IsNat 284 W' s' q.den:=by
 apply callref1_Den
 refine⟨fun h0=>?_,fun h0 W5 hE5=>⟨t,rfl,?_⟩⟩
 ·refine refNatOf_call (x:=1) (by decide) fun s3 W2 hE2 h3=>⟨s3,rfl,fun W4 hE4=>⟨s3,rfl,?_⟩⟩
  have:q.den=1:=by
   rcases h.2 with h | h
   ·have:=h.n
    have:=nl_eq_zero.1 (show nl q.den=0 by omega)
    exact absurd this q.den_nz
   ·exact h.1
  rw[this]
  exact h3.ext hE4
 ·rcases h.2 with h | h
  ·exact h.ext hE5
  ·have:=h.2.n
   rw[nl_zero] at this
   omega
theorem refDen_call {W0 W:PW} {M:Nat→Prop} {b:Bool} {s t:Sl} {q:Rat} {K:Value→PW→Prop} (h:IsRefQ 284 W b s t q) (kont: ∀(s':Sl) (W':PW),Ext W W'→(IsNat 284 W' s' q.den)→K (Sl.v s') W'):
  callN Go.Proofs.Tryz.prog W0 M 207 [.agg #[.bool b,s.v,t.v]] W K:=
 callN_of (fun W' hE=>refDen_ok (M:=fun _=>False) (h.ext hE)) (fun W' v W'' hE hE' hP=>by
  obtain⟨s',rfl,h⟩:=hP
  exact kont s' W'' (hE.trans hE') h)
theorem refRatOf_ok {W0:PW} {M:Nat→Prop} {z:Int} (hz:I64 z):
  PCallsM Go.Proofs.Tryz.prog 80 [.int .i64 z] W0 M fun v W'=>∃(b':Bool),∃(s':Sl),∃(t':Sl),v = .agg #[.bool b',Sl.v s',Sl.v t']∧IsRefQ 284 W' b' s' t' (z:Rat):=by
 apply callref1_RatOf
 exact refIntOf_call hz fun b3 s4 W2 hE2 h3=>⟨b3,s4,rfl,refNatOf_call (x:=1) (by decide) fun s7 W6 hE6 h7=>⟨s7,rfl,fun W8 hE8=>⟨b3,s4,s7,rfl,(h3.ext hE6).ext hE8,.inl (h7.ext hE8)⟩⟩⟩
theorem refRatOf_call {W0 W:PW} {M:Nat→Prop} {z:Int} {K:Value→PW→Prop} (hz:I64 z) (kont: ∀(b':Bool) (s':Sl) (t':Sl) (W':PW),Ext W W'→(IsRefQ 284 W' b' s' t' (z:Rat))→K (.agg #[.bool b',Sl.v s',Sl.v t']) W'):
  callN Go.Proofs.Tryz.prog W0 M 80 [.int .i64 z] W K:=
 callN_of (fun W' hE=>refRatOf_ok (M:=fun _=>False) hz) (fun W' v W'' hE hE' hP=>by
  obtain⟨b',s',t',rfl,h⟩:=hP
  exact kont b' s' t' W'' (hE.trans hE') h)
theorem cmpN_zero (x y:Nat):cmpN x y=0↔x=y:=by
 rcases Nat.lt_trichotomy x y with h | h | h
 ·rw[cmpN_lt h];omega
 ·rw[h,cmpN_eq];simp
 ·rw[cmpN_gt h];omega
theorem cast_nl {n k:Nat} (h:nl n≤k):nl (n:Int).natAbs≤k:=by rw[Int.natAbs_natCast];exact h
theorem prod_sz {z w:Int} {k l:Nat} (h:nl z.natAbs≤k) (h':nl w.natAbs≤l):nl (z*w).natAbs≤k+l:=by
 rw[Int.natAbs_mul]
 exact Nat.le_trans (nl_mul _ _) (Nat.add_le_add h h')
theorem refQCmp_ok {W0:PW} {M:Nat→Prop} {s t s' t':Sl} {b b':Bool} {p q:Rat} {k l:Nat} (h1:IsRefQ 284 W0 b s t p) (h2:IsRefQ 284 W0 b' s' t' q) (hp:Sz k p) (hq:Sz l q) (hk:k≤500000000) (hl:l≤500000000):
  PCallsM Go.Proofs.Tryz.prog 141 [.agg #[.bool b,s.v,t.v],.agg #[.bool b',s'.v,t'.v]] W0 M fun v W'=>v = .int .i64 (cmpQ p q)∧True:=by
 apply callref1_RatCmp
 have a1:=hp.1
 have a2:=hp.2
 have b1:=hq.1
 have b2:=hq.2
 have m1:=prod_sz a1 (cast_nl b2)
 have m2:=prod_sz b1 (cast_nl a2)
 refine refDen_call h2 fun s3 W2 hE2 h3=>⟨s3,rfl,refPos_call fun W5 hE5 _=>⟨_,_,rfl,refMulI_call ((h1.1.ext hE2).ext hE5) (isInt_pos (h3.ext hE5)) (by omega) (by rw[Int.natAbs_natCast];omega) fun b10 s11 W9 hE9 h11=>⟨b10,s11,rfl,?_⟩⟩⟩
 have hEa:=(hE2.trans hE5).trans hE9
 refine refDen_call (h1.ext hEa) fun s14 W13 hE13 h14=>⟨s14,rfl,refPos_call fun W16 hE16 _=>⟨_,_,rfl,refMulI_call (((h2.1.ext hEa).ext hE13).ext hE16) (isInt_pos (h14.ext hE16)) (by omega) (by rw[Int.natAbs_natCast];omega) fun b21 s22 W20 hE20 h22=>⟨b21,s22,rfl,?_⟩⟩⟩
 refine refCmpI_call (((h11.ext hE13).ext hE16).ext hE20) h22 (by omega) (by omega) fun W24 hE24 _=>⟨_,rfl,fun W26 hE26=>⟨?_,trivial⟩⟩
 rw[cmpQ_of]
theorem refQCmp_call {W0 W:PW} {M:Nat→Prop} {s t s' t':Sl} {b b':Bool} {p q:Rat} {k l:Nat} {K:Value→PW→Prop} (h1:IsRefQ 284 W b s t p) (h2:IsRefQ 284 W b' s' t' q) (hp:Sz k p) (hq:Sz l q) (hk:k≤500000000) (hl:l≤500000000) (kont: ∀(W':PW),Ext W W'→(True)→K (.int .i64 (cmpQ p q)) W'):
  callN Go.Proofs.Tryz.prog W0 M 141 [.agg #[.bool b,s.v,t.v],.agg #[.bool b',s'.v,t'.v]] W K:=
 callN_of (fun W' hE=>refQCmp_ok (M:=fun _=>False) (h1.ext hE) (h2.ext hE) hp hq hk hl) (fun W' v W'' hE hE' hP=>by
  obtain⟨rfl,h⟩:=hP
  exact kont W'' (hE.trans hE') h)
end Go.Proofs.YtjkkidjbppphpaaGreatDoor
