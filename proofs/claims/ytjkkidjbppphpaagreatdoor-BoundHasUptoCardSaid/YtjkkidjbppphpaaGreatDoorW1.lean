/- nat: cut, Of, Add, Mul; a clone of limbs. -/
import Derived.Test.YtjkkidjbppphpaaGreatDoorR1
import Derived.Test.YtjkkidjbppphpaaGreatDoorLib1
import Derived.Test.YtjkkidjbppphpaaGreatDoorR2
set_option linter.unusedVariables false
set_option linter.unusedSimpArgs false
set_option maxRecDepth 100000
set_option linter.unusedVariables false
namespace Go.Proofs.YtjkkidjbppphpaaGreatDoor
open Go Go.SX
theorem val_snoc0 {l:List Nat} (h:l≠[]) (h0:l[l.length-1]'(by have:=List.length_pos_iff.2 h;omega)=0):val (l.take (l.length-1))=val l:=by
 have e:l=l.take (l.length-1) ++ [0]:=by
  have:=List.dropLast_concat_getLast h
  rw[List.getLast_eq_getElem,h0,List.dropLast_eq_take] at this
  exact this.symm
 conv=>rhs;rw[e,val_append]
 simp[val]
theorem natCut_ok {W0:PW} {M:Nat→Prop} {s:Sl} {l:List Nat} (h:Digs 284 W0 s l) (hd:Dig l) (hl:l.length≤2^40):
  PCallsM Go.Proofs.Tryz.prog 200 [s.v] W0 M fun v W'=>∃s',v = .agg #[Sl.v s']∧IsNat 284 W' s' (val l):=by
 apply callnat_cut
 refine⟨fun l' W=>match l' with | [.val (.slice A n c)]=>(∃ds,Ext W0 W∧Digs 284 W ⟨A,n,c⟩ ds∧Dig ds∧val ds=val l∧ds.length≤l.length) | _=>False,
  fun l' _=>match l' with | [.val (.slice _ n _)]=>n | _=>0,⟨l,Ext.refl _,h,hd,rfl,Nat.le_refl _⟩,?_⟩
 rintro s3 W4 ⟨ds,hE,hD,hdg,hv,hle⟩
 have hD:Digs 284 W4 s3 ds:=hD
 have hn:=hD.n
 refine⟨fun hpos=>?_,fun hz=>fun W7 hE7=>?_⟩
 ·rw[hn] at hpos
  have hne:ds≠[]:=fun e=>by subst e;simp at hpos
  have hlt:ds.length-1<ds.length:=by omega
  have ei:((s3.n:Int)-1)=((ds.length-1:Nat):Int):=by rw[hn];omega
  have hI:I64 ((s3.n:Int)-1):=by unfold I64;omega
  refine⟨hI,hD.inB (by omega) (by omega),(ds[ds.length-1]:Nat),?_,fun h0=>⟨hI,⟨by omega,by omega,?_⟩,?_,?_⟩,fun h0 W6 hE6=>?_⟩
  ·have:=hD.at hlt
   rw[ei]
   exact this
  ·have:=hD.2.1
   omega
  ·have ek:Int.toNat ((s3.n:Int)-1)=ds.length-1:=by omega
   rw[show Int.toNat 0=0 from rfl,Sl.cut_zero,ek]
   exact⟨ds.take (ds.length-1),hE,hD.take (k:=ds.length-1) (by omega),fun d hm=>hdg d (List.mem_of_mem_take hm),(val_snoc0 hne (by exact_mod_cast h0)).trans hv,by simp;omega⟩
  ·rw[show Int.toNat 0=0 from rfl,Sl.cut_zero]
   show Int.toNat ((s3.n:Int)-1)<s3.n
   omega
  ·refine⟨s3,rfl,?_⟩
   have ht:Trim ds:=by
    unfold Trim
    rw[List.getLast?_eq_getElem?,List.getElem?_eq_getElem hlt]
    intro e
    apply h0
    have:=Option.some.inj e
    rw[this];rfl
   have:dg (val l)=ds:=by rw[←hv,dg_val hdg ht]
   show Digs 284 W6 s3 (dg (val l))
   rw[this]
   exact Row.ext hD hE6
 ·have:ds = []:=by
   have:ds.length=0:=by omega
   exact List.length_eq_zero_iff.1 this
  subst this
  refine⟨s3,rfl,?_⟩
  have:dg (val l) = []:=by rw[←hv];exact dg_zero
  show Digs 284 W7 s3 (dg (val l))
  rw[this]
  exact Row.ext hD hE7
theorem take_ge {l:List Nat} {k:Nat} (h:l.length≤k):l.take (k+1)=l.take k:=by
 rw[List.take_of_length_le h,List.take_of_length_le (by omega)]
theorem add_step {z xa xb c p da db:Nat} (h:z+p*c=xa+xb):z+p*((c+da+db)%B)+(p*B)*((c+da+db)/B)=xa+p*da+(xb+p*db):=by
 have:=Nat.mod_add_div (c+da+db) B
 have h2:p*((c+da+db)%B)+(p*B)*((c+da+db)/B)=p*(c+da+db):=by rw[←this];grind
 grind
def addI (a b:Nat) (W4:PW) (l:List PL) (W:PW):Prop:=
 match l with
 | [.val (.int .u64 c),.val (.int .i64 k),.row xs]=>Ext W4 W∧∃(c' k':Nat) (zs:List Nat),c=(c':Int)∧k=(k':Int)∧xs=cel zs∧k'≤nl a∧zs.length=nl a+1∧Dig zs∧
   val (zs.take k')+B^k'*c'=val ((dg a).take k')+val ((dg b).take k')∧c'≤1
 | _=>False
def addM (a:Nat) (l:List PL) (W:PW):Nat:=
 match l with
 | [_,.val (.int .i64 k),_]=>nl a-k.toNat
 | _=>0
def addJ (x y:Nat) (W0:PW) (l:List PL) (W:PW):Prop:=
 match l with
 | [.cells [.slice A n c],.cells [.slice A' n' c']]=>Ext W0 W∧∃a b,IsNat 284 W ⟨A,n,c⟩ a∧IsNat 284 W ⟨A',n',c'⟩ b∧a+b=x+y∧nl b≤nl a∧nl a≤549755813888
 | _=>False
theorem natAdd_ok {W0:PW} {M:Nat→Prop} {s t:Sl} {x y:Nat} (h1:IsNat 284 W0 s x) (h2:IsNat 284 W0 t y) (hx:nl x≤549755813888) (hy:nl y≤549755813888):
  PCallsM Go.Proofs.Tryz.prog 198 [.agg #[s.v],.agg #[t.v]] W0 M fun v W'=>∃s',v = .agg #[Sl.v s']∧IsNat 284 W' s' (x+y):=by
 apply callnat_Add
 have n1:=h1.n
 have n2:=h2.n
 refine⟨addJ x y W0,⟨fun h=>⟨Ext.refl _,y,x,h2,h1,by omega,by omega,hy⟩,fun h=>⟨Ext.refl _,x,y,h1,h2,rfl,by omega,hx⟩⟩,?_⟩
 rintro s2 s3 W4 ⟨hE,a,b,ha,hb,hab,hba,hal⟩
 have ha:IsNat 284 W4 s2 a:=ha
 have hb:IsNat 284 W4 s3 b:=hb
 have na:=ha.n
 have nb:=hb.n
 refine⟨by unfold I64;omega,⟨rfl,by omega,by omega⟩,addI a b W4,addM a,?_,?_⟩
 ·refine⟨Ext.refl _,0,0,List.replicate (nl a+1) 0,rfl,rfl,?_,by omega,by simp,fun d hd=>?_,by simp[val],by omega⟩
  ·rw[show Int.toNat ((s2.n:Int)+1)=nl a+1 by omega];exact cel_replicate _
  ·rw[(List.mem_replicate.1 hd).2];decide
 rintro l7 i8 i9 W10 ⟨hE10,c,k,zs,rfl,rfl,rfl,hk,hz,hdz,hv,hc⟩
 have ha':=ha.ext hE10
 have hb':=hb.ext hE10
 refine⟨fun hlt=>?_,fun hge=>?_⟩
 ·have hka:k<(dg a).length:=by have:(dg a).length=nl a:=rfl;omega
  have da:=dig_dg a _ (List.getElem_mem hka)
  refine⟨Digs.inB ha' (by omega) (by omega),((dg a)[k]:Nat),Digs.at ha' hka,fun hltb=>?_,fun hgeb=>?_⟩
  ·have hkb:k<(dg b).length:=by have:(dg b).length=nl b:=rfl;omega
   have db:=dig_dg b _ (List.getElem_mem hkb)
   have e:IntKind.wrap .u64 (IntKind.wrap .u64 ((c:Int)+IntKind.wrap .u64 ((dg a)[k]:Nat))+IntKind.wrap .u64 ((dg b)[k]:Nat))=((c+(dg a)[k]+(dg b)[k]:Nat):Int):=by
    unfold B at da db
    rw[wrap64 (z:=((dg a)[k]:Nat)) (by omega) (by omega),wrap64 (z:=((dg b)[k]:Nat)) (by omega) (by omega),wrap64 (z:=(c:Int)+_) (by omega) (by omega),wrap64 (by omega) (by omega)]
    push_cast;rfl
   refine⟨Digs.inB hb' (by omega) (by omega),((dg b)[k]:Nat),Digs.at hb' hkb,⟨by omega,by rw[cel_length];omega⟩,by rw[cel_length];omega,by unfold I64;omega,?_,?_⟩
   ·rw[e,ishr32,wrap32n,show Int.toNat (k:Int)=k from rfl,cel_set]
    refine⟨hE10,_,k+1,_,rfl,by push_cast;rfl,rfl,by omega,by simpa using hz,Dig.set hdz (Nat.mod_lt _ B_pos),?_,?_⟩
    ·rw[val_set_take (by omega),val_take_succ hka,val_take_succ hkb,Nat.pow_succ]
     exact add_step hv
    ·have:c+(dg a)[k]+(dg b)[k]<2*B:=by omega
     have:=(Nat.div_lt_iff_lt_mul B_pos).2 this
     omega
   ·show nl a-Int.toNat ((k:Int)+1)<nl a-Int.toNat (k:Int)
    omega
  ·have hkb:(dg b).length≤k:=by have:(dg b).length=nl b:=rfl;omega
   have e:IntKind.wrap .u64 ((c:Int)+IntKind.wrap .u64 ((dg a)[k]:Nat))=((c+(dg a)[k]+0:Nat):Int):=by
    unfold B at da
    rw[wrap64 (z:=((dg a)[k]:Nat)) (by omega) (by omega),wrap64 (by omega) (by omega)]
    push_cast;omega
   refine⟨⟨by omega,by rw[cel_length];omega⟩,by rw[cel_length];omega,by unfold I64;omega,?_,?_⟩
   ·rw[e,ishr32,wrap32n,show Int.toNat (k:Int)=k from rfl,cel_set]
    refine⟨hE10,_,k+1,_,rfl,by push_cast;rfl,rfl,by omega,by simpa using hz,Dig.set hdz (Nat.mod_lt _ B_pos),?_,?_⟩
    ·rw[val_set_take (by omega),val_take_succ hka,take_ge hkb,Nat.pow_succ]
     have:=add_step (da:=(dg a)[k]) (db:=0) hv
     simpa using this
    ·have:c+(dg a)[k]+0<2*B:=by omega
     have:=(Nat.div_lt_iff_lt_mul B_pos).2 this
     omega
   ·show nl a-Int.toNat ((k:Int)+1)<nl a-Int.toNat (k:Int)
    omega
 ·have hk':k=nl a:=by omega
  subst hk'
  refine⟨⟨by omega,by rw[cel_length];omega⟩,by rw[cel_length];omega,fun s13 W14 hE14 hO hnew=>?_⟩
  rw[wrap32n,show Int.toNat (s2.n:Int)=nl a by omega,cel_set] at hO
  have hc':c%B=c:=Nat.mod_eq_of_lt (by unfold B;omega)
  rw[hc'] at hO
  have hval:val (zs.set (nl a) c)=x+y:=by
   have:=val_set_take (zs:=zs) (k:=nl a) (d:=c) (by omega)
   rw[List.take_of_length_le (by simp;omega),hv,show List.take (nl a) (dg a)=dg a from List.take_of_length_le (Nat.le_refl _),show List.take (nl a) (dg b)=dg b from List.take_of_length_le hba,val_dg,val_dg] at this
   omega
  intro W' hEW
  refine⟨fun _=>False,_,natCut_ok (l:=zs.set (nl a) c) (Row.ext hO.row hEW) (Dig.set hdz (by unfold B;omega)) (by simp;omega),fun _ h=>h.elim,fun v W'' hE'' hP=>?_⟩
  obtain⟨s',rfl,hs⟩:=hP
  refine⟨s',rfl,fun W19 hE19=>⟨s',rfl,?_⟩⟩
  rw[hval] at hs
  exact hs.ext hE19
theorem natOf_ok {W0:PW} {M:Nat→Prop} {x:Nat} (hx:x<B*B):
  PCallsM Go.Proofs.Tryz.prog 201 [.int .u64 (x:Int)] W0 M fun v W'=>∃s',v = .agg #[Sl.v s']∧IsNat 284 W' s' x:=by
 apply callnat_Of
 intro s1 W2 hE2 hO hnew W' hE
 rw[ishr32,wrap32n,wrap32n] at hO
 have hO:Go.SX.Own W2 284 1 s1 (cel [x%B,x/B%B]):=hO
 have hb:x/B<B:=(Nat.div_lt_iff_lt_mul B_pos).2 hx
 rw[Nat.mod_eq_of_lt hb] at hO
 have hd:Dig [x%B,x/B]:=Dig.cons (Nat.mod_lt _ B_pos) (Dig.cons hb Dig.nil)
 refine⟨fun _=>False,_,natCut_ok (Row.ext hO.row hE) hd (by simp),fun _ h=>h.elim,fun v W'' hE'' hP=>?_⟩
 obtain⟨s',rfl,hs⟩:=hP
 refine⟨s',rfl,fun W7 hE7=>⟨s',rfl,?_⟩⟩
 have e:val [x%B,x/B]=x:=by simp only[val];have:=Nat.mod_add_div x B;omega
 rw[e] at hs
 exact hs.ext hE7
def mulI (a b:Nat) (W0:PW) (l:List PL) (W:PW):Prop:=
 match l with
 | [.val (.int .i64 k),.row xs]=>Ext W0 W∧∃(k':Nat) (zs:List Nat),k=(k':Int)∧xs=cel zs∧k'≤nl a∧zs.length=nl a+nl b∧Dig zs∧val (zs.take (k'+nl b))=val ((dg a).take k')*b
 | _=>False
def mulM (a:Nat) (l:List PL) (W:PW):Nat:=
 match l with
 | [.val (.int .i64 k),_]=>nl a-k.toNat
 | _=>0
def mulI2 (b k da:Nat) (zs:List Nat) (W5:PW) (l:List PL) (W:PW):Prop:=
 match l with
 | [.val (.int .u64 c),.val (.int .i64 j),.row xs]=>Ext W5 W∧∃(c' j':Nat) (ys:List Nat),c=(c':Int)∧j=(j':Int)∧xs=cel ys∧j'≤nl b∧ys.length=zs.length∧Dig ys∧c'<B∧
   val (ys.take (k+j'))+B^(k+j')*c'=val (zs.take (k+j'))+B^k*(da*val ((dg b).take j'))∧∀i,k+j'≤i→ys[i]?=zs[i]?
 | _=>False
def mulM2 (b:Nat) (l:List PL) (W:PW):Nat:=
 match l with
 | [_,.val (.int .i64 k),_]=>nl b-k.toNat
 | _=>0
theorem mul_lt {a b c d:Nat} (ha:a<B) (hb:b<B) (hc:c<B) (hd:d<B):c+(a*b+d)<B*B:=by
 have:a*b≤(B-1)*(B-1):=Nat.mul_le_mul (by omega) (by omega)
 unfold B at *
 omega
theorem mul_step {y z p q c da db vb d e:Nat} (h:y+p*q*c=z+p*(da*vb)) (hd:d=e):
  y+p*q*((c+(da*db+d))%B)+p*q*B*((c+(da*db+d))/B)=z+p*q*e+p*(da*(vb+q*db)):=by
 have:=Nat.mod_add_div (c+(da*db+d)) B
 have h2:p*q*((c+(da*db+d))%B)+(p*q*B)*((c+(da*db+d))/B)=p*q*(c+(da*db+d)):=by
  conv=>rhs;rw[←this]
  grind
 subst hd
 grind
theorem natMul_ok {W0:PW} {M:Nat→Prop} {s t:Sl} {a b:Nat} (ha:IsNat 284 W0 s a) (hb:IsNat 284 W0 t b) (hx:nl a≤274877906944) (hy:nl b≤274877906944):
  PCallsM Go.Proofs.Tryz.prog 125 [.agg #[s.v],.agg #[t.v]] W0 M fun v W'=>∃s',v = .agg #[Sl.v s']∧IsNat 284 W' s' (a*b):=by
 apply callnat_Mul
 have na:=ha.n
 have nb:=hb.n
 have la:(dg a).length=nl a:=rfl
 have lb:(dg b).length=nl b:=rfl
 refine⟨by unfold I64;omega,⟨rfl,by omega,by omega⟩,mulI a b W0,mulM a,?_,?_⟩
 ·refine⟨Ext.refl _,0,List.replicate (nl a+nl b) 0,rfl,?_,by omega,by simp,fun d hd=>?_,?_⟩
  ·rw[show Int.toNat ((s.n:Int)+(t.n:Int))=nl a+nl b by omega];exact cel_replicate _
  ·rw[(List.mem_replicate.1 hd).2];decide
  ·rw[List.take_replicate,val_replicate];simp[val]
 rintro l3 i4 W5 ⟨hE5,k,zs,rfl,rfl,hk,hz,hdz,hv⟩
 refine⟨fun hlt=>?_,fun hge=>?_⟩
 ·have hka:k<(dg a).length:=by omega
  have da:=dig_dg a _ (List.getElem_mem hka)
  refine⟨Digs.inB (ha.ext hE5) (by omega) (by omega),((dg a)[k]:Nat),Digs.at (ha.ext hE5) hka,mulI2 b k (dg a)[k] zs W5,mulM2 b,?_,?_⟩
  ·exact⟨Ext.refl _,0,0,zs,rfl,rfl,rfl,by omega,rfl,hdz,B_pos,by simp[val],fun _ _=>rfl⟩
  rintro l9 i10 i11 W12 ⟨hE12,c,j,ys,rfl,rfl,rfl,hj,hyl,hdy,hc,hw,hsame⟩
  have hE':=hE5.trans hE12
  refine⟨fun hltb=>?_,fun hgeb=>?_⟩
  ·have hkb:j<(dg b).length:=by omega
   have db:=dig_dg b _ (List.getElem_mem hkb)
   have hkj:k+j<ys.length:=by omega
   have dy:=hdy _ (List.getElem_mem hkj)
   have et:Int.toNat ((k:Int)+(j:Int))=k+j:=by omega
   have hm:=mul_lt da db hc dy
   have e:IntKind.wrap .u64 ((c:Int)+IntKind.wrap .u64 (IntKind.wrap .u64 (IntKind.wrap .u64 ((dg a)[k]:Nat)*IntKind.wrap .u64 ((dg b)[j]:Nat))+IntKind.wrap .u64 ((ys[k+j]:Nat):Int)))=((c+((dg a)[k]*(dg b)[j]+ys[k+j]):Nat):Int):=by
    have hp:((dg a)[k]*(dg b)[j]:Nat)≤c+((dg a)[k]*(dg b)[j]+ys[k+j]):=by omega
    unfold B at da db dy hm hc
    rw[wrap64 (z:=((dg a)[k]:Nat)) (by omega) (by omega),wrap64 (z:=((dg b)[j]:Nat)) (by omega) (by omega),wrap64 (z:=((ys[k+j]:Nat):Int)) (by omega) (by omega),←Int.natCast_mul,wrap64 (z:=(((dg a)[k]*(dg b)[j]:Nat):Int)) (by omega) (by omega),
     wrap64 (z:=_+((ys[k+j]:Nat):Int)) (by omega) (by omega),wrap64 (by omega) (by omega)]
    push_cast;rfl
   refine⟨Digs.inB (hb.ext hE') (by omega) (by omega),((dg b)[j]:Nat),Digs.at (hb.ext hE') hkb,by unfold I64;omega,⟨by omega,by rw[cel_length];omega⟩,((ys[k+j]:Nat):Int),?_,by unfold I64;omega,⟨by omega,by rw[cel_length];omega⟩,by rw[cel_length];omega,by unfold I64;omega,?_,?_⟩
   ·rw[et];exact⟨_,cel_get hkj,by simp⟩
   ·rw[e,ishr32,wrap32n,et,cel_set]
    refine⟨hE12,_,j+1,_,rfl,by push_cast;rfl,rfl,by omega,by simpa using hyl,Dig.set hdy (Nat.mod_lt _ B_pos),(Nat.div_lt_iff_lt_mul B_pos).2 hm,?_,fun i hi=>?_⟩
    ·rw[←Nat.add_assoc,val_set_take hkj,val_take_succ (l:=zs) (by omega),val_take_succ hkb,Nat.pow_succ,Nat.pow_add]
     rw[Nat.pow_add] at hw
     refine mul_step hw ?_
     have:=hsame (k+j) (Nat.le_refl _)
     rw[List.getElem?_eq_getElem hkj,List.getElem?_eq_getElem (by omega)] at this
     exact Option.some.inj this
    ·rw[List.getElem?_set_ne (by omega)]
     exact hsame i (by omega)
   ·show nl b-Int.toNat ((j:Int)+1)<nl b-Int.toNat (j:Int)
    omega
  ·have hj':j=nl b:=by omega
   subst hj'
   have et:Int.toNat ((k:Int)+(t.n:Int))=k+nl b:=by omega
   refine⟨by unfold I64;omega,⟨by omega,by rw[cel_length];omega⟩,by rw[cel_length];omega,by unfold I64;omega,?_,?_⟩
   ·rw[et,wrap32n,Nat.mod_eq_of_lt hc,cel_set]
    refine⟨hE',k+1,_,by push_cast;rfl,rfl,by omega,by simp;omega,Dig.set hdy hc,?_⟩
    rw[show k+1+nl b=k+nl b+1 by omega,val_set_take (by omega),hw,hv,val_take_succ hka,show List.take (nl b) (dg b)=dg b from List.take_of_length_le (Nat.le_refl _),val_dg]
    grind
   ·show nl a-Int.toNat ((k:Int)+1)<nl a-Int.toNat (k:Int)
    omega
 ·have hk':k=nl a:=by omega
  subst hk'
  intro s15 W16 hE16 hO hnew W' hEW
  have hval:val zs=a*b:=by
   rw[List.take_of_length_le (by omega)] at hv
   rw[hv,show List.take (nl a) (dg a)=dg a from List.take_of_length_le (Nat.le_refl _),val_dg]
  refine⟨fun _=>False,_,natCut_ok (Row.ext hO.row hEW) hdz (by omega),fun _ h=>h.elim,fun v W'' hE'' hP=>?_⟩
  obtain⟨s',rfl,hs⟩:=hP
  refine⟨s',rfl,fun W19 hE19=>⟨s',rfl,?_⟩⟩
  rw[hval] at hs
  exact hs.ext hE19
theorem ob_same {s:Sl} {k g:Nat} (h:(Sl.v ⟨s.A,k,s.c⟩).ownBlock=some g):s.v.ownBlock=some g:=by
 simp only[Sl.v] at h⊢
 cases hA:s.A<;>simp[hA,Value.ownBlock] at h⊢
 exact h
theorem natCutOwn_ok {W0:PW} {M:Nat→Prop} {s:Sl} {l:List Nat} (h:Go.SX.Own W0 284 1 s (cel l)) (hd:Dig l) (hl:l.length≤2^40):
  PCallsM Go.Proofs.Tryz.prog 200 [s.v] W0 M fun v W'=>∃s',v = .agg #[Sl.v s']∧Go.SX.Own W' 284 1 s' (cel (dg (val l)))∧∀g,s'.v.ownBlock=some g→s.v.ownBlock=some g:=by
 apply callnat_cut
 refine⟨fun l' W=>match l' with | [.val (.slice A n c)]=>(∃ds,Ext W0 W∧Go.SX.Own W 284 1 ⟨A,n,c⟩ (cel ds)∧(∀g,(Sl.v ⟨A,n,c⟩).ownBlock=some g→s.v.ownBlock=some g)∧Dig ds∧val ds=val l∧ds.length≤l.length) | _=>False,
  fun l' _=>match l' with | [.val (.slice _ n _)]=>n | _=>0,⟨l,Ext.refl _,h,fun _ hg=>hg,hd,rfl,Nat.le_refl _⟩,?_⟩
 rintro s3 W4 ⟨ds,hE,hO,hob,hdg,hv,hle⟩
 have hO:Go.SX.Own W4 284 1 s3 (cel ds):=hO
 have hob: ∀g,s3.v.ownBlock=some g→s.v.ownBlock=some g:=hob
 have hD:Digs 284 W4 s3 ds:=hO.row
 have hn:=hD.n
 refine⟨fun hpos=>?_,fun hz=>fun W7 hE7=>?_⟩
 ·rw[hn] at hpos
  have hne:ds≠[]:=fun e=>by subst e;simp at hpos
  have hlt:ds.length-1<ds.length:=by omega
  have ei:((s3.n:Int)-1)=((ds.length-1:Nat):Int):=by rw[hn];omega
  have hI:I64 ((s3.n:Int)-1):=by unfold I64;omega
  refine⟨hI,hD.inB (by omega) (by omega),(ds[ds.length-1]:Nat),?_,fun h0=>⟨hI,⟨by omega,by omega,?_⟩,?_,?_⟩,fun h0 W6 hE6=>?_⟩
  ·have:=hD.at hlt
   rw[ei]
   exact this
  ·have:=hD.2.1
   omega
  ·have ek:Int.toNat ((s3.n:Int)-1)=ds.length-1:=by omega
   rw[show Int.toNat 0=0 from rfl,Sl.cut_zero,ek]
   exact⟨ds.take (ds.length-1),hE,by rw[←cel_take];exact hO.take (k:=ds.length-1) (by rw[cel_length];omega),fun g hg=>hob g (ob_same hg),fun d hm=>hdg d (List.mem_of_mem_take hm),(val_snoc0 hne (by exact_mod_cast h0)).trans hv,by simp;omega⟩
  ·rw[show Int.toNat 0=0 from rfl,Sl.cut_zero]
   show Int.toNat ((s3.n:Int)-1)<s3.n
   omega
  ·refine⟨s3,rfl,?_,hob⟩
   have ht:Trim ds:=by
    unfold Trim
    rw[List.getLast?_eq_getElem?,List.getElem?_eq_getElem hlt]
    intro e
    apply h0
    have:=Option.some.inj e
    rw[this];rfl
   have:dg (val l)=ds:=by rw[←hv,dg_val hdg ht]
   rw[this]
   exact hO.extN hE6
 ·have:ds = []:=by
   have:ds.length=0:=by omega
   exact List.length_eq_zero_iff.1 this
  subst this
  refine⟨s3,rfl,?_,hob⟩
  have:dg (val l) = []:=by rw[←hv];exact dg_zero
  rw[this]
  exact hO.extN hE7
theorem clone_ok {W0:PW} {M:Nat→Prop} {s:Sl} {l:List Nat} (h:Digs 284 W0 s l) (hl:l.length≤1099511627776):
  PCallsM Go.Proofs.Tryz.prog 214 [s.v] W0 M fun v W'=>∃s':Sl,v=s'.v∧Go.SX.Own W' 284 1 s' (cel l)∧∀g,s'.v.ownBlock=some g→W0.w.heap.size≤g:=by
 apply callslices_Clone_uint32_uint32
 refine⟨fun h0 W1 hE=>?_,fun h0=>⟨cel l,⟨_,h⟩,by rw[cel_length];omega,fun s3 W4 hE hO hnew W6 hE6=>⟨s3,rfl,hO.extN hE6,fun g hg=>(hnew g hg).1⟩⟩⟩
 have:cel l = []:=by
  obtain⟨_,_,_,_,h4⟩:=h
  rcases h4 with h4 | ⟨b,o,cs,fz,hA,_⟩
  ·exact h4
  ·rw[hA] at h0;cases h0
 rw[this]
 exact⟨⟨none,0,0⟩,rfl,⟨⟨by simp,World.ownsRow_nil _ 0 284 1⟩,fun g hg=>by simp[Sl.v,Value.ownBlock] at hg⟩,fun g hg=>by simp[Sl.v,Value.ownBlock] at hg⟩
end Go.Proofs.YtjkkidjbppphpaaGreatDoor

/- nat: calls by contract; binary digits; shifts. -/
set_option maxRecDepth 100000
set_option linter.unusedVariables false
set_option linter.unusedSimpArgs false
namespace Go.Proofs.YtjkkidjbppphpaaGreatDoor
open Go Go.SX
theorem natCut_call {W0 W:PW} {M:Nat→Prop} {s:Sl} {l:List Nat} {K:Value→PW→Prop} (h:Digs 284 W s l) (hd:Dig l) (hl:l.length≤2^40) (kont: ∀(s':Sl) (W':PW),Ext W W'→(IsNat 284 W' s' (val l))→K (.agg #[Sl.v s']) W'):
  callN Go.Proofs.Tryz.prog W0 M 200 [s.v] W K:=
 callN_of (fun W' hE=>natCut_ok (M:=fun _=>False) (h.ext hE) hd hl) (fun W' v W'' hE hE' hP=>by
  obtain⟨s',rfl,h⟩:=hP
  exact kont s' W'' (hE.trans hE') h)
theorem natCutOwn_call {W0 W:PW} {M:Nat→Prop} {s:Sl} {l:List Nat} {K:Value→PW→Prop} (h:Go.SX.Own W 284 1 s (cel l)) (hd:Dig l) (hl:l.length≤2^40) (kont: ∀(s':Sl) (W':PW),Ext W W'→(Go.SX.Own W' 284 1 s' (cel (dg (val l)))∧∀g,s'.v.ownBlock=some g→s.v.ownBlock=some g)→K (.agg #[Sl.v s']) W'):
  callN Go.Proofs.Tryz.prog W0 M 200 [s.v] W K:=
 callN_of (fun W' hE=>natCutOwn_ok (M:=fun _=>False) (h.ext hE) hd hl) (fun W' v W'' hE hE' hP=>by
  obtain⟨s',rfl,h⟩:=hP
  exact kont s' W'' (hE.trans hE') h)
theorem natOf_call {W0 W:PW} {M:Nat→Prop} {x:Nat} {K:Value→PW→Prop} (hx:x<B*B) (kont: ∀(s':Sl) (W':PW),Ext W W'→(IsNat 284 W' s' x)→K (.agg #[Sl.v s']) W'):
  callN Go.Proofs.Tryz.prog W0 M 201 [.int .u64 (x:Int)] W K:=
 callN_of (fun W' hE=>natOf_ok (M:=fun _=>False) hx) (fun W' v W'' hE hE' hP=>by
  obtain⟨s',rfl,h⟩:=hP
  exact kont s' W'' (hE.trans hE') h)
theorem natAdd_call {W0 W:PW} {M:Nat→Prop} {s t:Sl} {x y:Nat} {K:Value→PW→Prop} (h1:IsNat 284 W s x) (h2:IsNat 284 W t y) (hx:nl x≤549755813888) (hy:nl y≤549755813888) (kont: ∀(s':Sl) (W':PW),Ext W W'→(IsNat 284 W' s' (x+y))→K (.agg #[Sl.v s']) W'):
  callN Go.Proofs.Tryz.prog W0 M 198 [.agg #[s.v],.agg #[t.v]] W K:=
 callN_of (fun W' hE=>natAdd_ok (M:=fun _=>False) (h1.ext hE) (h2.ext hE) hx hy) (fun W' v W'' hE hE' hP=>by
  obtain⟨s',rfl,h⟩:=hP
  exact kont s' W'' (hE.trans hE') h)
theorem natMul_call {W0 W:PW} {M:Nat→Prop} {s t:Sl} {x y:Nat} {K:Value→PW→Prop} (h1:IsNat 284 W s x) (h2:IsNat 284 W t y) (hx:nl x≤274877906944) (hy:nl y≤274877906944) (kont: ∀(s':Sl) (W':PW),Ext W W'→(IsNat 284 W' s' (x*y))→K (.agg #[Sl.v s']) W'):
  callN Go.Proofs.Tryz.prog W0 M 125 [.agg #[s.v],.agg #[t.v]] W K:=
 callN_of (fun W' hE=>natMul_ok (M:=fun _=>False) (h1.ext hE) (h2.ext hE) hx hy) (fun W' v W'' hE hE' hP=>by
  obtain⟨s',rfl,h⟩:=hP
  exact kont s' W'' (hE.trans hE') h)
theorem len8: ∀i:Nat,i<256→sbyte tabLen8 i=(blen i:Int):=by
 have: ∀i:Fin 256,sbyte tabLen8 i.val=(blen i.val:Int):=by decide +kernel
 exact fun i hi=>this ⟨i,hi⟩
theorem wrap8n {n:Nat} (h:n<256):IntKind.wrap .u8 (n:Int)=(n:Int):=by
 rw[IntKind.wrap_u8'];omega
theorem len32_ok {W0:PW} {M:Nat→Prop} {x:Nat} (hx:x<B):
  PCallsM Go.Proofs.Tryz.prog 213 [.int .u32 (x:Int)] W0 M fun v W'=>v = .int .i64 ((blen x:Nat):Int)∧True:=by
 apply callmath_bits_Len32
 unfold B at hx
 have hsz:tabLen8.size=256:=rfl
 have fin: ∀(y n:Nat) (z:Int),y<256→(2^n≤x∨n=0)→y=x/2^n→z=(n:Int)→I64 (sbyte tabLen8 y)∧I64 (z+sbyte tabLen8 y)∧∀W1,Ext W0 W1→Value.int .i64 (z+sbyte tabLen8 y)=Value.int .i64 ((blen x:Nat):Int)∧True:=fun y n z hy hn e hz=>by
  have hb:=blen_le (x:=y) (n:=8) (by omega)
  have h:blen x=n+blen y:=by
   rcases hn with hn | hn
   ·rw[blen_shift n hn,e]
   ·subst hn;rw[e];simp
  have hx32:=blen_le (x:=x) (n:=32) (by omega)
  rw[len8 y hy,hz]
  refine⟨by unfold I64;omega,by unfold I64;omega,fun W1 hE=>⟨?_,trivial⟩⟩
  rw[h];simp
 have e16:ishr (x:Int) 16=((x/65536:Nat):Int):=ishr_nat x 16
 have e24:ishr ((x/65536:Nat):Int) 8=((x/16777216:Nat):Int):=by
  rw[ishr_nat,show x/65536/2^8=x/16777216 by omega]
 have e8:ishr (x:Int) 8=((x/256:Nat):Int):=ishr_nat x 8
 unfold Rmath_bits_Len32
 simp only[e16,e24,e8,hsz]
 refine⟨fun h1=>⟨fun h2=>?_,fun h2=>?_⟩,fun h1=>⟨fun h2=>?_,fun h2=>?_⟩⟩
 ·have hy:x/16777216<256:=by omega
  rw[wrap8n hy]
  exact⟨by unfold I64;omega,⟨by omega,by omega⟩,fin (x/16777216) 24 _ hy (.inl (by omega)) rfl rfl⟩
 ·have hy:x/65536<256:=by omega
  rw[wrap8n hy]
  exact⟨⟨by omega,by omega⟩,fin (x/65536) 16 _ hy (.inl (by omega)) rfl rfl⟩
 ·have hy:x/256<256:=by omega
  rw[wrap8n hy]
  exact⟨by unfold I64;omega,⟨by omega,by omega⟩,fin (x/256) 8 _ hy (.inl (by omega)) rfl rfl⟩
 ·have hy:x<256:=by omega
  rw[wrap8n hy]
  exact⟨⟨by omega,by omega⟩,fin x 0 _ hy (.inr rfl) (by simp) rfl⟩
theorem len32_call {W0 W:PW} {M:Nat→Prop} {x:Nat} {K:Value→PW→Prop} (hx:x<B) (kont: ∀(W':PW),Ext W W'→(True)→K (.int .i64 ((blen x:Nat):Int)) W'):
  callN Go.Proofs.Tryz.prog W0 M 213 [.int .u32 (x:Int)] W K:=
 callN_of (fun W' hE=>len32_ok (M:=fun _=>False) hx) (fun W' v W'' hE hE' hP=>by
  obtain⟨rfl,h⟩:=hP
  exact kont W'' (hE.trans hE') h)
end Go.Proofs.YtjkkidjbppphpaaGreatDoor

/- nat: Bits, shifts. -/
set_option maxRecDepth 100000
set_option linter.unusedVariables false
set_option linter.unusedSimpArgs false
namespace Go.Proofs.YtjkkidjbppphpaaGreatDoor
open Go Go.SX
theorem natBits_ok {W0:PW} {M:Nat→Prop} {s:Sl} {x:Nat} (h:IsNat 284 W0 s x) (hx:nl x≤274877906944):
  PCallsM Go.Proofs.Tryz.prog 157 [.agg #[s.v]] W0 M fun v W'=>v = .int .i64 ((blen x:Nat):Int)∧True:=by
 apply callnat_Nat_Bits
 have hn:=h.n
 refine⟨fun h0 W1 hE=>⟨?_,trivial⟩,fun h0=>?_⟩
 ·have:x=0:=nl_eq_zero.1 (by omega)
  subst this;rfl
 ·have hx0:x≠0:=fun e=>h0 (by rw[hn,e,nl_zero];rfl)
  obtain⟨hk,ht,htB,hv⟩:=dg_top hx0
  have hl:(dg x).length=nl x:=rfl
  have e:((s.n:Int)-1)=((nl x-1:Nat):Int):=by omega
  have hb:=blen_val (val_take_lt (dig_dg x) (nl x-1)) ht
  rw[←hv] at hb
  have hb32:=blen_le (x:=(dg x)[nl x-1]) (n:=32) (by unfold B at htB;omega)
  rw[e]
  refine⟨by unfold I64;omega,by unfold I64;omega,by unfold I64;omega,Digs.inB h (by omega) (by omega),_,Digs.at h hk,?_⟩
  refine len32_call htB fun W4 hE4 _=>⟨_,rfl,by unfold I64;omega,fun W6 hE6=>⟨?_,trivial⟩⟩
  rw[hb];push_cast;rfl
theorem natBits_call {W0 W:PW} {M:Nat→Prop} {s:Sl} {x:Nat} {K:Value→PW→Prop} (h:IsNat 284 W s x) (hx:nl x≤274877906944) (kont: ∀(W':PW),Ext W W'→(True)→K (.int .i64 ((blen x:Nat):Int)) W'):
  callN Go.Proofs.Tryz.prog W0 M 157 [.agg #[s.v]] W K:=
 callN_of (fun W' hE=>natBits_ok (M:=fun _=>False) (h.ext hE) hx) (fun W' v W'' hE hE' hP=>by
  obtain⟨rfl,h⟩:=hP
  exact kont W'' (hE.trans hE') h)
theorem lead32_ok {W0:PW} {M:Nat→Prop} {x:Nat} (hx:x<B):
  PCallsM Go.Proofs.Tryz.prog 236 [.int .u32 (x:Int)] W0 M fun v W'=>v = .int .i64 ((32-blen x:Nat):Int)∧True:=by
 apply callmath_bits_LeadingZeros32
 have hb:=blen_le (x:=x) (n:=32) (by unfold B at hx;omega)
 refine len32_call hx fun W4 hE4 _=>⟨_,rfl,by unfold I64;omega,fun W6 hE6=>⟨?_,trivial⟩⟩
 congr 1
 omega
theorem lead32_call {W0 W:PW} {M:Nat→Prop} {x:Nat} {K:Value→PW→Prop} (hx:x<B) (kont: ∀(W':PW),Ext W W'→(True)→K (.int .i64 ((32-blen x:Nat):Int)) W'):
  callN Go.Proofs.Tryz.prog W0 M 236 [.int .u32 (x:Int)] W K:=
 callN_of (fun W' hE=>lead32_ok (M:=fun _=>False) hx) (fun W' v W'' hE hE' hP=>by
  obtain⟨rfl,h⟩:=hP
  exact kont W'' (hE.trans hE') h)
end Go.Proofs.YtjkkidjbppphpaaGreatDoor

/- nat: Shl, Shr. -/
set_option maxRecDepth 100000
set_option linter.unusedVariables false
set_option linter.unusedSimpArgs false
namespace Go.Proofs.YtjkkidjbppphpaaGreatDoor
open Go Go.SX
def shlI (x N sh:Nat) (W0:PW) (l:List PL) (W:PW):Prop:=
 match l with
 | [.val (.int .i64 k),.row xs]=>Ext W0 W∧∃(k':Nat) (zs:List Nat),k=(k':Int)∧xs=cel zs∧k'≤nl x∧zs.length=nl x+N+1∧Dig zs∧
   val zs=B^N*2^sh*val ((dg x).take k')∧(∀j (h:j<zs.length),N+k'<j→zs[j]=0)∧(∀(h:N+k'<zs.length),zs[N+k']<2^sh)
 | _=>False
def shlM (x:Nat) (l:List PL) (W:PW):Nat:=
 match l with
 | [.val (.int .i64 k),_]=>nl x-k.toNat
 | _=>0
theorem shl_lo {v sh:Nat} (hs:sh<32):(v*2^sh)%B%2^sh=0:=by
 have:B=2^sh*2^(32-sh):=by rw[←Nat.pow_add,show sh+(32-sh)=32 by omega];rfl
 rw[this,Nat.mod_mul_right_mod]
 exact Nat.mul_mod_left ..
theorem pow_sh {sh:Nat} (hs:sh<32):2^sh≤2147483648:=by
 have:=Nat.pow_le_pow_right (by decide:0<2) (show sh≤31 by omega)
 exact this
theorem natShl_ok {W0:PW} {M:Nat→Prop} {s:Sl} {x k:Nat} (h:IsNat 284 W0 s x) (hx:nl x≤274877906944) (hk:k≤1048576):
  PCallsM Go.Proofs.Tryz.prog 237 [.agg #[s.v],.int .i64 (k:Int)] W0 M fun v W'=>∃(s':Sl),v = .agg #[Sl.v s']∧Fresh W0 s'∧Go.SX.Own W' 284 1 s' (cel (dg (x*2^k))):=by
 apply callnat_Shl
 have hn:=h.n
 have hl:(dg x).length=nl x:=rfl
 unfold Rnat_Shl
 simp only[clamp hk,tdiv32 (show k≤1099511627776 by omega),tmod32]
 obtain⟨N,hN⟩: ∃N,k/32=N:=⟨_,rfl⟩
 obtain⟨sh,hsh⟩: ∃sh,k%32=sh:=⟨_,rfl⟩
 have hs32:sh<32:=by omega
 have hN2:N≤32768:=by omega
 have hkk:k=32*N+sh:=by omega
 rw[hN,hsh]
 have hpw:=pow_sh hs32
 refine⟨by decide,by unfold I64;omega,by unfold I64;omega,⟨trivial,by omega,by omega⟩,shlI x N sh W0,shlM x,?_,?_⟩
 ·refine⟨Ext.refl _,0,List.replicate (nl x+N+1) 0,rfl,?_,by omega,by simp,fun d hd=>?_,by simp[val,val_replicate],fun j hj _=>by simp,fun hj=>by simp;exact Nat.two_pow_pos sh⟩
  ·rw[show Int.toNat ((s.n:Int)+(N:Int)+1)=nl x+N+1 by omega];exact cel_replicate _
  ·rw[(List.mem_replicate.1 hd).2];decide
 rintro l3 i4 W5 ⟨hE5,i,zs,rfl,rfl,hi,hz,hdz,hv,h0,hp⟩
 have h5:=h.ext hE5
 refine⟨fun hlt=>?_,fun hge s8 W9 hE9 hO hf=>?_⟩
 ·have hia:i<(dg x).length:=by omega
  have hxB:=(dig_dg x).at hia
  obtain⟨d,hd⟩: ∃d,(dg x)[i]=d:=⟨_,rfl⟩
  have hiz:N+i<zs.length:=by omega
  have hiz1:N+i+1<zs.length:=by omega
  have hpi:=hp hiz
  obtain⟨p,hpp⟩: ∃p,zs[N+i]=p:=⟨_,rfl⟩
  have hmul:d*2^sh<18446744073709551616:=by
   rw[hd] at hxB
   have:=Nat.mul_le_mul (Nat.le_of_lt hxB) hpw
   unfold B at this
   omega
  have ed:IntKind.wrap .u64 ((d:Nat):Int)=(d:Int):=wrap64n (by rw[hd] at hxB;unfold B at hxB;omega)
  have ei:(i:Int)+(N:Int)=((N+i:Nat):Int):=by omega
  have lo:=shl_lo (v:=d) hs32
  have hloB:(d*2^sh)%B<B:=Nat.mod_lt _ B_pos
  have hjoin:p+(d*2^sh)%B<B:=by
   have e1:B=2^sh*2^(32-sh):=by rw[←Nat.pow_add,show sh+(32-sh)=32 by omega];rfl
   have e2:=Nat.mod_add_div ((d*2^sh)%B) (2^sh)
   rw[lo,Nat.zero_add] at e2
   rw[hpp] at hpi
   generalize (d*2^sh)%B/2^sh=q at e2
   have:q<2^(32-sh):=by
    apply Nat.lt_of_mul_lt_mul_left (a:=2^sh)
    rw[e2,←e1];exact hloB
   have:=Nat.mul_le_mul_left (2^sh) (show q+1≤2^(32-sh) from this)
   rw[Nat.mul_add,e2,←e1] at this
   omega
  have hhi:d*2^sh/B<2^sh:=by
   rw[Nat.div_lt_iff_lt_mul B_pos,Nat.mul_comm]
   rw[hd] at hxB
   exact Nat.mul_lt_mul_of_pos_left hxB (Nat.two_pow_pos sh)
  have hhiB:d*2^sh/B<B:=by unfold B at *;omega
  have eor:bits .or .u32 (p:Int) (((d*2^sh%B:Nat)):Int)=((p+d*2^sh%B:Nat):Int):=by
   rw[u32_or_nat _ _ (by unfold B at *;omega) (by unfold B at *;omega),Nat.or_comm,nat_join sh _ _ lo (by rw[←hpp];exact hpi),Nat.add_comm]
  have hset:List.length (List.set (cel zs) (N+i) [Value.int .u32 ((p+d*2^sh%B:Nat):Int)])=zs.length:=by simp[cel_length]
  refine⟨Digs.inB h5 (by omega) (by omega),(d:Int),by rw[←hd];exact Digs.at h5 hia,by decide,⟨by omega,by show(sh:Int)≤64;omega⟩,by decide,by unfold I64;omega,⟨by omega,by rw[cel_length];omega⟩,(p:Int),?_⟩
  rw[ei,show Int.toNat ((N+i:Nat):Int)=N+i from rfl,show Int.toNat ((sh:Nat):Int)=sh from rfl,ed,ishl64 hmul,ishr32,wrap32n,wrap32n,eor,Nat.mod_eq_of_lt hhiB,hset]
  refine⟨⟨_,cel_get hiz,by rw[hpp];rfl⟩,⟨by omega,by rw[cel_length];omega⟩,by rw[cel_length];omega,by decide,by unfold I64;omega,by unfold I64;omega,⟨by omega,by omega⟩,by omega,by unfold I64;omega,?_,?_⟩
  ·rw[cel_set,show Int.toNat (((N+i:Nat):Int)+1)=N+i+1 by omega,cel_set]
   refine⟨hE5,i+1,_,by push_cast;rfl,rfl,by omega,by simpa using hz,(hdz.set hjoin).set hhiB,?_,fun j hj hlt=>?_,fun hj=>?_⟩
   ·have e1:=val_set zs (k:=N+i) (p+d*2^sh%B) hiz
    have e2:=val_set (zs.set (N+i) (p+d*2^sh%B)) (k:=N+i+1) (d*2^sh/B) (by simpa using hiz1)
    have e3:(zs.set (N+i) (p+d*2^sh%B))[N+i+1]'(by simpa using hiz1)=0:=by
     rw[List.getElem_set_ne (by omega)];exact h0 _ hiz1 (by omega)
    rw[e3] at e2
    rw[hpp] at e1
    rw[val_take_succ hia,hd]
    have e4:=Nat.mod_add_div (d*2^sh) B
    rw[Nat.mul_zero,Nat.add_zero,Nat.pow_succ] at e2
    rw[e2]
    have e5:B^N*2^sh*(val ((dg x).take i)+B^i*d)=val zs+B^(N+i)*(d*2^sh):=by
     rw[hv,Nat.pow_add]
     generalize B^N=a
     generalize B^i=b
     generalize 2^sh=c
     grind
    have e6:B^(N+i)*(d*2^sh)=B^(N+i)*(d*2^sh%B)+B^(N+i)*B*(d*2^sh/B):=by
     conv=>lhs;rw[←e4]
     rw[Nat.mul_add,Nat.mul_assoc]
    rw[e5,e6]
    generalize d*2^sh%B=z1 at *
    generalize d*2^sh/B=z2 at *
    generalize B^(N+i)=bb at *
    have:bb*(p+z1)=bb*p+bb*z1:=Nat.mul_add ..
    omega
   ·rw[List.getElem_set_ne (by omega),List.getElem_set_ne (by omega)]
    exact h0 j (by simpa using hj) (by omega)
   ·simp only[show N+(i+1)=N+i+1 by omega]
    rw[List.getElem_set_self]
    exact hhi
  ·show nl x-Int.toNat ((i:Int)+1)<nl x-Int.toNat (i:Int)
   omega
 ·have:i=nl x:=by omega
  subst this
  have e:val zs=x*2^k:=by
   rw[hv,←hl,List.take_length,val_dg,B_pow,←Nat.pow_add,←hkk,Nat.mul_comm]
  refine natCutOwn_call hO hdz (by omega) fun s' W12 hE12 ⟨h1,h2⟩=>⟨s',rfl,fun W14 hE14=>⟨s',rfl,fun g hg=>(hf g (h2 g hg)).1,?_⟩⟩
  rw[e] at h1
  exact h1.ext hE14
theorem natShl_call {W0 W:PW} {M:Nat→Prop} {s:Sl} {x k:Nat} {K:Value→PW→Prop} (h:IsNat 284 W s x) (hx:nl x≤274877906944) (hk:k≤1048576) (kont: ∀(s':Sl) (W':PW),Ext W W'→(Fresh W s'∧Go.SX.Own W' 284 1 s' (cel (dg (x*2^k))))→K (.agg #[Sl.v s']) W'):
  callN Go.Proofs.Tryz.prog W0 M 237 [.agg #[s.v],.int .i64 (k:Int)] W K:=
 callN_of (fun W' hE=>natShl_ok (M:=fun _=>False) (h.ext hE) hx hk) (fun W' v W'' hE hE' hP=>by
  obtain⟨s',rfl,hf,h⟩:=hP
  exact kont s' W'' (hE.trans hE') ⟨hf.back hE,h⟩)
end Go.Proofs.YtjkkidjbppphpaaGreatDoor
