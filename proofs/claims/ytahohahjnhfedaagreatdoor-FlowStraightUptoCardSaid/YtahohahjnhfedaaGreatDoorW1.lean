/- nat: cut, Of, Add, Mul; a clone of limbs. -/
import Derived.Test.YtahohahjnhfedaaGreatDoorR1
import Derived.Test.YtahohahjnhfedaaGreatDoorLib1
import Derived.Test.YtahohahjnhfedaaGreatDoorR2
set_option linter.unusedVariables false
set_option linter.unusedSimpArgs false
set_option maxRecDepth 100000
namespace Go.Proofs.YtahohahjnhfedaaGreatDoor
open Go Go.SX
theorem Cp8 {l:List Nat} (h:l≠[]) (h0:l[l.length-1]'(by have:=List.length_pos_iff.2 h;omega)=0):val (l.take (l.length-1))=val l:=by
 have e:l=l.take (l.length-1) ++ [0]:=by
  have:=List.dropLast_concat_getLast h
  rw[List.getLast_eq_getElem,h0,List.dropLast_eq_take] at this
  exact this.symm
 conv=>rhs;rw[e,Ag8]
 simp[val]
theorem Bd1 {W0:PW} {M:Nat→Prop} {s:Sl} {l:List Nat} (h:Ad4 141 W0 s l) (hd:Dig l) (hl:l.length≤2^40):
  Aa0 Tryz.prog 77 [s.v] W0 M fun v W'=>∃s',v = .agg #[Sl.v s']∧Aa6 141 W' s' (val l):=by
 apply Bw4
 refine⟨fun l' W=>match l' with | [.val (.slice A n c)]=>(∃ds,Ext W0 W∧Ad4 141 W ⟨A,n,c⟩ ds∧Dig ds∧val ds=val l∧ds.length≤l.length) | _=>False,
  fun l' _=>match l' with | [.val (.slice _ n _)]=>n | _=>0,⟨l,Ext.refl _,h,hd,rfl,Nat.le_refl _⟩,?_⟩
 rintro s3 W4 ⟨ds,hE,hD,hdg,hv,hle⟩
 have hD:Ad4 141 W4 s3 ds:=hD
 have hn:=hD.n
 refine⟨fun hpos=>?_,fun hz=>fun W7 hE7=>?_⟩
 ·rw[hn] at hpos
  have hne:ds≠[]:=fun e=>by subst e;simp at hpos
  have hlt:ds.length-1<ds.length:=by omega
  have ei:((s3.n:Int)-1)=((ds.length-1:Nat):Int):=by rw[hn];omega
  have hI:I64 ((s3.n:Int)-1):=by unfold I64;omega
  refine⟨hI,hD.inB (by omega) (by omega),(ds[ds.length-1]:Nat),?_,fun h0=>⟨hI,⟨by omega,by omega,?_⟩,?_,?_⟩,fun h0 W6 hE6=>?_⟩
  ·have:=hD.at hlt
   rw[ei]
   exact this
  ·have:=hD.2.1
   omega
  ·have ek:Int.toNat ((s3.n:Int)-1)=ds.length-1:=by omega
   rw[show Int.toNat 0=0 from rfl,Sl.Ar0,ek]
   exact⟨ds.take (ds.length-1),hE,hD.take (k:=ds.length-1) (by omega),fun d hm=>hdg d (List.mem_of_mem_take hm),(Cp8 hne (by exact_mod_cast h0)).trans hv,by simp;omega⟩
  ·rw[show Int.toNat 0=0 from rfl,Sl.Ar0]
   show Int.toNat ((s3.n:Int)-1)<s3.n
   omega
  ·refine⟨s3,rfl,?_⟩
   have ht:Trim ds:=by
    unfold Trim
    rw[List.getLast?_eq_getElem?,List.getElem?_eq_getElem hlt]
    intro e
    apply h0
    have:=Option.some.inj e
    rw[this];rfl
   have:dg (val l)=ds:=by rw[←hv,Bk0 hdg ht]
   show Ad4 141 W6 s3 (dg (val l))
   rw[this]
   exact Row.ext hD hE6
 ·have:ds = []:=by
   have:ds.length=0:=by omega
   exact List.length_eq_zero_iff.1 this
  subst this
  refine⟨s3,rfl,?_⟩
  have:dg (val l) = []:=by rw[←hv];exact Ae8
  show Ad4 141 W7 s3 (dg (val l))
  rw[this]
  exact Row.ext hD hE7
theorem Dm7 {l:List Nat} {k:Nat} (h:l.length≤k):l.take (k+1)=l.take k:=by
 rw[List.take_of_length_le h,List.take_of_length_le (by omega)]
theorem Bo5 {z xa xb c p da db:Nat} (h:z+p*c=xa+xb):z+p*((c+da+db)%B)+(p*B)*((c+da+db)/B)=xa+p*da+(xb+p*db):=by
 have:=Nat.mod_add_div (c+da+db) B
 have h2:p*((c+da+db)%B)+(p*B)*((c+da+db)/B)=p*(c+da+db):=by rw[←this];grind
 grind
def Fu5 (a b:Nat) (W4:PW) (l:List PL) (W:PW):Prop:=
 match l with
 | [.val (.int .u64 c),.val (.int .i64 k),.row xs]=>Ext W4 W∧∃(c' k':Nat) (zs:List Nat),c=(c':Int)∧k=(k':Int)∧xs=cel zs∧k'≤nl a∧zs.length=nl a+1∧Dig zs∧
   val (zs.take k')+B^k'*c'=val ((dg a).take k')+val ((dg b).take k')∧c'≤1
 | _=>False
def Fr6 (a:Nat) (l:List PL) (W:PW):Nat:=
 match l with
 | [_,.val (.int .i64 k),_]=>nl a-k.toNat
 | _=>0
def Fv7 (x y:Nat) (W0:PW) (l:List PL) (W:PW):Prop:=
 match l with
 | [.cells [.slice A n c],.cells [.slice A' n' c']]=>Ext W0 W∧∃a b,Aa6 141 W ⟨A,n,c⟩ a∧Aa6 141 W ⟨A',n',c'⟩ b∧a+b=x+y∧nl b≤nl a∧nl a≤549755813888
 | _=>False
theorem Ep3 {W0:PW} {M:Nat→Prop} {s t:Sl} {x y:Nat} (h1:Aa6 141 W0 s x) (h2:Aa6 141 W0 t y) (hx:nl x≤549755813888) (hy:nl y≤549755813888):
  Aa0 Tryz.prog 74 [.agg #[s.v],.agg #[t.v]] W0 M fun v W'=>∃s',v = .agg #[Sl.v s']∧Aa6 141 W' s' (x+y):=by
 apply Di3
 have n1:=h1.n
 have n2:=h2.n
 refine⟨Fv7 x y W0,⟨fun h=>⟨Ext.refl _,y,x,h2,h1,by omega,by omega,hy⟩,fun h=>⟨Ext.refl _,x,y,h1,h2,rfl,by omega,hx⟩⟩,?_⟩
 rintro s2 s3 W4 ⟨hE,a,b,ha,hb,hab,hba,hal⟩
 have ha:Aa6 141 W4 s2 a:=ha
 have hb:Aa6 141 W4 s3 b:=hb
 have na:=ha.n
 have nb:=hb.n
 refine⟨by unfold I64;omega,⟨rfl,by omega,by omega⟩,Fu5 a b W4,Fr6 a,?_,?_⟩
 ·refine⟨Ext.refl _,0,0,List.replicate (nl a+1) 0,rfl,rfl,?_,by omega,by simp,fun d hd=>?_,by simp[val],by omega⟩
  ·rw[show Int.toNat ((s2.n:Int)+1)=nl a+1 by omega];exact Ae3 _
  ·rw[(List.mem_replicate.1 hd).2];decide
 rintro l7 i8 i9 W10 ⟨hE10,c,k,zs,rfl,rfl,rfl,hk,hz,hdz,hv,hc⟩
 have ha':=ha.ext hE10
 have hb':=hb.ext hE10
 refine⟨fun hlt=>?_,fun hge=>?_⟩
 ·have hka:k<(dg a).length:=by have:(dg a).length=nl a:=rfl;omega
  have da:=Ad8 a _ (List.getElem_mem hka)
  refine⟨Ad4.inB ha' (by omega) (by omega),((dg a)[k]:Nat),Ad4.at ha' hka,fun hltb=>?_,fun hgeb=>?_⟩
  ·have hkb:k<(dg b).length:=by have:(dg b).length=nl b:=rfl;omega
   have db:=Ad8 b _ (List.getElem_mem hkb)
   have e:IntKind.wrap .u64 (IntKind.wrap .u64 ((c:Int)+IntKind.wrap .u64 ((dg a)[k]:Nat))+IntKind.wrap .u64 ((dg b)[k]:Nat))=((c+(dg a)[k]+(dg b)[k]:Nat):Int):=by
    unfold B at da db
    rw[wrap64 (z:=((dg a)[k]:Nat)) (by omega) (by omega),wrap64 (z:=((dg b)[k]:Nat)) (by omega) (by omega),wrap64 (z:=(c:Int)+_) (by omega) (by omega),wrap64 (by omega) (by omega)]
    push_cast;rfl
   refine⟨Ad4.inB hb' (by omega) (by omega),((dg b)[k]:Nat),Ad4.at hb' hkb,⟨by omega,by rw[Aa5];omega⟩,by rw[Aa5];omega,by unfold I64;omega,?_,?_⟩
   ·rw[e,Ao0,Ab9,show Int.toNat (k:Int)=k from rfl,Ae9]
    refine⟨hE10,_,k+1,_,rfl,by push_cast;rfl,rfl,by omega,by simpa using hz,Dig.set hdz (Nat.mod_lt _ Ad3),?_,?_⟩
    ·rw[Ac1 (by omega),Aa4 hka,Aa4 hkb,Nat.pow_succ]
     exact Bo5 hv
    ·have:c+(dg a)[k]+(dg b)[k]<2*B:=by omega
     have:=(Nat.div_lt_iff_lt_mul Ad3).2 this
     omega
   ·show nl a-Int.toNat ((k:Int)+1)<nl a-Int.toNat (k:Int)
    omega
  ·have hkb:(dg b).length≤k:=by have:(dg b).length=nl b:=rfl;omega
   have e:IntKind.wrap .u64 ((c:Int)+IntKind.wrap .u64 ((dg a)[k]:Nat))=((c+(dg a)[k]+0:Nat):Int):=by
    unfold B at da
    rw[wrap64 (z:=((dg a)[k]:Nat)) (by omega) (by omega),wrap64 (by omega) (by omega)]
    push_cast;omega
   refine⟨⟨by omega,by rw[Aa5];omega⟩,by rw[Aa5];omega,by unfold I64;omega,?_,?_⟩
   ·rw[e,Ao0,Ab9,show Int.toNat (k:Int)=k from rfl,Ae9]
    refine⟨hE10,_,k+1,_,rfl,by push_cast;rfl,rfl,by omega,by simpa using hz,Dig.set hdz (Nat.mod_lt _ Ad3),?_,?_⟩
    ·rw[Ac1 (by omega),Aa4 hka,Dm7 hkb,Nat.pow_succ]
     have:=Bo5 (da:=(dg a)[k]) (db:=0) hv
     simpa using this
    ·have:c+(dg a)[k]+0<2*B:=by omega
     have:=(Nat.div_lt_iff_lt_mul Ad3).2 this
     omega
   ·show nl a-Int.toNat ((k:Int)+1)<nl a-Int.toNat (k:Int)
    omega
 ·have hk':k=nl a:=by omega
  subst hk'
  refine⟨⟨by omega,by rw[Aa5];omega⟩,by rw[Aa5];omega,fun s13 W14 hE14 hO hnew=>?_⟩
  rw[Ab9,show Int.toNat (s2.n:Int)=nl a by omega,Ae9] at hO
  have hc':c%B=c:=Nat.mod_eq_of_lt (by unfold B;omega)
  rw[hc'] at hO
  have hval:val (zs.set (nl a) c)=x+y:=by
   have:=Ac1 (zs:=zs) (k:=nl a) (d:=c) (by omega)
   rw[List.take_of_length_le (by simp;omega),hv,show List.take (nl a) (dg a)=dg a from List.take_of_length_le (Nat.le_refl _),show List.take (nl a) (dg b)=dg b from List.take_of_length_le hba,Ac5,Ac5] at this
   omega
  intro W' hEW
  refine⟨fun _=>False,_,Bd1 (l:=zs.set (nl a) c) (Row.ext hO.row hEW) (Dig.set hdz (by unfold B;omega)) (by simp;omega),fun _ h=>h.elim,fun v W'' hE'' hP=>?_⟩
  obtain⟨s',rfl,hs⟩:=hP
  refine⟨s',rfl,fun W19 hE19=>⟨s',rfl,?_⟩⟩
  rw[hval] at hs
  exact hs.ext hE19
theorem Eu3 {W0:PW} {M:Nat→Prop} {x:Nat} (hx:x<B*B):
  Aa0 Tryz.prog 78 [.int .u64 (x:Int)] W0 M fun v W'=>∃s',v = .agg #[Sl.v s']∧Aa6 141 W' s' x:=by
 apply Dw9
 intro s1 W2 hE2 hO hnew W' hE
 rw[Ao0,Ab9,Ab9] at hO
 have hO:Go.SX.Own W2 141 1 s1 (cel [x%B,x/B%B]):=hO
 have hb:x/B<B:=(Nat.div_lt_iff_lt_mul Ad3).2 hx
 rw[Nat.mod_eq_of_lt hb] at hO
 have hd:Dig [x%B,x/B]:=Dig.cons (Nat.mod_lt _ Ad3) (Dig.cons hb Dig.nil)
 refine⟨fun _=>False,_,Bd1 (Row.ext hO.row hE) hd (by simp),fun _ h=>h.elim,fun v W'' hE'' hP=>?_⟩
 obtain⟨s',rfl,hs⟩:=hP
 refine⟨s',rfl,fun W7 hE7=>⟨s',rfl,?_⟩⟩
 have e:val [x%B,x/B]=x:=by simp only[val];have:=Nat.mod_add_div x B;omega
 rw[e] at hs
 exact hs.ext hE7
def Fu6 (a b:Nat) (W0:PW) (l:List PL) (W:PW):Prop:=
 match l with
 | [.val (.int .i64 k),.row xs]=>Ext W0 W∧∃(k':Nat) (zs:List Nat),k=(k':Int)∧xs=cel zs∧k'≤nl a∧zs.length=nl a+nl b∧Dig zs∧val (zs.take (k'+nl b))=val ((dg a).take k')*b
 | _=>False
def mulM (a:Nat) (l:List PL) (W:PW):Nat:=
 match l with
 | [.val (.int .i64 k),_]=>nl a-k.toNat
 | _=>0
def Fs2 (b k da:Nat) (zs:List Nat) (W5:PW) (l:List PL) (W:PW):Prop:=
 match l with
 | [.val (.int .u64 c),.val (.int .i64 j),.row xs]=>Ext W5 W∧∃(c' j':Nat) (ys:List Nat),c=(c':Int)∧j=(j':Int)∧xs=cel ys∧j'≤nl b∧ys.length=zs.length∧Dig ys∧c'<B∧
   val (ys.take (k+j'))+B^(k+j')*c'=val (zs.take (k+j'))+B^k*(da*val ((dg b).take j'))∧∀i,k+j'≤i→ys[i]?=zs[i]?
 | _=>False
def Fs5 (b:Nat) (l:List PL) (W:PW):Nat:=
 match l with
 | [_,.val (.int .i64 k),_]=>nl b-k.toNat
 | _=>0
theorem Fn9 {a b c d:Nat} (ha:a<B) (hb:b<B) (hc:c<B) (hd:d<B):c+(a*b+d)<B*B:=by
 have:a*b≤(B-1)*(B-1):=Nat.mul_le_mul (by omega) (by omega)
 unfold B at *
 omega
theorem Eu4 {y z p q c da db vb d e:Nat} (h:y+p*q*c=z+p*(da*vb)) (hd:d=e):
  y+p*q*((c+(da*db+d))%B)+p*q*B*((c+(da*db+d))/B)=z+p*q*e+p*(da*(vb+q*db)):=by
 have:=Nat.mod_add_div (c+(da*db+d)) B
 have h2:p*q*((c+(da*db+d))%B)+(p*q*B)*((c+(da*db+d))/B)=p*q*(c+(da*db+d)):=by
  conv=>rhs;rw[←this]
  grind
 subst hd
 grind
theorem Eg4 {W0:PW} {M:Nat→Prop} {s t:Sl} {a b:Nat} (ha:Aa6 141 W0 s a) (hb:Aa6 141 W0 t b) (hx:nl a≤274877906944) (hy:nl b≤274877906944):
  Aa0 Tryz.prog 34 [.agg #[s.v],.agg #[t.v]] W0 M fun v W'=>∃s',v = .agg #[Sl.v s']∧Aa6 141 W' s' (a*b):=by
 apply Dl8
 have na:=ha.n
 have nb:=hb.n
 have la:(dg a).length=nl a:=rfl
 have lb:(dg b).length=nl b:=rfl
 refine⟨by unfold I64;omega,⟨rfl,by omega,by omega⟩,Fu6 a b W0,mulM a,?_,?_⟩
 ·refine⟨Ext.refl _,0,List.replicate (nl a+nl b) 0,rfl,?_,by omega,by simp,fun d hd=>?_,?_⟩
  ·rw[show Int.toNat ((s.n:Int)+(t.n:Int))=nl a+nl b by omega];exact Ae3 _
  ·rw[(List.mem_replicate.1 hd).2];decide
  ·rw[List.take_replicate,Ao6];simp[val]
 rintro l3 i4 W5 ⟨hE5,k,zs,rfl,rfl,hk,hz,hdz,hv⟩
 refine⟨fun hlt=>?_,fun hge=>?_⟩
 ·have hka:k<(dg a).length:=by omega
  have da:=Ad8 a _ (List.getElem_mem hka)
  refine⟨Ad4.inB (ha.ext hE5) (by omega) (by omega),((dg a)[k]:Nat),Ad4.at (ha.ext hE5) hka,Fs2 b k (dg a)[k] zs W5,Fs5 b,?_,?_⟩
  ·exact⟨Ext.refl _,0,0,zs,rfl,rfl,rfl,by omega,rfl,hdz,Ad3,by simp[val],fun _ _=>rfl⟩
  rintro l9 i10 i11 W12 ⟨hE12,c,j,ys,rfl,rfl,rfl,hj,hyl,hdy,hc,hw,hsame⟩
  have hE':=hE5.trans hE12
  refine⟨fun hltb=>?_,fun hgeb=>?_⟩
  ·have hkb:j<(dg b).length:=by omega
   have db:=Ad8 b _ (List.getElem_mem hkb)
   have hkj:k+j<ys.length:=by omega
   have dy:=hdy _ (List.getElem_mem hkj)
   have et:Int.toNat ((k:Int)+(j:Int))=k+j:=by omega
   have hm:=Fn9 da db hc dy
   have e:IntKind.wrap .u64 ((c:Int)+IntKind.wrap .u64 (IntKind.wrap .u64 (IntKind.wrap .u64 ((dg a)[k]:Nat)*IntKind.wrap .u64 ((dg b)[j]:Nat))+IntKind.wrap .u64 ((ys[k+j]:Nat):Int)))=((c+((dg a)[k]*(dg b)[j]+ys[k+j]):Nat):Int):=by
    have hp:((dg a)[k]*(dg b)[j]:Nat)≤c+((dg a)[k]*(dg b)[j]+ys[k+j]):=by omega
    unfold B at da db dy hm hc
    rw[wrap64 (z:=((dg a)[k]:Nat)) (by omega) (by omega),wrap64 (z:=((dg b)[j]:Nat)) (by omega) (by omega),wrap64 (z:=((ys[k+j]:Nat):Int)) (by omega) (by omega),←Int.natCast_mul,wrap64 (z:=(((dg a)[k]*(dg b)[j]:Nat):Int)) (by omega) (by omega),
     wrap64 (z:=_+((ys[k+j]:Nat):Int)) (by omega) (by omega),wrap64 (by omega) (by omega)]
    push_cast;rfl
   refine⟨Ad4.inB (hb.ext hE') (by omega) (by omega),((dg b)[j]:Nat),Ad4.at (hb.ext hE') hkb,by unfold I64;omega,⟨by omega,by rw[Aa5];omega⟩,((ys[k+j]:Nat):Int),?_,by unfold I64;omega,⟨by omega,by rw[Aa5];omega⟩,by rw[Aa5];omega,by unfold I64;omega,?_,?_⟩
   ·rw[et];exact⟨_,Au0 hkj,by simp⟩
   ·rw[e,Ao0,Ab9,et,Ae9]
    refine⟨hE12,_,j+1,_,rfl,by push_cast;rfl,rfl,by omega,by simpa using hyl,Dig.set hdy (Nat.mod_lt _ Ad3),(Nat.div_lt_iff_lt_mul Ad3).2 hm,?_,fun i hi=>?_⟩
    ·rw[←Nat.add_assoc,Ac1 hkj,Aa4 (l:=zs) (by omega),Aa4 hkb,Nat.pow_succ,Nat.pow_add]
     rw[Nat.pow_add] at hw
     refine Eu4 hw ?_
     have:=hsame (k+j) (Nat.le_refl _)
     rw[List.getElem?_eq_getElem hkj,List.getElem?_eq_getElem (by omega)] at this
     exact Option.some.inj this
    ·rw[List.getElem?_set_ne (by omega)]
     exact hsame i (by omega)
   ·show nl b-Int.toNat ((j:Int)+1)<nl b-Int.toNat (j:Int)
    omega
  ·have hj':j=nl b:=by omega
   subst hj'
   have et:Int.toNat ((k:Int)+(t.n:Int))=k+nl b:=by omega
   refine⟨by unfold I64;omega,⟨by omega,by rw[Aa5];omega⟩,by rw[Aa5];omega,by unfold I64;omega,?_,?_⟩
   ·rw[et,Ab9,Nat.mod_eq_of_lt hc,Ae9]
    refine⟨hE',k+1,_,by push_cast;rfl,rfl,by omega,by simp;omega,Dig.set hdy hc,?_⟩
    rw[show k+1+nl b=k+nl b+1 by omega,Ac1 (by omega),hw,hv,Aa4 hka,show List.take (nl b) (dg b)=dg b from List.take_of_length_le (Nat.le_refl _),Ac5]
    grind
   ·show nl a-Int.toNat ((k:Int)+1)<nl a-Int.toNat (k:Int)
    omega
 ·have hk':k=nl a:=by omega
  subst hk'
  intro s15 W16 hE16 hO hnew W' hEW
  have hval:val zs=a*b:=by
   rw[List.take_of_length_le (by omega)] at hv
   rw[hv,show List.take (nl a) (dg a)=dg a from List.take_of_length_le (Nat.le_refl _),Ac5]
  refine⟨fun _=>False,_,Bd1 (Row.ext hO.row hEW) hdz (by omega),fun _ h=>h.elim,fun v W'' hE'' hP=>?_⟩
  obtain⟨s',rfl,hs⟩:=hP
  refine⟨s',rfl,fun W19 hE19=>⟨s',rfl,?_⟩⟩
  rw[hval] at hs
  exact hs.ext hE19
theorem Cj9 {s:Sl} {k g:Nat} (h:(Sl.v ⟨s.A,k,s.c⟩).ownBlock=some g):s.v.ownBlock=some g:=by
 simp only[Sl.v] at h⊢
 cases hA:s.A<;>simp[hA,Value.ownBlock] at h⊢
 exact h
theorem Cr7 {W0:PW} {M:Nat→Prop} {s:Sl} {l:List Nat} (h:Go.SX.Own W0 141 1 s (cel l)) (hd:Dig l) (hl:l.length≤2^40):
  Aa0 Tryz.prog 77 [s.v] W0 M fun v W'=>∃s',v = .agg #[Sl.v s']∧Go.SX.Own W' 141 1 s' (cel (dg (val l)))∧∀g,s'.v.ownBlock=some g→s.v.ownBlock=some g:=by
 apply Bw4
 refine⟨fun l' W=>match l' with | [.val (.slice A n c)]=>(∃ds,Ext W0 W∧Go.SX.Own W 141 1 ⟨A,n,c⟩ (cel ds)∧(∀g,(Sl.v ⟨A,n,c⟩).ownBlock=some g→s.v.ownBlock=some g)∧Dig ds∧val ds=val l∧ds.length≤l.length) | _=>False,
  fun l' _=>match l' with | [.val (.slice _ n _)]=>n | _=>0,⟨l,Ext.refl _,h,fun _ hg=>hg,hd,rfl,Nat.le_refl _⟩,?_⟩
 rintro s3 W4 ⟨ds,hE,hO,hob,hdg,hv,hle⟩
 have hO:Go.SX.Own W4 141 1 s3 (cel ds):=hO
 have hob: ∀g,s3.v.ownBlock=some g→s.v.ownBlock=some g:=hob
 have hD:Ad4 141 W4 s3 ds:=hO.row
 have hn:=hD.n
 refine⟨fun hpos=>?_,fun hz=>fun W7 hE7=>?_⟩
 ·rw[hn] at hpos
  have hne:ds≠[]:=fun e=>by subst e;simp at hpos
  have hlt:ds.length-1<ds.length:=by omega
  have ei:((s3.n:Int)-1)=((ds.length-1:Nat):Int):=by rw[hn];omega
  have hI:I64 ((s3.n:Int)-1):=by unfold I64;omega
  refine⟨hI,hD.inB (by omega) (by omega),(ds[ds.length-1]:Nat),?_,fun h0=>⟨hI,⟨by omega,by omega,?_⟩,?_,?_⟩,fun h0 W6 hE6=>?_⟩
  ·have:=hD.at hlt
   rw[ei]
   exact this
  ·have:=hD.2.1
   omega
  ·have ek:Int.toNat ((s3.n:Int)-1)=ds.length-1:=by omega
   rw[show Int.toNat 0=0 from rfl,Sl.Ar0,ek]
   exact⟨ds.take (ds.length-1),hE,by rw[←Bo2];exact hO.take (k:=ds.length-1) (by rw[Aa5];omega),fun g hg=>hob g (Cj9 hg),fun d hm=>hdg d (List.mem_of_mem_take hm),(Cp8 hne (by exact_mod_cast h0)).trans hv,by simp;omega⟩
  ·rw[show Int.toNat 0=0 from rfl,Sl.Ar0]
   show Int.toNat ((s3.n:Int)-1)<s3.n
   omega
  ·refine⟨s3,rfl,?_,hob⟩
   have ht:Trim ds:=by
    unfold Trim
    rw[List.getLast?_eq_getElem?,List.getElem?_eq_getElem hlt]
    intro e
    apply h0
    have:=Option.some.inj e
    rw[this];rfl
   have:dg (val l)=ds:=by rw[←hv,Bk0 hdg ht]
   rw[this]
   exact hO.Fi8 hE6
 ·have:ds = []:=by
   have:ds.length=0:=by omega
   exact List.length_eq_zero_iff.1 this
  subst this
  refine⟨s3,rfl,?_,hob⟩
  have:dg (val l) = []:=by rw[←hv];exact Ae8
  rw[this]
  exact hO.Fi8 hE7
theorem Ds4 {W0:PW} {M:Nat→Prop} {s:Sl} {l:List Nat} (h:Ad4 141 W0 s l) (hl:l.length≤1099511627776):
  Aa0 Tryz.prog 112 [s.v] W0 M fun v W'=>∃s':Sl,v=s'.v∧Go.SX.Own W' 141 1 s' (cel l)∧∀g,s'.v.ownBlock=some g→W0.w.heap.size≤g:=by
 apply Am5
 refine⟨fun h0 W1 hE=>?_,fun h0=>⟨cel l,⟨_,h⟩,by rw[Aa5];omega,fun s3 W4 hE hO hnew W6 hE6=>⟨s3,rfl,hO.Fi8 hE6,fun g hg=>(hnew g hg).1⟩⟩⟩
 have:cel l = []:=by
  obtain⟨_,_,_,_,h4⟩:=h
  rcases h4 with h4 | ⟨b,o,cs,fz,hA,_⟩
  ·exact h4
  ·rw[hA] at h0;cases h0
 rw[this]
 exact⟨⟨none,0,0⟩,rfl,⟨⟨by simp,World.ownsRow_nil _ 0 141 1⟩,fun g hg=>by simp[Sl.v,Value.ownBlock] at hg⟩,fun g hg=>by simp[Sl.v,Value.ownBlock] at hg⟩
end Go.Proofs.YtahohahjnhfedaaGreatDoor
/- nat: calls by contract; binary digits; shifts. -/
namespace Go.Proofs.YtahohahjnhfedaaGreatDoor
open Go Go.SX
theorem Ap7 {W0 W:PW} {M:Nat→Prop} {s:Sl} {l:List Nat} {K:Value→PW→Prop} (h:Ad4 141 W s l) (hd:Dig l) (hl:l.length≤2^40) (kont: ∀(s':Sl) (W':PW),Ext W W'→(Aa6 141 W' s' (val l))→K (.agg #[Sl.v s']) W'):
  Aa1 Tryz.prog W0 M 77 [s.v] W K:=
 Aa2 (fun W' hE=>Bd1 (M:=fun _=>False) (h.ext hE) hd hl) (fun W' v W'' hE hE' hP=>by
  obtain⟨s',rfl,h⟩:=hP
  exact kont s' W'' (hE.trans hE') h)
theorem Ba4 {W0 W:PW} {M:Nat→Prop} {s:Sl} {l:List Nat} {K:Value→PW→Prop} (h:Go.SX.Own W 141 1 s (cel l)) (hd:Dig l) (hl:l.length≤2^40) (kont: ∀(s':Sl) (W':PW),Ext W W'→(Go.SX.Own W' 141 1 s' (cel (dg (val l)))∧∀g,s'.v.ownBlock=some g→s.v.ownBlock=some g)→K (.agg #[Sl.v s']) W'):
  Aa1 Tryz.prog W0 M 77 [s.v] W K:=
 Aa2 (fun W' hE=>Cr7 (M:=fun _=>False) (h.ext hE) hd hl) (fun W' v W'' hE hE' hP=>by
  obtain⟨s',rfl,h⟩:=hP
  exact kont s' W'' (hE.trans hE') h)
theorem As2 {W0 W:PW} {M:Nat→Prop} {x:Nat} {K:Value→PW→Prop} (hx:x<B*B) (kont: ∀(s':Sl) (W':PW),Ext W W'→(Aa6 141 W' s' x)→K (.agg #[Sl.v s']) W'):
  Aa1 Tryz.prog W0 M 78 [.int .u64 (x:Int)] W K:=
 Aa2 (fun W' hE=>Eu3 (M:=fun _=>False) hx) (fun W' v W'' hE hE' hP=>by
  obtain⟨s',rfl,h⟩:=hP
  exact kont s' W'' (hE.trans hE') h)
theorem Do2 {W0 W:PW} {M:Nat→Prop} {s t:Sl} {x y:Nat} {K:Value→PW→Prop} (h1:Aa6 141 W s x) (h2:Aa6 141 W t y) (hx:nl x≤549755813888) (hy:nl y≤549755813888) (kont: ∀(s':Sl) (W':PW),Ext W W'→(Aa6 141 W' s' (x+y))→K (.agg #[Sl.v s']) W'):
  Aa1 Tryz.prog W0 M 74 [.agg #[s.v],.agg #[t.v]] W K:=
 Aa2 (fun W' hE=>Ep3 (M:=fun _=>False) (h1.ext hE) (h2.ext hE) hx hy) (fun W' v W'' hE hE' hP=>by
  obtain⟨s',rfl,h⟩:=hP
  exact kont s' W'' (hE.trans hE') h)
theorem Bb7 {W0 W:PW} {M:Nat→Prop} {s t:Sl} {x y:Nat} {K:Value→PW→Prop} (h1:Aa6 141 W s x) (h2:Aa6 141 W t y) (hx:nl x≤274877906944) (hy:nl y≤274877906944) (kont: ∀(s':Sl) (W':PW),Ext W W'→(Aa6 141 W' s' (x*y))→K (.agg #[Sl.v s']) W'):
  Aa1 Tryz.prog W0 M 34 [.agg #[s.v],.agg #[t.v]] W K:=
 Aa2 (fun W' hE=>Eg4 (M:=fun _=>False) (h1.ext hE) (h2.ext hE) hx hy) (fun W' v W'' hE hE' hP=>by
  obtain⟨s',rfl,h⟩:=hP
  exact kont s' W'' (hE.trans hE') h)
theorem len8: ∀i:Nat,i<256→Ae2 Af5 i=(Aj9 i:Int):=by
 have: ∀i:Fin 256,Ae2 Af5 i.val=(Aj9 i.val:Int):=by decide +kernel
 exact fun i hi=>this ⟨i,hi⟩
theorem Ds2 {n:Nat} (h:n<256):IntKind.wrap .u8 (n:Int)=(n:Int):=by
 rw[IntKind.wrap_u8'];omega
theorem Ev7 {W0:PW} {M:Nat→Prop} {x:Nat} (hx:x<B):
  Aa0 Tryz.prog 98 [.int .u32 (x:Int)] W0 M fun v W'=>v = .int .i64 ((Aj9 x:Nat):Int)∧True:=by
 apply Ba5
 unfold B at hx
 have hsz:Af5.size=256:=rfl
 have fin: ∀(y n:Nat) (z:Int),y<256→(2^n≤x∨n=0)→y=x/2^n→z=(n:Int)→I64 (Ae2 Af5 y)∧I64 (z+Ae2 Af5 y)∧∀W1,Ext W0 W1→Value.int .i64 (z+Ae2 Af5 y)=Value.int .i64 ((Aj9 x:Nat):Int)∧True:=fun y n z hy hn e hz=>by
  have hb:=Bb9 (x:=y) (n:=8) (by omega)
  have h:Aj9 x=n+Aj9 y:=by
   rcases hn with hn | hn
   ·rw[Bg3 n hn,e]
   ·subst hn;rw[e];simp
  have hx32:=Bb9 (x:=x) (n:=32) (by omega)
  rw[len8 y hy,hz]
  refine⟨by unfold I64;omega,by unfold I64;omega,fun W1 hE=>⟨?_,trivial⟩⟩
  rw[h];simp
 have e16:Ah0 (x:Int) 16=((x/65536:Nat):Int):=Ay2 x 16
 have e24:Ah0 ((x/65536:Nat):Int) 8=((x/16777216:Nat):Int):=by
  rw[Ay2,show x/65536/2^8=x/16777216 by omega]
 have e8:Ah0 (x:Int) 8=((x/256:Nat):Int):=Ay2 x 8
 unfold Au5
 simp only[e16,e24,e8,hsz]
 refine⟨fun h1=>⟨fun h2=>?_,fun h2=>?_⟩,fun h1=>⟨fun h2=>?_,fun h2=>?_⟩⟩
 ·have hy:x/16777216<256:=by omega
  rw[Ds2 hy]
  exact⟨by unfold I64;omega,⟨by omega,by omega⟩,fin (x/16777216) 24 _ hy (.inl (by omega)) rfl rfl⟩
 ·have hy:x/65536<256:=by omega
  rw[Ds2 hy]
  exact⟨⟨by omega,by omega⟩,fin (x/65536) 16 _ hy (.inl (by omega)) rfl rfl⟩
 ·have hy:x/256<256:=by omega
  rw[Ds2 hy]
  exact⟨by unfold I64;omega,⟨by omega,by omega⟩,fin (x/256) 8 _ hy (.inl (by omega)) rfl rfl⟩
 ·have hy:x<256:=by omega
  rw[Ds2 hy]
  exact⟨⟨by omega,by omega⟩,fin x 0 _ hy (.inr rfl) (by simp) rfl⟩
theorem Ce3 {W0 W:PW} {M:Nat→Prop} {x:Nat} {K:Value→PW→Prop} (hx:x<B) (kont: ∀(W':PW),Ext W W'→(True)→K (.int .i64 ((Aj9 x:Nat):Int)) W'):
  Aa1 Tryz.prog W0 M 98 [.int .u32 (x:Int)] W K:=
 Aa2 (fun W' hE=>Ev7 (M:=fun _=>False) hx) (fun W' v W'' hE hE' hP=>by
  obtain⟨rfl,h⟩:=hP
  exact kont W'' (hE.trans hE') h)
end Go.Proofs.YtahohahjnhfedaaGreatDoor
/- nat: Bits, shifts. -/
namespace Go.Proofs.YtahohahjnhfedaaGreatDoor
open Go Go.SX
theorem Ea6 {W0:PW} {M:Nat→Prop} {s:Sl} {x:Nat} (h:Aa6 141 W0 s x) (hx:nl x≤274877906944):
  Aa0 Tryz.prog 59 [.agg #[s.v]] W0 M fun v W'=>v = .int .i64 ((Aj9 x:Nat):Int)∧True:=by
 apply Bn5
 have hn:=h.n
 refine⟨fun h0 W1 hE=>⟨?_,trivial⟩,fun h0=>?_⟩
 ·have:x=0:=Ad0.1 (by omega)
  subst this;rfl
 ·have hx0:x≠0:=fun e=>h0 (by rw[hn,e,Ag9];rfl)
  obtain⟨hk,ht,htB,hv⟩:=Bt4 hx0
  have hl:(dg x).length=nl x:=rfl
  have e:((s.n:Int)-1)=((nl x-1:Nat):Int):=by omega
  have hb:=Do4 (Ae6 (Ad8 x) (nl x-1)) ht
  rw[←hv] at hb
  have hb32:=Bb9 (x:=(dg x)[nl x-1]) (n:=32) (by unfold B at htB;omega)
  rw[e]
  refine⟨by unfold I64;omega,by unfold I64;omega,by unfold I64;omega,Ad4.inB h (by omega) (by omega),_,Ad4.at h hk,?_⟩
  refine Ce3 htB fun W4 hE4 _=>⟨_,rfl,by unfold I64;omega,fun W6 hE6=>⟨?_,trivial⟩⟩
  rw[hb];push_cast;rfl
theorem Ac9 {W0 W:PW} {M:Nat→Prop} {s:Sl} {x:Nat} {K:Value→PW→Prop} (h:Aa6 141 W s x) (hx:nl x≤274877906944) (kont: ∀(W':PW),Ext W W'→(True)→K (.int .i64 ((Aj9 x:Nat):Int)) W'):
  Aa1 Tryz.prog W0 M 59 [.agg #[s.v]] W K:=
 Aa2 (fun W' hE=>Ea6 (M:=fun _=>False) (h.ext hE) hx) (fun W' v W'' hE hE' hP=>by
  obtain⟨rfl,h⟩:=hP
  exact kont W'' (hE.trans hE') h)
theorem Ep9 {W0:PW} {M:Nat→Prop} {x:Nat} (hx:x<B):
  Aa0 Tryz.prog 114 [.int .u32 (x:Int)] W0 M fun v W'=>v = .int .i64 ((32-Aj9 x:Nat):Int)∧True:=by
 apply Ao3
 have hb:=Bb9 (x:=x) (n:=32) (by unfold B at hx;omega)
 refine Ce3 hx fun W4 hE4 _=>⟨_,rfl,by unfold I64;omega,fun W6 hE6=>⟨?_,trivial⟩⟩
 congr 1
 omega
theorem Dg0 {W0 W:PW} {M:Nat→Prop} {x:Nat} {K:Value→PW→Prop} (hx:x<B) (kont: ∀(W':PW),Ext W W'→(True)→K (.int .i64 ((32-Aj9 x:Nat):Int)) W'):
  Aa1 Tryz.prog W0 M 114 [.int .u32 (x:Int)] W K:=
 Aa2 (fun W' hE=>Ep9 (M:=fun _=>False) hx) (fun W' v W'' hE hE' hP=>by
  obtain⟨rfl,h⟩:=hP
  exact kont W'' (hE.trans hE') h)
end Go.Proofs.YtahohahjnhfedaaGreatDoor
/- nat: Shl, Shr. -/
namespace Go.Proofs.YtahohahjnhfedaaGreatDoor
open Go Go.SX
def Ft8 (x N sh:Nat) (W0:PW) (l:List PL) (W:PW):Prop:=
 match l with
 | [.val (.int .i64 k),.row xs]=>Ext W0 W∧∃(k':Nat) (zs:List Nat),k=(k':Int)∧xs=cel zs∧k'≤nl x∧zs.length=nl x+N+1∧Dig zs∧
   val zs=B^N*2^sh*val ((dg x).take k')∧(∀j (h:j<zs.length),N+k'<j→zs[j]=0)∧(∀(h:N+k'<zs.length),zs[N+k']<2^sh)
 | _=>False
def Fu1 (x:Nat) (l:List PL) (W:PW):Nat:=
 match l with
 | [.val (.int .i64 k),_]=>nl x-k.toNat
 | _=>0
theorem Fc9 {v sh:Nat} (hs:sh<32):(v*2^sh)%B%2^sh=0:=by
 have:B=2^sh*2^(32-sh):=by rw[←Nat.pow_add,show sh+(32-sh)=32 by omega];rfl
 rw[this,Nat.mod_mul_right_mod]
 exact Nat.mul_mod_left ..
theorem Fd1 {sh:Nat} (hs:sh<32):2^sh≤2147483648:=by
 have:=Nat.pow_le_pow_right (by decide:0<2) (show sh≤31 by omega)
 exact this
theorem Eg8 {W0:PW} {M:Nat→Prop} {s:Sl} {x k:Nat} (h:Aa6 141 W0 s x) (hx:nl x≤274877906944) (hk:k≤1048576):
  Aa0 Tryz.prog 115 [.agg #[s.v],.int .i64 (k:Int)] W0 M fun v W'=>∃(s':Sl),v = .agg #[Sl.v s']∧Aq4 W0 s'∧Go.SX.Own W' 141 1 s' (cel (dg (x*2^k))):=by
 apply Dd7
 have hn:=h.n
 have hl:(dg x).length=nl x:=rfl
 unfold Dp1
 simp only[Fj7 hk,Eg1 (show k≤1099511627776 by omega),Em5]
 obtain⟨N,hN⟩: ∃N,k/32=N:=⟨_,rfl⟩
 obtain⟨sh,hsh⟩: ∃sh,k%32=sh:=⟨_,rfl⟩
 have hs32:sh<32:=by omega
 have hN2:N≤32768:=by omega
 have hkk:k=32*N+sh:=by omega
 rw[hN,hsh]
 have hpw:=Fd1 hs32
 refine⟨by decide,by unfold I64;omega,by unfold I64;omega,⟨trivial,by omega,by omega⟩,Ft8 x N sh W0,Fu1 x,?_,?_⟩
 ·refine⟨Ext.refl _,0,List.replicate (nl x+N+1) 0,rfl,?_,by omega,by simp,fun d hd=>?_,by simp[val,Ao6],fun j hj _=>by simp,fun hj=>by simp;exact Nat.two_pow_pos sh⟩
  ·rw[show Int.toNat ((s.n:Int)+(N:Int)+1)=nl x+N+1 by omega];exact Ae3 _
  ·rw[(List.mem_replicate.1 hd).2];decide
 rintro l3 i4 W5 ⟨hE5,i,zs,rfl,rfl,hi,hz,hdz,hv,h0,hp⟩
 have h5:=h.ext hE5
 refine⟨fun hlt=>?_,fun hge s8 W9 hE9 hO hf=>?_⟩
 ·have hia:i<(dg x).length:=by omega
  have hxB:=(Ad8 x).at hia
  obtain⟨d,hd⟩: ∃d,(dg x)[i]=d:=⟨_,rfl⟩
  have hiz:N+i<zs.length:=by omega
  have hiz1:N+i+1<zs.length:=by omega
  have hpi:=hp hiz
  obtain⟨p,hpp⟩: ∃p,zs[N+i]=p:=⟨_,rfl⟩
  have hmul:d*2^sh<18446744073709551616:=by
   rw[hd] at hxB
   have:=Nat.mul_le_mul (Nat.le_of_lt hxB) hpw
   unfold B at this
   omega
  have ed:IntKind.wrap .u64 ((d:Nat):Int)=(d:Int):=Ab1 (by rw[hd] at hxB;unfold B at hxB;omega)
  have ei:(i:Int)+(N:Int)=((N+i:Nat):Int):=by omega
  have lo:=Fc9 (v:=d) hs32
  have hloB:(d*2^sh)%B<B:=Nat.mod_lt _ Ad3
  have hjoin:p+(d*2^sh)%B<B:=by
   have e1:B=2^sh*2^(32-sh):=by rw[←Nat.pow_add,show sh+(32-sh)=32 by omega];rfl
   have e2:=Nat.mod_add_div ((d*2^sh)%B) (2^sh)
   rw[lo,Nat.zero_add] at e2
   rw[hpp] at hpi
   generalize (d*2^sh)%B/2^sh=q at e2
   have:q<2^(32-sh):=by
    apply Nat.lt_of_mul_lt_mul_left (a:=2^sh)
    rw[e2,←e1];exact hloB
   have:=Nat.mul_le_mul_left (2^sh) (show q+1≤2^(32-sh) from this)
   rw[Nat.mul_add,e2,←e1] at this
   omega
  have hhi:d*2^sh/B<2^sh:=by
   rw[Nat.div_lt_iff_lt_mul Ad3,Nat.mul_comm]
   rw[hd] at hxB
   exact Nat.mul_lt_mul_of_pos_left hxB (Nat.two_pow_pos sh)
  have hhiB:d*2^sh/B<B:=by unfold B at *;omega
  have eor:bits .or .u32 (p:Int) (((d*2^sh%B:Nat)):Int)=((p+d*2^sh%B:Nat):Int):=by
   rw[u32_or_nat _ _ (by unfold B at *;omega) (by unfold B at *;omega),Nat.or_comm,nat_join sh _ _ lo (by rw[←hpp];exact hpi),Nat.add_comm]
  have hset:List.length (List.set (cel zs) (N+i) [Value.int .u32 ((p+d*2^sh%B:Nat):Int)])=zs.length:=by simp[Aa5]
  refine⟨Ad4.inB h5 (by omega) (by omega),(d:Int),by rw[←hd];exact Ad4.at h5 hia,by decide,⟨by omega,by show(sh:Int)≤64;omega⟩,by decide,by unfold I64;omega,⟨by omega,by rw[Aa5];omega⟩,(p:Int),?_⟩
  rw[ei,show Int.toNat ((N+i:Nat):Int)=N+i from rfl,show Int.toNat ((sh:Nat):Int)=sh from rfl,ed,Dr8 hmul,Ao0,Ab9,Ab9,eor,Nat.mod_eq_of_lt hhiB,hset]
  refine⟨⟨_,Au0 hiz,by rw[hpp];rfl⟩,⟨by omega,by rw[Aa5];omega⟩,by rw[Aa5];omega,by decide,by unfold I64;omega,by unfold I64;omega,⟨by omega,by omega⟩,by omega,by unfold I64;omega,?_,?_⟩
  ·rw[Ae9,show Int.toNat (((N+i:Nat):Int)+1)=N+i+1 by omega,Ae9]
   refine⟨hE5,i+1,_,by push_cast;rfl,rfl,by omega,by simpa using hz,(hdz.set hjoin).set hhiB,?_,fun j hj hlt=>?_,fun hj=>?_⟩
   ·have e1:=Bh5 zs (k:=N+i) (p+d*2^sh%B) hiz
    have e2:=Bh5 (zs.set (N+i) (p+d*2^sh%B)) (k:=N+i+1) (d*2^sh/B) (by simpa using hiz1)
    have e3:(zs.set (N+i) (p+d*2^sh%B))[N+i+1]'(by simpa using hiz1)=0:=by
     rw[List.getElem_set_ne (by omega)];exact h0 _ hiz1 (by omega)
    rw[e3] at e2
    rw[hpp] at e1
    rw[Aa4 hia,hd]
    have e4:=Nat.mod_add_div (d*2^sh) B
    rw[Nat.mul_zero,Nat.add_zero,Nat.pow_succ] at e2
    rw[e2]
    have e5:B^N*2^sh*(val ((dg x).take i)+B^i*d)=val zs+B^(N+i)*(d*2^sh):=by
     rw[hv,Nat.pow_add]
     generalize B^N=a
     generalize B^i=b
     generalize 2^sh=c
     grind
    have e6:B^(N+i)*(d*2^sh)=B^(N+i)*(d*2^sh%B)+B^(N+i)*B*(d*2^sh/B):=by
     conv=>lhs;rw[←e4]
     rw[Nat.mul_add,Nat.mul_assoc]
    rw[e5,e6]
    generalize d*2^sh%B=z1 at *
    generalize d*2^sh/B=z2 at *
    generalize B^(N+i)=bb at *
    have:bb*(p+z1)=bb*p+bb*z1:=Nat.mul_add ..
    omega
   ·rw[List.getElem_set_ne (by omega),List.getElem_set_ne (by omega)]
    exact h0 j (by simpa using hj) (by omega)
   ·simp only[show N+(i+1)=N+i+1 by omega]
    rw[List.getElem_set_self]
    exact hhi
  ·show nl x-Int.toNat ((i:Int)+1)<nl x-Int.toNat (i:Int)
   omega
 ·have:i=nl x:=by omega
  subst this
  have e:val zs=x*2^k:=by
   rw[hv,←hl,List.take_length,Ac5,Bp0,←Nat.pow_add,←hkk,Nat.mul_comm]
  refine Ba4 hO hdz (by omega) fun s' W12 hE12 ⟨h1,h2⟩=>⟨s',rfl,fun W14 hE14=>⟨s',rfl,fun g hg=>(hf g (h2 g hg)).1,?_⟩⟩
  rw[e] at h1
  exact h1.ext hE14
theorem Bt7 {W0 W:PW} {M:Nat→Prop} {s:Sl} {x k:Nat} {K:Value→PW→Prop} (h:Aa6 141 W s x) (hx:nl x≤274877906944) (hk:k≤1048576) (kont: ∀(s':Sl) (W':PW),Ext W W'→(Aq4 W s'∧Go.SX.Own W' 141 1 s' (cel (dg (x*2^k))))→K (.agg #[Sl.v s']) W'):
  Aa1 Tryz.prog W0 M 115 [.agg #[s.v],.int .i64 (k:Int)] W K:=
 Aa2 (fun W' hE=>Eg8 (M:=fun _=>False) (h.ext hE) hx hk) (fun W' v W'' hE hE' hP=>by
  obtain⟨s',rfl,hf,h⟩:=hP
  exact kont s' W'' (hE.trans hE') ⟨hf.back hE,h⟩)
end Go.Proofs.YtahohahjnhfedaaGreatDoor
/- nat: Shr. -/
namespace Go.Proofs.YtahohahjnhfedaaGreatDoor
open Go Go.SX
def Fu9 (l:List Nat) (sh:Nat) (W0:PW) (pl:List PL) (W:PW):Prop:=
 match pl with
 | [.val (.int .i64 k),.row xs]=>Ext W0 W∧∃(k':Nat) (zs:List Nat),k=(k':Int)∧xs=cel zs∧k'≤l.length∧zs.length=l.length∧Dig zs∧
   val (zs.take k')=val (l.take k')/2^sh∧(∀(h:k'-1<zs.length),0<k'→zs[k'-1]<2^(32-sh))
 | _=>False
def Fw3 (l:List Nat) (pl:List PL) (W:PW):Nat:=
 match pl with
 | [.val (.int .i64 k),_]=>l.length-k.toNat
 | _=>0
theorem Et1 {A d b sh:Nat} (hs:sh<32):(A+b*B*d)/2^sh=A/2^sh+b*(d*2^(32-sh)%B)+b*B*(d/2^sh):=by
 have hB:B=2^sh*2^(32-sh):=by rw[←Nat.pow_add,show sh+(32-sh)=32 by omega];rfl
 have e1:A+b*B*d=A+2^sh*(b*(2^(32-sh)*d)):=by
  rw[hB]
  generalize 2^sh=p
  generalize 2^(32-sh)=q
  grind
 have e2:=Nat.mod_add_div (d*2^(32-sh)) B
 have e3:d*2^(32-sh)/B=d/2^sh:=by
  rw[hB]
  exact Nat.mul_div_mul_right _ _ (Nat.two_pow_pos _)
 rw[e1,Nat.add_mul_div_left _ _ (Nat.two_pow_pos sh),Nat.mul_comm (2^(32-sh)) d]
 rw[e3] at e2
 generalize d*2^(32-sh)%B=z1 at *
 generalize d/2^sh=z2 at *
 rw[←e2,Nat.mul_add,Nat.mul_assoc,Nat.add_assoc]
theorem Eh9 {W0:PW} {M:Nat→Prop} {s:Sl} {x k:Nat} (h:Aa6 141 W0 s x) (hx:nl x≤274877906944) (hk:k≤1048576):
  Aa0 Tryz.prog 117 [.agg #[s.v],.int .i64 (k:Int)] W0 M fun v W'=>∃(s':Sl),v = .agg #[Sl.v s']∧Aa6 141 W' s' (x/2^k):=by
 apply Df5
 have hn:=h.n
 have hl:(dg x).length=nl x:=rfl
 unfold Dq5
 simp only[Fj7 hk,Eg1 (show k≤1099511627776 by omega),Em5]
 obtain⟨N,hN⟩: ∃N,k/32=N:=⟨_,rfl⟩
 obtain⟨sh,hsh⟩: ∃sh,k%32=sh:=⟨_,rfl⟩
 have hs32:sh<32:=by omega
 have hkk:k=32*N+sh:=by omega
 rw[hN,hsh]
 refine⟨by decide,fun hge W1 hE=>⟨⟨none,0,0⟩,rfl,?_⟩,fun hlt=>?_⟩
 ·have:x/2^k=0:=by
   apply Nat.div_eq_of_lt
   have h1:=Bb4 x
   rw[Bp0] at h1
   exact Nat.lt_of_lt_of_le h1 (Nat.pow_le_pow_right (by decide) (by omega))
  rw[this]
  exact⟨by simp[cel,Ae8],by simp,by decide,by simp[cel,Ae8],.inl (by simp[cel,Ae8])⟩
 have hNl:N<nl x:=by omega
 rw[show Int.toNat ((s.n:Nat):Int)=s.n from rfl,show Int.toNat ((N:Nat):Int)=N from rfl,show Int.toNat ((sh:Nat):Int)=sh from rfl,show Int.toNat ((s.n-N:Nat):Int)=s.n-N from rfl]
 have hc:Ad4 141 W0 (s.cut 1 N s.n) ((dg x).drop N):=by
  have:=Ad4.cut h (lo:=N) (hi:=s.n) (by omega) (by omega)
  rwa [List.take_of_length_le (by omega)] at this
 obtain⟨l,hll⟩: ∃l,(dg x).drop N=l:=⟨_,rfl⟩
 rw[hll] at hc
 have hlen:l.length=s.n-N:=by rw[←hll];simp;omega
 have hdl:Dig l:=by rw[←hll];exact(Ad8 x).drop N
 have hcap:=hc.2.1
 have hnc:=h.2.1
 refine⟨by decide,⟨by omega,by omega,by omega⟩,⟨trivial,by omega,by omega⟩,Fu9 l sh W0,Fw3 l,?_,?_⟩
 ·refine⟨Ext.refl _,0,List.replicate l.length 0,rfl,?_,by omega,by simp,fun d hd=>?_,by simp[val],fun hj h0=>by omega⟩
  ·rw[hlen];exact Ae3 _
  ·rw[(List.mem_replicate.1 hd).2];decide
 rintro l3 i4 W5 ⟨hE5,i,zs,rfl,rfl,hi,hz,hdz,hv,hp⟩
 have h5:=hc.ext hE5
 refine⟨fun hlt=>?_,fun hge s8 W9 hE9 hO hf=>?_⟩
 ·have hia:i<l.length:=by omega
  have hxB:=hdl.at hia
  obtain⟨d,hd⟩: ∃d,l[i]=d:=⟨_,rfl⟩
  rw[hd] at hxB
  have hiz:i<zs.length:=by omega
  have hdB:d/2^sh<B:=Nat.lt_of_le_of_lt (Nat.div_le_self ..) hxB
  have ht:Int.toNat (i:Int)=i:=rfl
  rw[ht]
  refine⟨Ad4.inB h5 (by omega) (by omega),(d:Int),by rw[←hd];exact Ad4.at h5 hia,?_⟩
  rw[Ay2]
  have hdtop:d/2^sh<2^(32-sh):=by
   rw[Nat.div_lt_iff_lt_mul (Nat.two_pow_pos _),←Nat.pow_add,show 32-sh+sh=32 by omega]
   exact hxB
  refine⟨by decide,⟨by omega,by show(sh:Int)≤32;omega⟩,⟨by omega,by rw[Aa5];omega⟩,by rw[Aa5];omega,fun hpos=>?_,fun hnp=>?_⟩
  ·have hi1:i-1<zs.length:=by omega
   have ei:(i:Int)-1=((i-1:Nat):Int):=by omega
   obtain⟨p,hpp⟩: ∃p,zs[i-1]=p:=⟨_,rfl⟩
   have hpi:=hp hi1 (by omega)
   rw[hpp] at hpi
   have hsetl:List.length (List.set (cel zs) i [Value.int .u32 ((d/2^sh:Nat):Int)])=zs.length:=by simp[Aa5]
   have e32:(32:Int)-(sh:Int)=((32-sh:Nat):Int):=by omega
   have hpw:2^(32-sh)≤4294967296:=Nat.pow_le_pow_right (by decide:0<2) (show 32-sh≤32 by omega)
   have hmul:d*2^(32-sh)<18446744073709551616:=by
    have h1:(d+1)*2^(32-sh)≤B*4294967296:=Nat.mul_le_mul hxB hpw
    have h2:=Nat.two_pow_pos (32-sh)
    rw[Nat.add_mul] at h1
    unfold B at h1
    omega
   have ed:IntKind.wrap .u64 ((d:Nat):Int)=(d:Int):=Ab1 (by unfold B at hxB;omega)
   have hB:B=2^(32-sh)*2^sh:=by rw[←Nat.pow_add,show 32-sh+sh=32 by omega];rfl
   have lo:(d*2^(32-sh))%B%2^(32-sh)=0:=by
    rw[hB,Nat.mod_mul_right_mod];exact Nat.mul_mod_left ..
   have hloB:(d*2^(32-sh))%B<B:=Nat.mod_lt _ Ad3
   have hjoin:p+(d*2^(32-sh))%B<B:=by
    have e2:=Nat.mod_add_div ((d*2^(32-sh))%B) (2^(32-sh))
    rw[lo,Nat.zero_add] at e2
    generalize (d*2^(32-sh))%B/2^(32-sh)=q at e2
    have:q<2^sh:=by
     apply Nat.lt_of_mul_lt_mul_left (a:=2^(32-sh))
     rw[e2,←hB];exact hloB
    have:=Nat.mul_le_mul_left (2^(32-sh)) (show q+1≤2^sh from this)
    rw[Nat.mul_add,e2,←hB] at this
    omega
   have eor:bits .or .u32 (p:Int) (((d*2^(32-sh)%B:Nat)):Int)=((p+d*2^(32-sh)%B:Nat):Int):=by
    rw[u32_or_nat _ _ (by unfold B at *;omega) (by unfold B at *;omega),Nat.or_comm,nat_join (32-sh) _ _ lo hpi,Nat.add_comm]
   rw[hsetl,ei,e32,show Int.toNat ((i-1:Nat):Int)=i-1 from rfl,show Int.toNat ((32-sh:Nat):Int)=32-sh from rfl]
   refine⟨by unfold I64;omega,⟨by omega,by omega⟩,(p:Int),?_⟩
   rw[ed,Dr8 hmul,Ab9,eor]
   refine⟨⟨[Value.int .u32 (p:Int)],?_,rfl⟩,by decide,by unfold I64;omega,⟨by omega,by show((32-sh:Nat):Int)≤64;omega⟩,⟨by omega,by omega⟩,by omega,by unfold I64;omega,?_,?_⟩
   ·rw[Ae9,Au0 (by simp;omega),List.getElem_set_ne (by omega),hpp]
   ·rw[Ae9,Ae9]
    refine⟨hE5,i+1,_,by push_cast;rfl,rfl,by omega,by simpa using hz,(hdz.set hdB).set hjoin,?_,fun hj h0=>?_⟩
    ·obtain⟨m,rfl⟩: ∃m,i=m+1:=⟨i-1,by omega⟩
     simp only[Nat.add_sub_cancel] at *
     rw[Aa4 hia,hd,Nat.pow_succ,Et1 hs32,←hv]
     have hm1:m+1<((zs.set (m+1) (d/2^sh)).set m (p+d*2^(32-sh)%B)).length:=by simp;omega
     have hm0:m<((zs.set (m+1) (d/2^sh)).set m (p+d*2^(32-sh)%B)).length:=by simp;omega
     have a1:((zs.set (m+1) (d/2^sh)).set m (p+d*2^(32-sh)%B))[m]'hm0=p+d*2^(32-sh)%B:=List.getElem_set_self _
     have a2:((zs.set (m+1) (d/2^sh)).set m (p+d*2^(32-sh)%B))[m+1]'hm1=d/2^sh:=by
      rw[List.getElem_set_ne (by omega),List.getElem_set_self]
     rw[Aa4 hm1,Aa4 hm0,Aa4 (show m<zs.length by omega),a1,a2,hpp,At3 (Nat.le_refl _),At3 (by omega),Nat.pow_succ]
     generalize d*2^(32-sh)%B=z1
     rw[Nat.mul_add]
     omega
    ·simp only[Nat.add_sub_cancel]
     rw[List.getElem_set_ne (by omega),List.getElem_set_self]
     exact hdtop
   ·show l.length-Int.toNat ((i:Int)+1)<l.length-Int.toNat (i:Int)
    omega
  ·have:i=0:=by omega
   subst this
   refine⟨by unfold I64;omega,?_,?_⟩
   ·rw[Ae9]
    refine⟨hE5,1,_,rfl,rfl,by omega,by simpa using hz,hdz.set hdB,?_,fun hj h0=>?_⟩
    ·rw[Aa4 (by simpa using hiz),Aa4 hia,hd,List.getElem_set_self]
     simp[val]
    ·simp only[Nat.sub_self]
     rw[List.getElem_set_self]
     exact hdtop
   ·show l.length-Int.toNat (((0:Nat):Int)+1)<l.length-Int.toNat ((0:Nat):Int)
    omega
 ·have:i=l.length:=by omega
  subst this
  have e:val zs=x/2^k:=by
   rw[List.take_length,←hz,List.take_length] at hv
   rw[hv,←hll]
   have e1:=Am8 (dg x) (k:=N) (by omega)
   rw[Ac5] at e1
   have e2:val ((dg x).drop N)=x/B^N:=by
    conv=>rhs;rw[e1]
    rw[Nat.add_mul_div_left _ _ (Nat.pow_pos Ad3),Nat.div_eq_of_lt (Ae6 (Ad8 x) N),Nat.zero_add]
   rw[e2,Bp0,Nat.div_div_eq_div_mul,←Nat.pow_add,←hkk]
  refine Ap7 hO.row hdz (by omega) fun s' W12 hE12 h1=>⟨s',rfl,fun W14 hE14=>⟨s',rfl,?_⟩⟩
  rw[e] at h1
  exact h1.ext hE14
theorem Br2 {W0 W:PW} {M:Nat→Prop} {s:Sl} {x k:Nat} {K:Value→PW→Prop} (h:Aa6 141 W s x) (hx:nl x≤274877906944) (hk:k≤1048576) (kont: ∀(s':Sl) (W':PW),Ext W W'→(Aa6 141 W' s' (x/2^k))→K (.agg #[Sl.v s']) W'):
  Aa1 Tryz.prog W0 M 117 [.agg #[s.v],.int .i64 (k:Int)] W K:=
 Aa2 (fun W' hE=>Eh9 (M:=fun _=>False) (h.ext hE) hx hk) (fun W' v W'' hE hE' hP=>by
  obtain⟨s',rfl,h⟩:=hP
  exact kont s' W'' (hE.trans hE') h)
end Go.Proofs.YtahohahjnhfedaaGreatDoor
/- nat: guess. -/
namespace Go.Proofs.YtahohahjnhfedaaGreatDoor
open Go Go.SX
theorem val_two {l:List Nat} {m:Nat} (h:l.length=m+2):val l=val (l.take m)+B^m*(l[m+1]*B+l[m]):=by
 have e:=Aa4 (l:=l) (k:=m+1) (by omega)
 rw[Aa4 (l:=l) (k:=m) (by omega),show m+1+1=l.length by omega,List.take_length,Nat.pow_succ] at e
 rw[e]
 generalize B^m=b
 grind
theorem Ei6 {l:List Nat} {m:Nat} (h:l.length=m+3):val l=val (l.take m)+B^m*((l[m+2]*B+l[m+1])*B+l[m]):=by
 have e:=Aa4 (l:=l) (k:=m+2) (by omega)
 rw[Aa4 (l:=l) (k:=m+1) (by omega),Aa4 (l:=l) (k:=m) (by omega),show m+2+1=l.length by omega,List.take_length] at e
 simp only[Nat.pow_succ] at e
 rw[e]
 generalize B^m=b
 grind
def Fc4 (U V top first:Nat) (W0:PW) (l:List PL) (W:PW):Prop:=
 match l with
 | [.val (.int .u64 g),.val (.int .u64 r)]=>Ext W0 W∧∃g' r':Nat,g=(g':Int)∧r=(r':Int)∧top=g'*first+r'∧U/V≤g'∧g'<18446744073709551616∧r'<8589934592
 | _=>False
def Eh7 (l:List PL) (W:PW):Nat:=
 match l with
 | [.val (.int .u64 g),_]=>g.toNat
 | _=>0
theorem Fb6 {W0:PW} {M:Nat→Prop} {u v:Sl} {us vs:List Nat} (hu:Ad4 141 W0 u us) (hv:Ad4 141 W0 v vs) (hdu:Dig us) (hdv:Dig vs) (hl:us.length=vs.length+1) (h2:2≤vs.length) (ht: ∀h:vs.length-1<vs.length,vs[vs.length-1]≠0) (hUV:val us<val vs*B) (hb:vs.length≤1099511627776):
  Aa0 Tryz.prog 146 [u.v,v.v] W0 M fun v W'=>∃(g:Nat),v = .int .u64 (g:Int)∧val us/val vs≤g∧g≤val us/val vs+1∧g<B:=by
 apply Cl2
 obtain⟨m,hm⟩: ∃m,vs.length=m+2:=⟨vs.length-2,by omega⟩
 have hum:us.length=m+3:=by omega
 have eV:=val_two hm
 have eU:=Ei6 hum
 have hn:=hv.n
 have b0:=hdu.at (k:=m+2) (by omega)
 have b1:=hdu.at (k:=m+1) (by omega)
 have b2:=hdu.at (k:=m) (by omega)
 have c1:=hdv.at (k:=m+1) (by omega)
 have c2:=hdv.at (k:=m) (by omega)
 have a0:=fun {W:PW} (h:Ad4 141 W u us)=>Ad4.at h (i:=m+2) (by omega)
 have a1:=fun {W:PW} (h:Ad4 141 W u us)=>Ad4.at h (i:=m+1) (by omega)
 have a2:=fun {W:PW} (h:Ad4 141 W u us)=>Ad4.at h (i:=m) (by omega)
 have d1:=fun {W:PW} (h:Ad4 141 W v vs)=>Ad4.at h (i:=m+1) (by omega)
 have d2:=fun {W:PW} (h:Ad4 141 W v vs)=>Ad4.at h (i:=m) (by omega)
 have hf0:vs[m+1]'(by omega)≠0:=by
  have h:=ht (by omega)
  simp only[hm,show m+2-1=m+1 from rfl] at h
  exact h
 have ul:=Ae6 hdu m
 have vl:=Ae6 hdv m
 obtain⟨u0,e0⟩: ∃d,us[m+2]'(by omega)=d:=⟨_,rfl⟩
 obtain⟨u1,e1⟩: ∃d,us[m+1]'(by omega)=d:=⟨_,rfl⟩
 obtain⟨u2,e2⟩: ∃d,us[m]'(by omega)=d:=⟨_,rfl⟩
 obtain⟨first,e3⟩: ∃d,vs[m+1]'(by omega)=d:=⟨_,rfl⟩
 obtain⟨v2,e4⟩: ∃d,vs[m]'(by omega)=d:=⟨_,rfl⟩
 simp only[e0,e1,e2,e3,e4] at *
 have hfp:0<first:=Nat.pos_of_ne_zero hf0
 have hP:0<B^m:=Nat.pow_pos Ad3
 obtain⟨U,hU⟩: ∃U,val us=U:=⟨_,rfl⟩
 obtain⟨V,hV⟩: ∃V,val vs=V:=⟨_,rfl⟩
 rw[hU] at eU hUV
 rw[hV] at eV hUV
 rw[hU,hV]
 obtain⟨top,htop⟩: ∃t,u0*B+u1=t:=⟨_,rfl⟩
 rw[htop] at eU
 have hV1:(first*B+v2)*B^m≤V:=by rw[eV,Nat.mul_comm];omega
 have hV2:V<(first*B+v2+1)*B^m:=by rw[eV,Nat.add_mul,Nat.mul_comm (first*B+v2)];omega
 have hU1:(top*B+u2)*B^m≤U:=by rw[eU,Nat.mul_comm];omega
 have hU2:U<(top*B+u2+1)*B^m:=by rw[eU,Nat.add_mul,Nat.mul_comm (top*B+u2)];omega
 have hVp:0<V:=by
  have:0<(first*B+v2)*B^m:=Nat.mul_pos (by have:=Nat.mul_pos hfp Ad3;omega) hP
  omega
 have hqV:U/V*V≤U:=Nat.div_mul_le_self U V
 have hqB:U/V<B:=(Nat.div_lt_iff_lt_mul hVp).2 (by rw[Nat.mul_comm];exact hUV)
 obtain⟨q,hqd⟩: ∃q,U/V=q:=⟨_,rfl⟩
 have htf:top<(first+1)*B:=by
  have h1:(top*B+u2)*B^m<(first*B+v2+1)*B^m*B:=by
   have:=Nat.mul_lt_mul_of_pos_right hV2 Ad3
   omega
  have h2:(first*B+v2+1)*B^m*B=(first*B+v2+1)*B*B^m:=by rw[Nat.mul_assoc,Nat.mul_assoc,Nat.mul_comm (B^m)]
  rw[h2] at h1
  have h3:=Nat.lt_of_mul_lt_mul_right h1
  have h4:(first*B+v2+1)*B≤(first+1)*B*B:=Nat.mul_le_mul_right B (by rw[Nat.add_mul];omega)
  exact Nat.lt_of_mul_lt_mul_right (a:=B) (by omega)
 have hf64:IntKind.wrap .u64 (first:Int)=(first:Int):=Ab1 (by unfold B at c1;omega)
 have htopB:top<18446744073709551616:=by unfold B at *;omega
 have etop:bits .or .u64 (Bc5 .u64 (IntKind.wrap .u64 (u0:Int)) 32) (IntKind.wrap .u64 (u1:Int))=(top:Int):=by
  rw[Ab1 (n:=u0) (by unfold B at b0;omega),Ab1 (n:=u1) (by unfold B at b1;omega),Eh5 b0,Dq8 b1 b0,htop]
 have edv:IntKind.wrap .u64 (Int.tdiv (top:Int) (first:Int))=((top/first:Nat):Int):=by
  rw[Int.tdiv_eq_ediv_of_nonneg (by omega),←Int.natCast_ediv,Ab1 (Nat.lt_of_le_of_lt (Nat.div_le_self ..) htopB)]
 have emd:Int.tmod (top:Int) (first:Int)=((top%first:Nat):Int):=by
  rw[Int.tmod_eq_emod_of_nonneg (by omega)];rfl
 have x1:(v.n:Int)=((m+2:Nat):Int):=by omega
 have x2:((m+2:Nat):Int)-1=((m+1:Nat):Int):=by omega
 have x3:((m+2:Nat):Int)-2=(m:Int):=by omega
 unfold Cf8
 simp only[x2,x3,x1]
 have t1:Int.toNat ((m+2:Nat):Int)=m+2:=rfl
 have t2:Int.toNat ((m+1:Nat):Int)=m+1:=rfl
 have t3:Int.toNat ((m:Nat):Int)=m:=rfl
 simp only[t1,t2,t3]
 have q0:=Dv6 (q:=U/V) hP Ad3 (V:=V) (first:=first) (top:=top) (U:=U) (X:=0) (by
   have:first*(B*B^m)=first*B*B^m:=by rw[Nat.mul_assoc]
   have:=Nat.mul_le_mul_right (B^m) (Nat.le_add_right (first*B) v2)
   omega) (by
   have:(top+1)*(B*B^m)=(top+1)*B*B^m:=by rw[Nat.mul_assoc]
   have:=Nat.mul_le_mul_right (B^m) (show top*B+u2+1≤(top+1)*B by rw[Nat.add_mul];omega)
   omega) hqV hfp
 refine⟨Ad4.inB hu (by omega) (by omega),_,a0 hu,by unfold I64;omega,Ad4.inB hu (by omega) (by omega),_,a1 hu,by unfold I64;omega,Ad4.inB hv (by omega) (by omega),_,d1 hv,?_⟩
 rw[hf64,etop,edv,emd]
 refine⟨by omega,by omega,Fc4 U V top first W0,Eh7,?_,?_⟩
 ·have hm:=Nat.mod_lt top hfp
  have hd:=Nat.mod_add_div top first
  rw[Nat.mul_comm] at hd
  exact⟨Ext.refl _,_,_,rfl,rfl,by omega,q0,Nat.lt_of_le_of_lt (Nat.div_le_self ..) htopB,by unfold B at c1;omega⟩
 rintro i6 i7 W8 ⟨hE8,g,r,rfl,rfl,hgr,hq,hg64,hr⟩
 rw[hqd] at hq
 have fin:g<B→g*v2≤r*B+u2→U/V≤g∧g≤U/V+1∧g<B:=fun hgB hle=>⟨by rw[hqd];exact hq,Ee6 hV1 hV2 hU1 hfp hgr hle hgB hVp,hgB⟩
 have next:r<B→q<g→Fc4 U V top first W0 [.val (.int .u64 (IntKind.wrap .u64 ((g:Int)-1))),.val (.int .u64 (IntKind.wrap .u64 ((r:Int)+(first:Int))))] W8∧
   Eh7 [.val (.int .u64 (IntKind.wrap .u64 ((g:Int)-1))),.val (.int .u64 (IntKind.wrap .u64 ((r:Int)+(first:Int))))] W8<Eh7 [.val (.int .u64 (g:Int)),.val (.int .u64 (r:Int))] W8:=fun hrB hqg=>by
  have ea:(g:Int)-1=((g-1:Nat):Int):=by omega
  have eb:(r:Int)+(first:Int)=((r+first:Nat):Int):=by omega
  rw[ea,eb,Ab1 (by omega),Ab1 (by unfold B at *;omega)]
  refine⟨⟨hE8,g-1,r+first,rfl,rfl,?_,by rw[hqd];omega,by omega,by unfold B at *;omega⟩,?_⟩
  ·obtain⟨g',rfl⟩: ∃g',g=g'+1:=⟨g-1,by omega⟩
   rw[hgr,Nat.add_mul,Nat.add_sub_cancel]
   omega
  ·show Int.toNat ((g-1:Nat):Int)<Int.toNat (g:Int)
   omega
 refine⟨fun hlt=>⟨fun hge=>?_,fun hge=>?_⟩,fun hge=>fun W13 hE13=>⟨g,rfl,?_⟩⟩
 ·have hrB:r<B:=by unfold B;omega
  have hBg:B≤g:=by unfold B;omega
  exact next hrB (by rw[hqd] at hqB;omega)
 ·have hrB:r<B:=by unfold B;omega
  have hgB:g<B:=by unfold B;omega
  have e5:bits .or .u64 (Bc5 .u64 (r:Int) 32) (IntKind.wrap .u64 (u2:Int))=((r*B+u2:Nat):Int):=by
   rw[Ab1 (n:=u2) (by unfold B at b2;omega),Eh5 hrB,Dq8 b2 hrB]
  have e6:IntKind.wrap .u64 ((g:Int)*IntKind.wrap .u64 (v2:Int))=((g*v2:Nat):Int):=by
   rw[Ab1 (n:=v2) (by unfold B at c2;omega),←Int.natCast_mul,Ab1]
   have:=Nat.mul_le_mul (Nat.le_of_lt hgB) (Nat.le_of_lt c2)
   have h3:g*v2≤(B-1)*(B-1):=Nat.mul_le_mul (by omega) (by omega)
   unfold B at h3
   omega
  refine⟨by unfold I64;omega,Ad4.inB (hv.ext hE8) (by omega) (by omega),_,d2 (hv.ext hE8),by unfold I64;omega,Ad4.inB (hu.ext hE8) (by omega) (by omega),_,a2 (hu.ext hE8),?_⟩
  rw[e5,e6]
  refine⟨fun h=>next hrB (by rw[←hqd];exact Ec0 hP hV1 hU2 hqV hgr (by omega)),fun h W12 hE12=>⟨g,rfl,fin hgB (by omega)⟩⟩
 ·have hrB:B≤r:=by unfold B;omega
  have hgB:g<B:=by
   apply Nat.lt_of_not_le
   intro h
   have:=Nat.mul_le_mul_right first h
   rw[Nat.add_mul,Nat.mul_comm first B] at htf
   omega
  refine fin hgB ?_
  have h1:=Nat.mul_le_mul (Nat.le_of_lt hgB) (Nat.le_of_lt c2)
  have h2:=Nat.mul_le_mul_right B hrB
  omega
theorem Dz5 {W0 W:PW} {M:Nat→Prop} {u v:Sl} {us vs:List Nat} {K:Value→PW→Prop} (hu:Ad4 141 W u us) (hv:Ad4 141 W v vs) (hdu:Dig us) (hdv:Dig vs) (hl:us.length=vs.length+1) (h2:2≤vs.length) (ht: ∀h:vs.length-1<vs.length,vs[vs.length-1]≠0) (hUV:val us<val vs*B) (hb:vs.length≤1099511627776) (kont: ∀(g:Nat) (W':PW),Ext W W'→(val us/val vs≤g∧g≤val us/val vs+1∧g<B)→K (.int .u64 (g:Int)) W'):
  Aa1 Tryz.prog W0 M 146 [u.v,v.v] W K:=
 Aa2 (fun W' hE=>Fb6 (M:=fun _=>False) (hu.ext hE) (hv.ext hE) hdu hdv hl h2 ht hUV hb) (fun W' v W'' hE hE' hP=>by
  obtain⟨g,rfl,h⟩:=hP
  exact kont g W'' (hE.trans hE') h)
end Go.Proofs.YtahohahjnhfedaaGreatDoor
/- nat: take. -/
namespace Go.Proofs.YtahohahjnhfedaaGreatDoor
open Go Go.SX
def Fq3 (us vs:List Nat) (gq:Nat) (g o:Nat) (cs:Array Value) (W0:PW) (l:List PL) (W:PW):Prop:=
 match l with
 | [.val (.int .u64 c),.val (.int .u64 low),.val (.int .i64 i)]=>∃(c' low' i':Nat) (ws:List Nat),c=(c':Int)∧low=(low':Int)∧i=(i':Int)∧Aq5 W0 W g cs 141 o (cv ws)∧i'≤vs.length∧ws.length=us.length∧Dig ws∧ws.drop i'=us.drop i'∧
   val (ws.take i')+gq*val (vs.take i')=val (us.take i')+B^i'*(c'+low')∧c'<B∧low'≤1
 | _=>False
def Fq7 (vs:List Nat) (l:List PL) (W:PW):Nat:=
 match l with
 | [_,_,.val (.int .i64 i)]=>vs.length-i.toNat
 | _=>0
theorem Dw7 {W0:PW} {u v:Sl} {us vs:List Nat} {g o gq:Nat} {cs:Array Value} (hm:Mut W0 141 u g o cs us) (hv:Ad4 141 W0 v vs) (hne: ∀a:Addr,v.A=Option.some a→a.block≠g) (hl:us.length=vs.length+1) (hdu:Dig us) (hdv:Dig vs) (hg:gq<B) (hb:vs.length≤1099511627776):
  Aa0 Tryz.prog 147 [u.v,v.v,.int .u64 (gq:Int)] W0 (fun b=>b=g) fun r W'=>∃(neg:Nat) (ws:List Nat),r = .bool (decide (neg=1))∧neg≤1∧ws.length=us.length∧Dig ws∧val ws+gq*val vs=val us+B^us.length*neg∧Aq5 W0 W' g cs 141 o (cv ws):=by
 apply Dc5
 have hn:=hv.n
 refine⟨Fq3 us vs gq g o cs W0,Fq7 vs,⟨0,0,0,us,rfl,rfl,rfl,hm.start (Ext.refl _),by omega,rfl,hdu,rfl,by simp[val],by decide,by omega⟩,?_⟩
 rintro i3 i4 i5 W6 ⟨c,low,i,ws,rfl,rfl,rfl,hput,hi,hwl,hdw,hdr,hval,hc,hlow⟩
 have hm6:=hm.put hput hwl
 have hu6:=hm6.row
 have hv6:Ad4 141 W6 v vs:=Row.other hv hput.ext fun a ha=>hne a ha
 have hmay:may W0 (fun b=>b=g) g:=.inl rfl
 refine⟨fun hlt=>?_,fun hge=>?_⟩
 ·have hiv:i<vs.length:=by omega
  have hiw:i<ws.length:=by omega
  have hiu:i<us.length:=by omega
  have dv:=hdv.at hiv
  have du:=hdu.at hiu
  have ewu:ws[i]=us[i]:=by
   have h1:ws[i]?=us[i]?:=by
    have:=congrArg (fun l=>l[0]?) hdr
    simpa using this
   rw[List.getElem?_eq_getElem hiw,List.getElem?_eq_getElem hiu] at h1
   exact Option.some.inj h1
  have hx:=Ad4.at hv6 hiv
  have hy:=Ad4.at hu6 hiw
  rw[ewu] at hy
  obtain⟨x,hxx⟩: ∃x,vs[i]=x:=⟨_,rfl⟩
  obtain⟨y,hyy⟩: ∃y,us[i]=y:=⟨_,rfl⟩
  rw[hxx] at hx dv
  rw[hyy] at hy du
  have hcg:c+gq*x≤(B-1)*B:=by
   have h1:gq*x≤(B-1)*(B-1):=Nat.mul_le_mul (by omega) (by omega)
   unfold B at *
   omega
  have e1:IntKind.wrap .u64 ((c:Int)+IntKind.wrap .u64 ((gq:Int)*IntKind.wrap .u64 (x:Int)))=((c+gq*x:Nat):Int):=by
   have h1:gq*x≤(B-1)*(B-1):=Nat.mul_le_mul (by omega) (by omega)
   rw[Ab1 (n:=x) (by unfold B at dv;omega),←Int.natCast_mul,Ab1 (n:=gq*x) (by unfold B at h1;omega),←Int.natCast_add,Ab1 (by unfold B at hcg;omega)]
  have e2:bits .and .u64 ((c+gq*x:Nat):Int) 4294967295=(((c+gq*x)%B:Nat):Int):=by
   have:=bits_and_u64_nat (c+gq*x) 4294967295 (by unfold B at hcg;omega) (by decide)
   rw[show((4294967295:Nat):Int)=4294967295 from rfl] at this
   rw[this]
   congr 1
   exact Nat.and_two_pow_sub_one_eq_mod _ 32
  have e3:IntKind.wrap .u64 (y:Int)=(y:Int):=Ab1 (by unfold B at du;omega)
  obtain⟨z,neg,s1,s2,s3,s4,s5⟩:=Cg9 (d:=(c+gq*x)%B) du hlow (Nat.mod_lt _ Ad3)
  refine⟨Ad4.inB hv6 (by omega) (by omega),_,hx,Ad4.inB hu6 (by omega) (by omega),_,hy,Ad4.inB hu6 (by omega) (by omega),?_⟩
  rw[e1,e2,e3,s1,s2,Ao0,Nat.mul_one,Nat.add_zero,show Int.toNat (i:Int)=i from rfl]
  refine Ar7 hm hput hwl hiw hmay fun W9 hput9=>⟨by unfold I64;omega,⟨(c+gq*x)/B,neg,i+1,_,rfl,rfl,by push_cast;rfl,hput9,by omega,by simpa using hwl,hdw.set s4,?_,?_,?_,s3⟩,?_⟩
  ·rw[Ah5 (Nat.lt_succ_self i)]
   have:=congrArg (List.drop 1) hdr
   simpa[List.drop_drop] using this
  ·rw[Ac1 hiw,Aa4 hiv,Aa4 hiu,hxx,hyy,Nat.pow_succ]
   exact Ee8 hval s5
  ·rw[Nat.div_lt_iff_lt_mul Ad3]
   unfold B at *
   omega
  ·show vs.length-Int.toNat ((i:Int)+1)<vs.length-Int.toNat (i:Int)
   omega
 ·have:i=vs.length:=by omega
  subst this
  have hiw:vs.length<ws.length:=by omega
  have hiu:vs.length<us.length:=by omega
  have du:=hdu.at hiu
  have ewu:ws[vs.length]=us[vs.length]:=by
   have h1:ws[vs.length]?=us[vs.length]?:=by
    have:=congrArg (fun l=>l[0]?) hdr
    simpa using this
   rw[List.getElem?_eq_getElem hiw,List.getElem?_eq_getElem hiu] at h1
   exact Option.some.inj h1
  have hy:=Ad4.at hu6 hiw
  rw[ewu] at hy
  obtain⟨y,hyy⟩: ∃y,us[vs.length]=y:=⟨_,rfl⟩
  rw[hyy] at hy du
  have e3:IntKind.wrap .u64 (y:Int)=(y:Int):=Ab1 (by unfold B at du;omega)
  obtain⟨z,neg,s1,s2,s3,s4,s5⟩:=Cg9 (d:=c) du hlow hc
  rw[show(v.n:Int)=((vs.length:Nat):Int) by omega,show Int.toNat ((vs.length:Nat):Int)=vs.length from rfl]
  refine⟨Ad4.inB hu6 (by omega) (by omega),_,hy,Ad4.inB hu6 (by omega) (by omega),?_⟩
  rw[e3,s1,s2,Nat.mul_one,Nat.add_zero]
  refine Ar7 hm hput hwl hiw hmay fun W11 hput11 W12 hE12=>⟨neg,_,?_,s3,by simpa using hwl,hdw.set s4,?_,hput11.ext' hE12⟩
  ·congr 1
   apply decide_eq_decide.2
   omega
  ·have h1:(ws.set vs.length z).take (vs.length+1)=ws.set vs.length z:=List.take_of_length_le (by simp;omega)
   have h2:=Ac1 (d:=z) hiw
   rw[h1] at h2
   have h3:=Aa4 hiu
   rw[show us.take (vs.length+1)=us from List.take_of_length_le (by omega),hyy] at h3
   rw[List.take_length] at hval
   rw[h2,h3,hl,Nat.pow_succ]
   generalize B^vs.length=b at *
   have:b*(z+low+c)=b*(y+B*neg):=by rw[s5]
   have e:b*B*neg=b*(B*neg):=Nat.mul_assoc ..
   have e4:b*(z+low+c)=b*z+b*(c+low):=by rw[Nat.add_assoc,Nat.mul_add,Nat.add_comm low c]
   have e5:b*(y+B*neg)=b*y+b*(B*neg):=Nat.mul_add ..
   omega
end Go.Proofs.YtahohahjnhfedaaGreatDoor
