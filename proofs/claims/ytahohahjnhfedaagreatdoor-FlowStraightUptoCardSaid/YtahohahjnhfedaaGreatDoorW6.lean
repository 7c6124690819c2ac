/- cinctureref1: texts of numbers; cincturelaw3.Is. -/
import Derived.Test.YtahohahjnhfedaaGreatDoorW5
import Derived.Test.YtahohahjnhfedaaGreatDoorR7
import Derived.Test.YtahohahjnhfedaaGreatDoorW3
import Derived.Test.YtahohahjnhfedaaGreatDoorLib3
import Derived.Shelf.SlSortCmp.WholeK
import Derived.Shelf.SlGeneric
import Derived.Test.YtahohahjnhfedaaGreatDoorProg
import Derived.Maps.Keyed
import Derived.DeepKeys5
import Derived.Test.YtahohahjnhfedaaGreatDoorR8
import Derived.Test.YtahohahjnhfedaaGreatDoorR9
import Derived.Shelf.Spec.SlicesGrow
set_option linter.unusedVariables false
set_option linter.unusedSimpArgs false
set_option maxRecDepth 100000
namespace Go.Proofs.YtahohahjnhfedaaGreatDoor
open Go Go.SX
def ntI (x:Nat) (W0:PW) (l:List PL) (W:PW):Prop:=
 match l with
 | [.row l7,.val (.slice A n c)]=>W0.w.heap.size≤W.w.heap.size∧∃(ds:List Nat) (y:Nat),l7=An4 ds∧dec x=ds ++ dec y∧nl y≤nl x∧Go.SX.Own W 141 1 ⟨A,n,c⟩ (cel (dg y))∧Aq4 W0 ⟨A,n,c⟩
 | _=>False
noncomputable def ntM (l:List PL) (W:PW):Nat:=
 match l with
 | [_,.val (.slice A n c)]=>slN W 141 ⟨A,n,c⟩
 | _=>0
def ntJ (y:Nat) (s:Sl) (W0:PW) (l:List PL) (W:PW):Prop:=
 match l with
 | [.val (.int .u64 r),.val (.int .i64 i)]=>W0.w.heap.size≤W.w.heap.size∧∃(r' k:Nat) (ws:List Nat),r=(r':Int)∧i=(k:Int)-1∧k≤nl y∧r'<10∧ws.length=nl y∧Dig ws∧Go.SX.Own W 141 1 s (cel ws)∧
   10*val (ws.drop k)+r'=val ((dg y).drop k)∧ws.take k=(dg y).take k
 | _=>False
def dnM (l:List PL) (W:PW):Nat:=
 match l with
 | [_,.val (.int .i64 i)]=>(i+1).toNat
 | _=>0
theorem Fq8 {r d V U:Nat} (h:10*V+r=U) (hr:r<10) (hd:d<B):(r*B+d)/10<B∧10*((r*B+d)/10+B*V)+(r*B+d)%10=d+B*U:=by
 have e:=Nat.mod_add_div (r*B+d) 10
 have e2:B*U=10*(B*V)+r*B:=by rw[←h,Nat.mul_add];grind
 generalize B*V=x at *
 generalize B*U=y at *
 unfold B at *
 omega
theorem Dl5 {W0:PW} {M:Nat→Prop} {s:Sl} {x:Nat} (h:Aa6 141 W0 s x) (hx:nl x≤100000000):
  Aa0 Tryz.prog 141 [s.v] W0 M fun v W'=>v = .string (En3 x)∧True:=by
 apply Bn1
 have hn:=h.n
 have lx:(cel (dg x)).length=nl x:=Aa5 _
 refine⟨fun h0 W1 hE1=>⟨?_,trivial⟩,fun h0=>⟨cel (dg x),⟨_,h⟩,by omega,fun s3 W4 hE4 hO4 hf4=>⟨ntI x W0,ntM,⟨hE4.size,[],x,rfl,rfl,Nat.le_refl _,hO4,fun g hg=>(hf4 g hg).1⟩,?_⟩⟩⟩
 ·have:x=0:=Ad0.1 (by omega)
  subst this
  rfl
 have hx0:x≠0:=fun e=>by rw[e,Ag9] at hn;omega
 have hdl:(dec x).length≤32*nl x:=by
  refine Dn5 _ ?_
  have h1:=Bb4 x
  rw[Bp0] at h1
  exact Nat.lt_of_lt_of_le h1 (Nat.pow_le_pow_left (by decide) _)
 rintro l7 s8 W9 ⟨hW9,ds,y,rfl,hdx,hny,hO9,hF⟩
 have hO9:Go.SX.Own W9 141 1 s8 (cel (dg y)):=hO9
 have hF:Aq4 W0 s8:=hF
 have hds:ds.length≤32*nl x:=by rw[hdx,List.length_append] at hdl;omega
 have hn8:s8.n=nl y:=by have:=hO9.n;rw[Aa5] at this;exact this
 refine⟨fun hpos=>⟨by unfold I64;omega,ntJ y s8 W0,dnM,⟨hW9,0,nl y,dg y,rfl,by omega,Nat.le_refl _,by decide,rfl,Ad8 y,hO9,?_,rfl⟩,?_⟩,fun hz s20 W21 hE21 hO21 hf21=>?_⟩
 ·rw[List.drop_eq_nil_of_le (by exact Nat.le_refl _)]
  rfl
 ·have hy0:y≠0:=fun e=>by rw[e,Ag9] at hn8;omega
  rintro i12 i13 W14 ⟨hW14,r,k,ws,rfl,rfl,hk,hr,hwl,hwd,hO14,hv,ht⟩
  refine⟨fun hge=>?_,fun hlt=>?_⟩
  ·have hk1:k-1<ws.length:=by omega
   have hk2:k-1<(dg y).length:=by show k-1<nl y;omega
   have e1:(k:Int)-1=((k-1:Nat):Int):=by omega
   have hkd:ws[k-1]=(dg y)[k-1]:=by
    have:(ws.take k)[k-1]?=((dg y).take k)[k-1]?:=by rw[ht]
    rw[List.getElem?_take,List.getElem?_take,if_pos (by omega),if_pos (by omega),List.getElem?_eq_getElem hk1,List.getElem?_eq_getElem hk2] at this
    exact Option.some.inj this
   have hdB:=hwd.at hk1
   obtain⟨d,hd⟩: ∃d,ws[k-1]=d:=⟨_,rfl⟩
   rw[hd] at hdB hkd
   have hib:inB s8 ((k-1:Nat):Int):=Own.Fi5 hO14 (by omega) (by rw[Aa5];omega)
   have hrB:r*B<18446744073709551616:=by unfold B;omega
   have w0:Bc5 .u64 (r:Int) 32=((r*B:Nat):Int):=Eh5 (by unfold B;omega)
   have w1:IntKind.wrap .u64 (d:Int)=(d:Int):=Ab1 (by unfold B at hdB;omega)
   have w2:bits .or .u64 ((r*B:Nat):Int) (d:Int)=((r*B+d:Nat):Int):=Dq8 hdB (by unfold B;omega)
   have w3:Int.tdiv ((r*B+d:Nat):Int) 10=(((r*B+d)/10:Nat):Int):=by rw[Int.tdiv_eq_ediv_of_nonneg (by omega)];rfl
   have w4:Int.tmod ((r*B+d:Nat):Int) 10=(((r*B+d)%10:Nat):Int):=by rw[Int.tmod_eq_emod_of_nonneg (by omega)];rfl
   have hdr:=Ah9 hk2
   rw[←hkd,show k-1+1=k by omega] at hdr
   have hdv:=Fq8 hv hr hdB
   have w5:IntKind.wrap .u32 (IntKind.wrap .u64 (((r*B+d)/10:Nat):Int))=(((r*B+d)/10:Nat):Int):=by
    rw[Ab1 (by have:=hdv.1;unfold B at this⊢;omega),Ab9,Nat.mod_eq_of_lt hdv.1]
   rw[e1]
   refine⟨hib,(d:Int),by rw[←hd];exact Own.at1 hO14 (Au0 hk1),by decide,hib,?_⟩
   rw[w0,w1,w2,w3,w4,w5]
   refine Ao7 (j:=k-1) hO14 (by rw[Aa5];exact hk1) rfl (fun u hu=>by rw[List.mem_singleton.1 hu];rfl) (fun g hg=>.inr (hF g hg)) fun W16 g hg hw hO16=>⟨by decide,by unfold I64;omega,⟨Nat.le_trans hW14 hw.Fi9.size,(r*B+d)%10,k-1,ws.set (k-1) ((r*B+d)/10),rfl,by omega,by omega,by omega,by simpa using hwl,hwd.set hdv.1,by rw[←Ae9];exact hO16,?_,?_⟩,?_⟩
   ·have h1:=Ah9 (l:=ws.set (k-1) ((r*B+d)/10)) (k:=k-1) (by simpa using hk1)
    rw[List.getElem_set_self,show k-1+1=k by omega,Ah5 (n:=k) (k:=k-1) (by omega)] at h1
    rw[h1,hdr]
    exact hdv.2
   ·rw[At3 (Nat.le_refl _)]
    have:=congrArg (List.take (k-1)) ht
    rwa [List.take_take,List.take_take,Nat.min_eq_left (by omega)] at this
   ·show Int.toNat (((k-1:Nat):Int)-1+1)<Int.toNat (((k-1:Nat):Int)+1)
    omega
  ·have hk0:k=0:=by omega
   subst hk0
   rw[List.drop_zero,List.drop_zero,Ac5] at hv
   have e1:val ws=y/10:=by omega
   have e2:r=y%10:=by omega
   have w1:IntKind.wrap .u8 (IntKind.wrap .u64 (48+(r:Int)))=48+(r:Int):=by
    rw[show(48:Int)+(r:Int)=((48+r:Nat):Int) by push_cast;rfl,Ab1 (by omega),Du1 (by omega) (by omega)]
   rw[w1]
   refine⟨by rw[Ah2];simp only[List.length_cons,List.length_nil];omega,Cm7 hO14.row hwd (by omega) fun k W18 hE18 ⟨hk,he⟩=>⟨⟨s8.A,k,s8.c⟩,rfl,⟨Nat.le_trans hW14 hE18.size,ds ++ [r],y/10,?_,?_,Nat.le_trans (Ad1 (Nat.div_le_self ..)) hny,?_,fun g hg=>hF g (Cj9 hg)⟩,?_⟩⟩
   ·rw[Bp9];rfl
   ·rw[hdx,Dj5 hy0,e2,List.append_assoc];rfl
   ·rw[←e1,he,←Bo2]
    exact(hO14.ext hE18).take (by rw[Aa5];exact hk)
   ·have i1:Aa6 141 W18 ⟨s8.A,k,s8.c⟩ (y/10):=by
     show Ad4 141 W18 _ (dg (y/10))
     rw[←e1,he]
     exact Row.ext (Ad4.take hO14.row hk) hE18
    have i2:Aa6 141 W9 s8 y:=hO9.row
    show slN W18 _ _<slN W9 _ s8
    rw[Bl5 i1,Bl5 i2]
    exact Nat.div_lt_self (by omega) (by decide)
 ·have hy0:y=0:=Ad0.1 (by omega)
  subst hy0
  rw[Ay1,List.append_nil] at hdx
  have hbl:(An4 ds).length=ds.length:=Ah2 ds
  have hn20:s20.n=ds.length:=by rw[hO21.n,hbl]
  have one: ∀(z:Int) (u:Value),u∈[Value.int .u8 z]→u.oneCell'=true:=by
   intro z u hu
   rw[List.mem_singleton.1 hu];rfl
  have w1:IntKind.wrap .i64 (Int.tdiv (ds.length:Int) 2)=((ds.length/2:Nat):Int):=by
   rw[Int.tdiv_eq_ediv_of_nonneg (by omega),show(ds.length:Int)/2=((ds.length/2:Nat):Int) by rfl]
   simp[IntKind.wrap,IntKind.bits,IntKind.signed]
   omega
  rw[hn20,w1]
  refine⟨fun l W=>match l with
   | [.val (.int .i64 i)]=>∃(k:Nat) (ys:List (List Value)),i=(k:Int)∧Go.SX.Own W 5 1 s20 ys∧ys.length=ds.length∧k≤ds.length/2∧
     ∀a,a<(An4 ds).length→ys[a]?=if a<k∨(An4 ds).length≤a+k then(An4 ds)[(An4 ds).length-1-a]? else(An4 ds)[a]?
   | _=>False,fun l _=>match l with | [.val (.int .i64 i)]=>ds.length-i.toNat | _=>0,⟨0,An4 ds,rfl,hO21,hbl,Nat.zero_le _,fun a ha=>by rw[if_neg (by omega)]⟩,?_⟩
  rintro i24 W25 ⟨k,ys,rfl,hO,hyl,hk,hys⟩
  refine⟨by decide,fun hlt=>?_,fun hge=>⟨(dec x).reverse.map fun(d:Nat)=>48+(d:Int),?_,fun W30 _=>⟨?_,trivial⟩⟩⟩
  ·have hkn:k<ds.length-1-k:=by omega
   have ej:(ds.length:Int)-1-(k:Int)=((ds.length-1-k:Nat):Int):=by omega
   have hjl:ds.length-1-k<ds.length:=by omega
   have hkl:k<ds.length:=by omega
   have e1:(An4 ds)[ds.length-1-k]?=some [.int .u8 (48+ds[ds.length-1-k]:Int)]:=by simp[An4,hjl]
   have e2:(An4 ds)[k]?=some [.int .u8 (48+ds[k]:Int)]:=by simp[An4,hkl]
   have y1:ys[ds.length-1-k]?=some [.int .u8 (48+ds[ds.length-1-k]:Int)]:=by rw[hys _ (by omega),if_neg (by omega),e1]
   have y2:ys[k]?=some [.int .u8 (48+ds[k]:Int)]:=by rw[hys _ (by omega),if_neg (by omega),e2]
   rw[ej]
   have ib1:inB s20 ((ds.length-1-k:Nat):Int):=Own.Fi5 hO (by omega) (by omega)
   have ib2:inB s20 ((k:Nat):Int):=Own.Fi5 hO (by omega) (by omega)
   have hmay: ∀g,s20.v.ownBlock=some g→may W0 M g:=fun g hg=>.inr (hf21 g hg).1
   refine⟨by unfold I64;omega,by unfold I64;omega,by unfold I64;omega,by unfold I64;omega,ib1,_,Own.at1 hO y1,ib2,_,Own.at1 hO y2,ib2,?_⟩
   refine Ao7 (j:=k) hO (by omega) rfl (one _) hmay fun W8 g hg hw hO8=>⟨ib1,?_⟩
   refine Ao7 (j:=ds.length-1-k) hO8 (by rw[List.length_set];omega) rfl (one _) hmay fun W9 g' hg' hw' hO9=>⟨by unfold I64;omega,⟨k+1,_,by push_cast;rfl,hO9,by simp[hyl],by omega,?_⟩,?_⟩
   ·have:=Dr2 (xs:=An4 ds) (ys:=ys) (by omega) (by omega) (by rw[hbl];exact e1) e2 hys
    rw[hbl] at this⊢
    exact this
   ·show ds.length-Int.toNat ((k:Int)+1)<ds.length-Int.toNat (k:Int)
    omega
  ·have:=Do5 (xs:=An4 ds) (ys:=ys) (k:=k) (by omega) (by omega) hys
   have e:((dec x).reverse.map fun(d:Nat)=>48+(d:Int)).map (fun i=>[Value.int .u8 i])=(An4 ds).reverse:=by rw[hdx];simp[An4]
   rw[e,←this]
   exact hO.row
  ·unfold En3
   rw[if_neg hx0]
theorem At9 {W0 W:PW} {M:Nat→Prop} {s:Sl} {x:Nat} {K:Value→PW→Prop} (h:Aa6 141 W s x) (hx:nl x≤100000000) (kont: ∀(W':PW),Ext W W'→(True)→K (.string (En3 x)) W'):
  Aa1 Tryz.prog W0 M 141 [s.v] W K:=
 Aa2 (fun W' hE=>Dl5 (M:=fun _=>False) (h.ext hE) hx) (fun W' v W'' hE hE' hP=>by
  obtain⟨rfl,h⟩:=hP
  exact kont W'' (hE.trans hE') h)
theorem De9 {W0:PW} {M:Nat→Prop} {s:Sl} {b:Bool} {z:Int} (h:Ab5 141 W0 s b z) (hz:nl z.natAbs≤100000000):
  Aa0 Tryz.prog 140 [.agg #[.bool b,s.v]] W0 M fun v W'=>v = .string (Dq2 z)∧True:=by
 apply Bn4
 have hs:=Av8 z.natAbs
 have hb:=h.2
 refine⟨fun ht=>At9 h.1 hz fun W2 hE2 _=>⟨_,rfl,?_,fun W4 _=>⟨?_,trivial⟩⟩,fun hf=>At9 h.1 hz fun W6 hE6 _=>⟨_,rfl,fun W8 _=>⟨?_,trivial⟩⟩⟩
 ·show((1:Nat):Int)+_≤_
  omega
 ·have:z<0:=by rw[hb] at ht;exact of_decide_eq_true ht
  unfold Dq2
  rw[if_pos this]
 ·have:¬z<0:=by rw[hb] at hf;exact of_decide_eq_false hf
  unfold Dq2
  rw[if_neg this]
theorem Bf1 {W0 W:PW} {M:Nat→Prop} {s:Sl} {b:Bool} {z:Int} {K:Value→PW→Prop} (h:Ab5 141 W s b z) (hz:nl z.natAbs≤100000000) (kont: ∀(W':PW),Ext W W'→(True)→K (.string (Dq2 z)) W'):
  Aa1 Tryz.prog W0 M 140 [.agg #[.bool b,s.v]] W K:=
 Aa2 (fun W' hE=>De9 (M:=fun _=>False) (h.ext hE) hz) (fun W' v W'' hE hE' hP=>by
  obtain⟨rfl,h⟩:=hP
  exact kont W'' (hE.trans hE') h)
theorem Di8 {W0:PW} {M:Nat→Prop} {s t:Sl} {b:Bool} {q:Rat} {k:Nat} (h:Ab6 141 W0 b s t q) (hq:Sz k q) (hk:k≤100000000):
  Aa0 Tryz.prog 106 [.agg #[.bool b,s.v,t.v]] W0 M fun v W'=>v = .string (Ed0 q)∧True:=by
 apply Bm4
 have h1:=hq.1
 have h2:=hq.2
 have hs1:=Cr1 q.num
 have hs2:=Av8 q.den
 refine Ag4 h fun s3 W2 hE2 h3=>⟨s3,rfl,Ae0 (x:=1) (by decide) fun s6 W5 hE5 h6=>⟨s6,rfl,Aj3 (h3.ext hE5) h6 (by omega) fun W8 hE8 _=>⟨_,rfl,fun h0=>?_,fun h0=>?_⟩⟩⟩
 ·have hden:q.den=1:=(Av7 _ 1).1 h0
  refine Bf1 (h.1.ext ((hE2.trans hE5).trans hE8)) (by omega) fun W11 hE11 _=>⟨_,rfl,fun W13 _=>⟨?_,trivial⟩⟩
  unfold Ed0
  rw[if_pos hden]
 ·have hden:q.den≠1:=fun e=>h0 ((Av7 _ 1).2 e)
  have hd:Aa6 141 W0 t q.den:=by
   rcases h.2 with h | h
   ·exact h
   ·exact absurd h.1 hden
  have hE:=(hE2.trans hE5).trans hE8
  refine Bf1 (h.1.ext hE) (by omega) fun W15 hE15 _=>⟨_,rfl,?_,At9 (hd.ext (hE.trans hE15)) (by omega) fun W18 hE18 _=>⟨_,rfl,?_,fun W20 _=>⟨?_,trivial⟩⟩⟩
  ·show _+((1:Nat):Int)≤_
   omega
  ·rw[ByteArray.size_append]
   show(((Dq2 q.num).size+1:Nat):Int)+_≤_
   omega
  ·unfold Ed0
   rw[if_neg hden]
theorem Cl5 {W0 W:PW} {M:Nat→Prop} {s t:Sl} {b:Bool} {q:Rat} {k:Nat} {K:Value→PW→Prop} (h:Ab6 141 W b s t q) (hq:Sz k q) (hk:k≤100000000) (kont: ∀(W':PW),Ext W W'→(True)→K (.string (Ed0 q)) W'):
  Aa1 Tryz.prog W0 M 106 [.agg #[.bool b,s.v,t.v]] W K:=
 Aa2 (fun W' hE=>Di8 (M:=fun _=>False) (h.ext hE) hq hk) (fun W' v W'' hE hE' hP=>by
  obtain⟨rfl,h⟩:=hP
  exact kont W'' (hE.trans hE') h)
end Go.Proofs.YtahohahjnhfedaaGreatDoor
/- cmp.Compare, cmp.Or, slices.Compare; mono.Degree, mono.Mul, mono.Cmp. -/
namespace Go.Proofs.YtahohahjnhfedaaGreatDoor
open Go Go.SX
theorem De3 {W0:PW} {M:Nat→Prop} {x:Int} :
  Aa0 Tryz.prog 178 [.int .i64 x] W0 M fun v W'=>v = .bool false∧True:=by
 apply Bi1
 exact fun W1 _=>⟨by simp,trivial⟩
theorem Bf6 {W0 W:PW} {M:Nat→Prop} {x:Int} {K:Value→PW→Prop} (kont: ∀(W':PW),Ext W W'→(True)→K (.bool false) W'):
  Aa1 Tryz.prog W0 M 178 [.int .i64 x] W K:=
 Aa2 (fun W' hE=>De3 (M:=fun _=>False) ) (fun W' v W'' hE hE' hP=>by
  obtain⟨rfl,h⟩:=hP
  exact kont W'' (hE.trans hE') h)
theorem Du6 {W0:PW} {M:Nat→Prop} {x:Int} :
  Aa0 Tryz.prog 185 [.int .u8 x] W0 M fun v W'=>v = .bool false∧True:=by
 apply Bb5
 exact fun W1 _=>⟨by simp,trivial⟩
theorem Bk7 {W0 W:PW} {M:Nat→Prop} {x:Int} {K:Value→PW→Prop} (kont: ∀(W':PW),Ext W W'→(True)→K (.bool false) W'):
  Aa1 Tryz.prog W0 M 185 [.int .u8 x] W K:=
 Aa2 (fun W' hE=>Du6 (M:=fun _=>False) ) (fun W' v W'' hE hE' hP=>by
  obtain⟨rfl,h⟩:=hP
  exact kont W'' (hE.trans hE') h)
theorem Ed4 {W0:PW} {M:Nat→Prop} {x y:Int} :
  Aa0 Tryz.prog 161 [.int .i64 x,.int .i64 y] W0 M fun v W'=>v = .int .i64 (As4 x y)∧True:=by
 apply Ba9
 refine Bf6 fun W2 _ _=>⟨false,rfl,Bf6 fun W5 _ _=>⟨false,rfl,fun h=>(by cases h),fun _=>⟨fun h=>(by cases h),fun _=>⟨fun h W _=>⟨?_,trivial⟩,fun h=>⟨fun h' W _=>⟨?_,trivial⟩,fun h' W _=>⟨?_,trivial⟩⟩⟩⟩⟩⟩
 ·unfold As4;rw[if_pos h]
 ·unfold As4;rw[if_neg h,if_neg (by omega)]
 ·unfold As4;rw[if_neg h,if_pos (by omega)]
theorem Dj2 {W0 W:PW} {M:Nat→Prop} {x y:Int} {K:Value→PW→Prop} (kont: ∀(W':PW),Ext W W'→(True)→K (.int .i64 (As4 x y)) W'):
  Aa1 Tryz.prog W0 M 161 [.int .i64 x,.int .i64 y] W K:=
 Aa2 (fun W' hE=>Ed4 (M:=fun _=>False) ) (fun W' v W'' hE hE' hP=>by
  obtain⟨rfl,h⟩:=hP
  exact kont W'' (hE.trans hE') h)
theorem Eu5 {W0:PW} {M:Nat→Prop} {x y:Int} :
  Aa0 Tryz.prog 179 [.int .u8 x,.int .u8 y] W0 M fun v W'=>v = .int .i64 (As4 x y)∧True:=by
 apply Aw3
 refine Bk7 fun W2 _ _=>⟨false,rfl,Bk7 fun W5 _ _=>⟨false,rfl,fun h=>(by cases h),fun _=>⟨fun h=>(by cases h),fun _=>⟨fun h W _=>⟨?_,trivial⟩,fun h=>⟨fun h' W _=>⟨?_,trivial⟩,fun h' W _=>⟨?_,trivial⟩⟩⟩⟩⟩⟩
 ·unfold As4;rw[if_pos h]
 ·unfold As4;rw[if_neg h,if_neg (by omega)]
 ·unfold As4;rw[if_neg h,if_pos (by omega)]
theorem Dy4 {W0 W:PW} {M:Nat→Prop} {x y:Int} {K:Value→PW→Prop} (kont: ∀(W':PW),Ext W W'→(True)→K (.int .i64 (As4 x y)) W'):
  Aa1 Tryz.prog W0 M 179 [.int .u8 x,.int .u8 y] W K:=
 Aa2 (fun W' hE=>Eu5 (M:=fun _=>False) ) (fun W' v W'' hE hE' hP=>by
  obtain⟨rfl,h⟩:=hP
  exact kont W'' (hE.trans hE') h)
theorem Ew1 {W0:PW} {M:Nat→Prop} {s:Sl} {x y:Int} (h:Bf9 W0 1 s [[.int .i64 x],[.int .i64 y]]):
  Aa0 Tryz.prog 160 [s.v] W0 M fun v W'=>v = .int .i64 (if x≠0 then x else y)∧True:=by
 apply Cd0
 have hn:s.n=2:=let⟨_,h⟩:=h;h.1
 refine⟨fun l W=>match l with | [.val (.int .i64 i)]=>Ext W0 W∧∃k:Nat,i=(k:Int)∧k≤2∧(0<k→x=0)∧(1<k→y=0) | _=>False,fun l _=>match l with | [.val (.int .i64 i)]=>2-i.toNat | _=>0,⟨Ext.refl _,0,rfl,by omega,by omega,by omega⟩,?_⟩
 rintro i3 W4 ⟨hE,k,rfl,hk,hx,hy⟩
 refine⟨fun hlt=>?_,fun hge W7 _=>⟨?_,trivial⟩⟩
 ·have hk2:k<2:=by omega
  obtain⟨t,h⟩:=h.ext hE
  have hel:Aa7 W4 s 1 k 0 [.int .i64 (if k=0 then x else y)]:=by
   rcases(by omega:k=0∨k=1) with rfl | rfl
   ·exact h.part (x:=[.int .i64 x]) rfl 0 rfl
   ·exact h.part (x:=[.int .i64 y]) rfl 0 rfl
  refine⟨h.inB (by omega) (by simp;omega),_,hel,fun hne W6 _=>⟨?_,trivial⟩,fun heq=>⟨by unfold I64;omega,⟨hE,k+1,by push_cast;rfl,by omega,fun _=>?_,fun h1=>?_⟩,?_⟩⟩
  ·rcases(by omega:k=0∨k=1) with rfl | rfl
   ·rw[if_pos rfl] at hne
    rw[if_pos rfl,if_pos hne]
   ·rw[if_neg (by omega),if_neg (fun h=>h (hx (by omega)))]
  ·rcases(by omega:k=0∨k=1) with rfl | rfl
   ·rw[if_pos rfl] at heq
    omega
   ·exact hx (by omega)
  ·have:k=1:=by omega
   subst this
   rw[if_neg (by omega)] at heq
   omega
  ·show 2-Int.toNat ((k:Int)+1)<2-Int.toNat (k:Int)
   omega
 ·rw[if_neg (fun h=>h (hx (by omega))),hy (by omega)]
theorem Dw1 {W0 W:PW} {M:Nat→Prop} {s:Sl} {x y:Int} {K:Value→PW→Prop} (h:Bf9 W 1 s [[.int .i64 x],[.int .i64 y]]) (kont: ∀(W':PW),Ext W W'→(True)→K (.int .i64 (if x≠0 then x else y)) W'):
  Aa1 Tryz.prog W0 M 160 [s.v] W K:=
 Aa2 (fun W' hE=>Ew1 (M:=fun _=>False) (h.ext hE)) (fun W' v W'' hE hE' hP=>by
  obtain⟨rfl,h⟩:=hP
  exact kont W'' (hE.trans hE') h)
def An6 (m:Mon) (k:Nat):Int:=if k=0 then m.x else if k=1 then m.y else m.z
theorem Aw0 (m:Mon) {k:Nat} (hk:k<3) (a b c:Int) (ha:a=m.x) (hb:b=m.y) (hc:c=m.z):As9 [.int .u8 a,.int .u8 b,.int .u8 c] (0+Int.toNat (k:Int)*1+0) [.int .u8 (An6 m k)]:=by
 subst ha;subst hb;subst hc
 rcases(by omega:k=0∨k=1∨k=2) with rfl | rfl | rfl<;>exact⟨by simp,rfl⟩
theorem Cn5 (m:Mon) {k:Nat} (hk:k<3):List.take 1 (List.drop (Int.toNat (k:Int)*1) [Value.int .u8 m.x,.int .u8 m.y,.int .u8 m.z]) = [.int .u8 (An6 m k)]:=by
 rcases(by omega:k=0∨k=1∨k=2) with rfl | rfl | rfl<;>rfl
theorem Dg9 {m:Mon} (h:m.ok) (k:Nat):0≤An6 m k∧An6 m k≤255:=by
 unfold Mon.ok at h
 unfold An6
 split
 ·omega
 ·split<;>omega
theorem Ck8 {W0:PW} {M:Nat→Prop} {m:Mon} (hm:m.ok):
  Aa0 Tryz.prog 162 [.agg ⟨[.int .u8 m.x,.int .u8 m.y,.int .u8 m.z]⟩] W0 M fun v W'=>v = .int .i64 m.deg∧True:=by
 apply Bp2
 refine⟨fun l W=>match l with | [.val (.int .i64 a),.val (.int .i64 i)]=>Ext W0 W∧∃k:Nat,i=(k:Int)∧k≤3∧a=(if 0<k then m.x else 0)+(if 1<k then m.y else 0)+(if 2<k then m.z else 0) | _=>False,fun l _=>match l with | [_,.val (.int .i64 i)]=>3-i.toNat | _=>0,⟨Ext.refl _,0,rfl,by omega,by simp⟩,?_⟩
 rintro i3 i4 W5 ⟨hE,k,rfl,hk,rfl⟩
 have ho:=hm
 unfold Mon.ok at ho
 refine⟨fun hlt=>?_,fun hge W7 _=>⟨?_,trivial⟩⟩
 ·have hk3:k<3:=by omega
  have hek:=Dg9 hm k
  have hs:0≤(if 0<k then m.x else 0)+(if 1<k then m.y else 0)+(if 2<k then m.z else 0)∧(if 0<k then m.x else 0)+(if 1<k then m.y else 0)+(if 2<k then m.z else 0)≤765:=by
   repeat' split
   all_goals omega
  refine⟨⟨by omega,by omega⟩,_,Cn5 m hk3,by unfold I64;omega,by unfold I64;omega,by unfold I64;omega,⟨hE,k+1,by push_cast;rfl,by omega,?_⟩,?_⟩
  ·rcases(by omega:k=0∨k=1∨k=2) with rfl | rfl | rfl<;>simp[An6]
  ·show 3-Int.toNat ((k:Int)+1)<3-Int.toNat (k:Int)
   omega
 ·have:k=3:=by omega
  subst this
  simp[Mon.deg]
theorem Ax1 {W0 W:PW} {M:Nat→Prop} {m:Mon} {K:Value→PW→Prop} (hm:m.ok) (kont: ∀(W':PW),Ext W W'→(True)→K (.int .i64 m.deg) W'):
  Aa1 Tryz.prog W0 M 162 [.agg ⟨[.int .u8 m.x,.int .u8 m.y,.int .u8 m.z]⟩] W K:=
 Aa2 (fun W' hE=>Ck8 (M:=fun _=>False) hm) (fun W' v W'' hE hE' hP=>by
  obtain⟨rfl,h⟩:=hP
  exact kont W'' (hE.trans hE') h)
def Ey8 (a b:Mon):Int:=if a.x≠b.x then As4 a.x b.x else if a.y≠b.y then As4 a.y b.y else As4 a.z b.z
theorem Dh1 {a b:Mon} {k:Nat} (hk:k<3) (h: ∀j,j<k→An6 a j=An6 b j) (hne:An6 a k≠An6 b k):Ey8 a b=As4 (An6 a k) (An6 b k):=by
 unfold Ey8
 rcases(by omega:k=0∨k=1∨k=2) with rfl | rfl | rfl
 ·rw[if_pos (by simpa[An6] using hne)];rfl
 ·have h0:=h 0 (by omega)
  rw[if_neg (fun e=>e (by simpa[An6] using h0)),if_pos (by simpa[An6] using hne)];rfl
 ·have h0:=h 0 (by omega)
  have h1:=h 1 (by omega)
  rw[if_neg (fun e=>e (by simpa[An6] using h0)),if_neg (fun e=>e (by simpa[An6] using h1))];rfl
theorem Eq5 {a b:Mon} (h: ∀j,j<3→An6 a j=An6 b j):Ey8 a b=0:=by
 have h0:a.x=b.x:=by simpa[An6] using h 0 (by omega)
 have h1:a.y=b.y:=by simpa[An6] using h 1 (by omega)
 have h2:a.z=b.z:=by simpa[An6] using h 2 (by omega)
 unfold Ey8 As4
 rw[if_neg (fun e=>e h0),if_neg (fun e=>e h1),if_neg (by omega),if_pos h2]
theorem Ch0 (a b:Mon):a.cmp b=(if As4 a.deg b.deg≠0 then As4 a.deg b.deg else Ey8 a b):=by
 unfold Mon.cmp Mon.lt Ey8 As4
 by_cases h1:a.deg<b.deg
 ·simp[h1]
 ·by_cases h2:a.deg=b.deg
  ·by_cases h3:a.x=b.x
   ·by_cases h4:a.y=b.y
    ·by_cases h5:a.z=b.z
     ·have:a=b:=Mon.Fp2 h3 h4 h5
      subst this
      simp
     ·have:a≠b:=fun e=>h5 (by rw[e])
      simp[h2,h3,h4,h5,this]
    ·have:a≠b:=fun e=>h4 (by rw[e])
     simp[h2,h3,h4,this]
   ·have:a≠b:=fun e=>h3 (by rw[e])
    simp[h2,h3,this]
  ·have:a≠b:=fun e=>h2 (by rw[e])
   simp[h1,h2,this]
theorem Ef2 {W:PW} {t:TypeId} {s:Sl} {m:Mon} (h:Row W t 1 s [[.int .u8 m.x],[.int .u8 m.y],[.int .u8 m.z]]) {k:Nat} (hk:k<3):Aa7 W s 1 k 0 [.int .u8 (An6 m k)]:=by
 rcases(by omega:k=0∨k=1∨k=2) with rfl | rfl | rfl
 ·exact h.part (x:=[.int .u8 m.x]) rfl 0 rfl
 ·exact h.part (x:=[.int .u8 m.y]) rfl 0 rfl
 ·exact h.part (x:=[.int .u8 m.z]) rfl 0 rfl
theorem Ex1 {W0:PW} {M:Nat→Prop} {s t:Sl} {a b:Mon} (h1:Bf9 W0 1 s [[.int .u8 a.x],[.int .u8 a.y],[.int .u8 a.z]]) (h2:Bf9 W0 1 t [[.int .u8 b.x],[.int .u8 b.y],[.int .u8 b.z]]):
  Aa0 Tryz.prog 163 [s.v,t.v] W0 M fun v W'=>v = .int .i64 (Ey8 a b)∧True:=by
 apply Am4
 have hn1:s.n=3:=let⟨_,h⟩:=h1;h.1
 have hn2:t.n=3:=let⟨_,h⟩:=h2;h.1
 refine⟨fun l W=>match l with | [.val (.int .i64 i)]=>Ext W0 W∧∃k:Nat,i=(k:Int)∧k≤3∧∀j,j<k→An6 a j=An6 b j | _=>False,fun l _=>match l with | [.val (.int .i64 i)]=>3-i.toNat | _=>0,⟨Ext.refl _,0,rfl,by omega,fun j hj=>by omega⟩,?_⟩
 rintro i3 W4 ⟨hE,k,rfl,hk,hj⟩
 refine⟨fun hlt=>?_,fun hge=>⟨fun h=>by omega,fun _ W13 _=>⟨?_,trivial⟩⟩⟩
 ·have hk3:k<3:=by omega
  obtain⟨_,r1⟩:=h1.ext hE
  obtain⟨_,r2⟩:=h2.ext hE
  refine⟨r1.inB (by omega) (by simp;omega),_,Ef2 (k:=k) r1 hk3,fun h=>by omega,fun _=>⟨r2.inB (by omega) (by simp;omega),_,Ef2 (k:=k) r2 hk3,Dy4 fun W9 hE9 _=>⟨_,rfl,fun hne W11 _=>⟨?_,trivial⟩,fun heq=>⟨by unfold I64;omega,⟨hE.trans hE9,k+1,by push_cast;rfl,by omega,fun j h=>?_⟩,?_⟩⟩⟩⟩
  ·have:An6 a k≠An6 b k:=fun e=>hne (by rw[e];unfold As4;simp)
   rw[Dh1 hk3 hj this]
  ·by_cases e:j=k
   ·subst e
    unfold As4 at heq
    by_cases h1:An6 a j<An6 b j
    ·simp[h1] at heq
    ·by_cases h2:An6 a j=An6 b j
     ·exact h2
     ·simp[h1,h2] at heq
   ·exact hj j (by omega)
  ·show 3-Int.toNat ((k:Int)+1)<3-Int.toNat (k:Int)
   omega
 ·have:k=3:=by omega
  subst this
  rw[Eq5 hj]
theorem Eb5 {W0 W:PW} {M:Nat→Prop} {s t:Sl} {a b:Mon} {K:Value→PW→Prop} (h1:Bf9 W 1 s [[.int .u8 a.x],[.int .u8 a.y],[.int .u8 a.z]]) (h2:Bf9 W 1 t [[.int .u8 b.x],[.int .u8 b.y],[.int .u8 b.z]]) (kont: ∀(W':PW),Ext W W'→(True)→K (.int .i64 (Ey8 a b)) W'):
  Aa1 Tryz.prog W0 M 163 [s.v,t.v] W K:=
 Aa2 (fun W' hE=>Ex1 (M:=fun _=>False) (h1.ext hE) (h2.ext hE)) (fun W' v W'' hE hE' hP=>by
  obtain⟨rfl,h⟩:=hP
  exact kont W'' (hE.trans hE') h)
theorem Dy0 {W0:PW} {M:Nat→Prop} {a b:Mon} (ha:a.ok) (hb:b.ok):
  Aa0 Tryz.prog 137 [.agg ⟨[.int .u8 a.x,.int .u8 a.y,.int .u8 a.z]⟩,.agg ⟨[.int .u8 b.x,.int .u8 b.y,.int .u8 b.z]⟩] W0 M fun v W'=>v = .int .i64 (a.cmp b)∧True:=by
 apply Cp6
 refine Ax1 ha fun W2 _ _=>⟨_,rfl,Ax1 hb fun W5 _ _=>⟨_,rfl,Dj2 fun W8 _ _=>⟨_,rfl,fun s10 W11 hE11 h11 _ s12 W13 hE13 h13 _=>Eb5 (h11.ext hE13) h13 fun W15 _ _=>⟨_,rfl,fun s17 W18 _ hO _=>Dw1 ⟨_,hO.row⟩ fun W20 _ _=>⟨_,rfl,fun W22 _=>⟨?_,trivial⟩⟩⟩⟩⟩⟩
 rw[Ch0]
theorem Bk9 {W0 W:PW} {M:Nat→Prop} {a b:Mon} {K:Value→PW→Prop} (ha:a.ok) (hb:b.ok) (kont: ∀(W':PW),Ext W W'→(True)→K (.int .i64 (a.cmp b)) W'):
  Aa1 Tryz.prog W0 M 137 [.agg ⟨[.int .u8 a.x,.int .u8 a.y,.int .u8 a.z]⟩,.agg ⟨[.int .u8 b.x,.int .u8 b.y,.int .u8 b.z]⟩] W K:=
 Aa2 (fun W' hE=>Dy0 (M:=fun _=>False) ha hb) (fun W' v W'' hE hE' hP=>by
  obtain⟨rfl,h⟩:=hP
  exact kont W'' (hE.trans hE') h)
theorem Du1 {z:Int} (h0:0≤z) (h:z≤255):IntKind.wrap .u8 z=z:=by simp[IntKind.wrap,IntKind.bits,IntKind.signed];omega
instance (m:Mon):Decidable m.ok:=by unfold Mon.ok;infer_instance
def mulMon (a b:Mon):Mon:=if(a.add b).ok then a.add b else⟨0,0,0⟩
def Fh0 (a b:Mon) (l:List PL):Prop:=match l with
 | [.val (.int .i64 i),_,.cells [.int .u8 x,.int .u8 y,.int .u8 z]]=>∃k:Nat,i=(k:Int)∧k≤3∧x=(if 0<k then a.x+b.x else a.x)∧y=(if 1<k then a.y+b.y else a.y)∧z=(if 2<k then a.z+b.z else a.z)∧∀j,j<k→An6 a j+An6 b j≤255
 | _=>False
theorem Dv9 {a b:Mon} {k:Nat} (h:255<An6 a k+An6 b k):¬(a.add b).ok:=by
 unfold Mon.ok Mon.add
 unfold An6 at h
 split at h
 ·dsimp only;omega
 ·split at h
  ·dsimp only;omega
  ·dsimp only;omega
theorem Eb9 {W0:PW} {M:Nat→Prop} {a b:Mon} (ha:a.ok) (hb:b.ok):
  Aa0 Tryz.prog 133 [.agg ⟨[.int .u8 a.x,.int .u8 a.y,.int .u8 a.z]⟩,.agg ⟨[.int .u8 b.x,.int .u8 b.y,.int .u8 b.z]⟩] W0 M fun v W'=>v = .tuple ⟨[.agg ⟨[.int .u8 (mulMon a b).x,.int .u8 (mulMon a b).y,.int .u8 (mulMon a b).z]⟩,.bool (decide (a.add b).ok)]⟩∧True:=by
 apply Cw3
 refine⟨fun l W=>Ext W0 W∧Fh0 a b l,fun l _=>match l with | [.val (.int .i64 i),_,_]=>3-i.toNat | _=>0,⟨Ext.refl _,0,rfl,by omega,rfl,rfl,rfl,fun j hj=>by omega⟩,?_⟩
 rintro i3 i4 i5 i6 i7 i8 i9 W10 ⟨hE,k,rfl,hk,hx,hy,hz,hj⟩
 refine⟨fun hlt=>?_,fun hge W15 _=>⟨?_,trivial⟩⟩
 ·have hk3:k<3:=by omega
  have ea:=Dg9 ha k
  have eb:=Dg9 hb k
  have hbox:As9 [.int .u8 i6,.int .u8 i7,.int .u8 i8] (0+Int.toNat (k:Int)*1+0) [.int .u8 (An6 a k)]:=by
   rcases(by omega:k=0∨k=1∨k=2) with rfl | rfl | rfl
   ·simp at hx;subst hx;exact Aw0 ⟨a.x,i7,i8⟩ (k:=0) (by omega) _ _ _ rfl rfl rfl
   ·simp at hy;subst hy;exact Aw0 ⟨i6,a.y,i8⟩ (k:=1) (by omega) _ _ _ rfl rfl rfl
   ·simp at hz;subst hz;exact Aw0 ⟨i6,i7,a.z⟩ (k:=2) (by omega) _ _ _ rfl rfl rfl
  have hr:(0:Int)≤(k:Int)∧(k:Int)<3:=⟨by omega,by omega⟩
  refine⟨hr,_,Cn5 b hk3,hr,_,hbox,by unfold I64;omega,by unfold I64;omega,by unfold I64;omega,fun h255 W13 _=>⟨?_,trivial⟩,fun hle=>⟨hr,_,hbox,hr,by omega,⟨⟨trivial,fun h0=>?_⟩,fun h1=>?_⟩,fun h2=>?_⟩⟩
  ·have:=Dv9 h255
   rw[decide_eq_false this]
   unfold mulMon
   rw[if_neg this]
  all_goals
   have hw:IntKind.wrap .u8 (An6 a k+An6 b k)=An6 a k+An6 b k:=Du1 (by omega) (by omega)
   rw[hw]
   have hkk:Int.toNat (k:Int)=k:=by omega
   rw[hkk] at *
  ·subst h0
   refine⟨by unfold I64;omega,⟨hE,1,rfl,by omega,by simp[An6],by simpa using hy,by simpa using hz,fun j h=>?_⟩,by show 3-Int.toNat (((0:Nat):Int)+1)<3-Int.toNat ((0:Nat):Int);omega⟩
   have:j=0:=by omega
   subst this;omega
  ·subst h1
   refine⟨by unfold I64;omega,⟨hE,2,rfl,by omega,by simpa using hx,by simp[An6],by simpa using hz,fun j h=>?_⟩,by show 3-Int.toNat (((1:Nat):Int)+1)<3-Int.toNat ((1:Nat):Int);omega⟩
   rcases(by omega:j=0∨j=1) with rfl | rfl
   ·exact hj 0 (by omega)
   ·omega
  ·subst h2
   refine⟨by unfold I64;omega,⟨hE,3,rfl,by omega,by simpa using hx,by simpa using hy,by simp[An6],fun j h=>?_⟩,by show 3-Int.toNat (((2:Nat):Int)+1)<3-Int.toNat ((2:Nat):Int);omega⟩
   rcases(by omega:j<2∨j=2) with h | rfl
   ·exact hj j h
   ·omega
 ·have:k=3:=by omega
  subst this
  have h0:=hj 0 (by omega)
  have h1:=hj 1 (by omega)
  have h2:=hj 2 (by omega)
  simp[An6] at h0 h1 h2 hx hy hz
  have hok:(a.add b).ok:=by
   unfold Mon.ok at ha hb
   unfold Mon.ok Mon.add
   dsimp only
   omega
  rw[decide_eq_true hok]
  unfold mulMon
  rw[if_pos hok,hx,hy,hz]
  rfl
theorem Cs6 {W0 W:PW} {M:Nat→Prop} {a b:Mon} {K:Value→PW→Prop} (ha:a.ok) (hb:b.ok) (kont: ∀(W':PW),Ext W W'→(True)→K (.tuple ⟨[.agg ⟨[.int .u8 (mulMon a b).x,.int .u8 (mulMon a b).y,.int .u8 (mulMon a b).z]⟩,.bool (decide (a.add b).ok)]⟩) W'):
  Aa1 Tryz.prog W0 M 133 [.agg ⟨[.int .u8 a.x,.int .u8 a.y,.int .u8 a.z]⟩,.agg ⟨[.int .u8 b.x,.int .u8 b.y,.int .u8 b.z]⟩] W K:=
 Aa2 (fun W' hE=>Eb9 (M:=fun _=>False) ha hb) (fun W' v W'' hE hE' hP=>by
  obtain⟨rfl,h⟩:=hP
  exact kont W'' (hE.trans hE') h)
theorem Dz4 {W0:PW} {M:Nat→Prop} {a b:Mon} {s1 s2 s3 s4:Sl} {b1 b2:Bool} (ha:a.ok) (hb:b.ok):
  Aa0 Tryz.prog 136 [.agg ⟨[.int .u8 a.x,.int .u8 a.y,.int .u8 a.z,s1.v,.bool b1,s2.v]⟩,.agg ⟨[.int .u8 b.x,.int .u8 b.y,.int .u8 b.z,s3.v,.bool b2,s4.v]⟩] W0 M fun v W'=>v = .int .i64 (a.cmp b)∧True:=by
 apply Az1
 exact Bk9 ha hb fun W2 _ _=>⟨_,rfl,fun W4 _=>⟨rfl,trivial⟩⟩
end Go.Proofs.YtahohahjnhfedaaGreatDoor
/- Layings of the library's generic functions, as the kit's command says them. -/
namespace Go.Proofs.YtahohahjnhfedaaGreatDoor
open Go Go.Shelf Go.Proofs
def Dt7:Go.Shelf.Ren:=⟨fun | 6=>135 | 15=>159 | 14=>158 | 28=>98 | 29=>177 | 20=>169 | 21=>170 | 22=>171 | 23=>172 | 24=>173 | 25=>174 | 26=>175 | 27=>176 | 46=>180 | 47=>181 | 48=>182 | 49=>183 | 50=>184 | 57=>186 | n=>n,fun | 22=>70 | 24=>127 | 25=>205 | 3=>3 | 39=>148 | 0=>0 | 53=>141 | 55=>110 | 4=>4 | 46=>236 | 45=>235 | 50=>240 | 5=>5 | 9=>9 | 66=>246 | 70=>249 | 76=>252 | 77=>253 | n=>n,fun | n=>n⟩
theorem Fe0:Go.Proofs.SlLaysF0.n6 Tryz.prog Dt7 where
 mixed:=by kernel_rfl
 f6:=⟨ "slices.SortFunc[[]cincture/poly.Term,cincture/poly.Term]",by decide,Tryz.func135.trans (congrArg some (by kernel_rfl))⟩
 f14:=⟨ "slices.pdqsortCmpFunc[cincture/poly.Term]",by decide,Tryz.func158.trans (congrArg some (by kernel_rfl))⟩
 f15:=Tryz.func159.trans (congrArg some (by kernel_rfl))
 f20:=⟨ "slices.insertionSortCmpFunc[cincture/poly.Term]",by decide,Tryz.func169.trans (congrArg some (by kernel_rfl))⟩
 f21:=⟨ "slices.heapSortCmpFunc[cincture/poly.Term]",by decide,Tryz.func170.trans (congrArg some (by kernel_rfl))⟩
 f22:=⟨ "slices.breakPatternsCmpFunc[cincture/poly.Term]",by decide,Tryz.func171.trans (congrArg some (by kernel_rfl))⟩
 f23:=⟨ "slices.choosePivotCmpFunc[cincture/poly.Term]",by decide,Tryz.func172.trans (congrArg some (by kernel_rfl))⟩
 f24:=⟨ "slices.reverseRangeCmpFunc[cincture/poly.Term]",by decide,Tryz.func173.trans (congrArg some (by kernel_rfl))⟩
 f25:=⟨ "slices.partialInsertionSortCmpFunc[cincture/poly.Term]",by decide,Tryz.func174.trans (congrArg some (by kernel_rfl))⟩
 f26:=⟨ "slices.partitionEqualCmpFunc[cincture/poly.Term]",by decide,Tryz.func175.trans (congrArg some (by kernel_rfl))⟩
 f27:=⟨ "slices.partitionCmpFunc[cincture/poly.Term]",by decide,Tryz.func176.trans (congrArg some (by kernel_rfl))⟩
 f28:=Tryz.func98.trans (congrArg some (by kernel_rfl))
 f29:=Tryz.func177.trans (congrArg some (by kernel_rfl))
 f46:=⟨ "slices.siftDownCmpFunc[cincture/poly.Term]",by decide,Tryz.func180.trans (congrArg some (by kernel_rfl))⟩
 f47:=Tryz.func181.trans (congrArg some (by kernel_rfl))
 f48:=Tryz.func182.trans (congrArg some (by kernel_rfl))
 f49:=⟨ "slices.medianAdjacentCmpFunc[cincture/poly.Term]",by decide,Tryz.func183.trans (congrArg some (by kernel_rfl))⟩
 f50:=⟨ "slices.medianCmpFunc[cincture/poly.Term]",by decide,Tryz.func184.trans (congrArg some (by kernel_rfl))⟩
 f57:=⟨ "slices.order2CmpFunc[cincture/poly.Term]",by decide,Tryz.func186.trans (congrArg some (by kernel_rfl))⟩
 t0:=Tryz.underlying0
 a0:=Tryz.isAgg0
 z0:=Tryz.sizeOf0
 v0:=Tryz.zeroValue0
 t3:=Tryz.underlying3
 a3:=Tryz.isAgg3
 z3:=Tryz.sizeOf3
 v3:=Tryz.zeroValue3
 t4:=Tryz.underlying4
 a4:=Tryz.isAgg4
 z4:=Tryz.sizeOf4
 v4:=Tryz.zeroValue4
 t5:=Tryz.underlying5
 a5:=Tryz.isAgg5
 z5:=Tryz.sizeOf5
 v5:=Tryz.zeroValue5
 t9:=Tryz.underlying9
 a9:=Tryz.isAgg9
 z9:=Tryz.sizeOf9
 v9:=Tryz.zeroValue9
 t22:=Tryz.underlying70
 a22:=Tryz.isAgg70
 z22:=Tryz.sizeOf70
 v22:=Tryz.zeroValue70
 t25:=Tryz.underlying205
 a25:=Tryz.isAgg205
 z25:=Tryz.sizeOf205
 v25:=Tryz.zeroValue205
 t39:=Tryz.underlying148
 a39:=Tryz.isAgg148
 z39:=Tryz.sizeOf148
 v39:=Tryz.zeroValue148
 t45:=Tryz.underlying235
 a45:=Tryz.isAgg235
 z45:=Tryz.sizeOf235
 v45:=Tryz.zeroValue235
 t46:=Tryz.underlying236
 a46:=Tryz.isAgg236
 z46:=Tryz.sizeOf236
 v46:=Tryz.zeroValue236
 t50:=Tryz.underlying240
 a50:=Tryz.isAgg240
 z50:=Tryz.sizeOf240
 v50:=Tryz.zeroValue240
 t53:=Tryz.underlying141
 a53:=Tryz.isAgg141
 z53:=Tryz.sizeOf141
 v53:=Tryz.zeroValue141
 t55:=Tryz.underlying110
 a55:=Tryz.isAgg110
 z55:=Tryz.sizeOf110
 v55:=Tryz.zeroValue110
 t66:=Tryz.underlying246
 a66:=Tryz.isAgg246
 z66:=Tryz.sizeOf246
 v66:=Tryz.zeroValue246
 t70:=Tryz.underlying249
 a70:=Tryz.isAgg249
 z70:=Tryz.sizeOf249
 v70:=Tryz.zeroValue249
 t76:=Tryz.underlying252
 a76:=Tryz.isAgg252
 z76:=Tryz.sizeOf252
 v76:=Tryz.zeroValue252
 t77:=Tryz.underlying253
 a77:=Tryz.isAgg253
 z77:=Tryz.sizeOf253
 v77:=Tryz.zeroValue253
end Go.Proofs.YtahohahjnhfedaaGreatDoor
/- slices.SortFunc of a polynomial's terms. -/
namespace Go.Proofs.YtahohahjnhfedaaGreatDoor
open Go Go.SX
abbrev TmE:Type:={m:Mon // m.ok}×Sl×Bool×Sl
instance:Inhabited TmE:=⟨⟨⟨0,0,0⟩,by decide⟩,⟨none,0,0⟩,false,⟨none,0,0⟩⟩
def Bq7 (x:TmE):List Value:=[.int .u8 x.1.1.x,.int .u8 x.1.1.y,.int .u8 x.1.1.z,x.2.1.v,.bool x.2.2.1,x.2.2.2.v]
def Er5 (x y:TmE):Int:=x.1.1.cmp y.1.1
theorem Bp1 (x:TmE):(Bq7 x).length=6:=rfl
theorem Cu3 (x:TmE): ∀v∈Bq7 x,v.oneCell'=true:=by
 intro v hv
 simp only[Bq7,List.mem_cons,List.not_mem_nil,or_false] at hv
 rcases hv with rfl | rfl | rfl | rfl | rfl | rfl<;>rfl
theorem Fo8 (x y:TmE):Proofs.ltOf Er5 x y=decide (x.1.1.lt y.1.1):=by
 unfold Proofs.ltOf Er5
 simp only[Mon.Dm2]
theorem Fr8:Go.Sort.SWO (Proofs.ltOf Er5) where
 irrefl x:=by rw[Fo8];exact decide_eq_false (Mon.lt_irrefl _)
 trans x y z h1 h2:=by
  rw[Fo8] at *
  exact decide_eq_true (Mon.lt_trans (of_decide_eq_true h1) (of_decide_eq_true h2))
 ntrans x y z h1 h2:=by
  rw[Fo8] at *
  have h1:=of_decide_eq_false h1
  have h2:=of_decide_eq_false h2
  refine decide_eq_false fun h=>?_
  by_cases e:x.1.1=y.1.1
  ·rw[e] at h;exact h2 h
  ·have:=Mon.Bo9 h1 e
   exact h2 (Mon.lt_trans this h)
theorem Ej6 (g n:Nat) (w:World):Proofs.CmpLays Tryz.prog 136 #[] Bq7 6 Er5 g 0 n w:=by
 intro m os dk _ x y
 have h:=(Dz4 (W0:=⟨Proofs.sortWorldK Bq7 6 w g 0 m dk os,fun _=>False⟩) (M:=fun _=>False) (a:=x.1.1) (b:=y.1.1) (s1:=x.2.1) (s2:=x.2.2.2) (s3:=y.2.1) (s4:=y.2.2.2) (b1:=x.2.2.1) (b2:=y.2.2.1) x.1.2 y.1.2).2 (fun b hb=>hb.elim)
 refine Calls.mono h ?_
 rintro e w' ⟨v,rfl,hK,rfl,_⟩
 exact⟨rfl,Cw5 hK⟩
theorem Ev8 {W:PW} {xs:List (List Value)} {p:List Tm} (h:An5 (PT 141 W) xs p): ∃L:List TmE,xs=L.map Bq7∧An5 (fun(a:TmE) (t:Tm)=>a.1.1=t.1∧Ab3 141 W a.2.1 a.2.2.1 a.2.2.2 t.2) L p:=by
 induction xs generalizing p with
 | nil=>
  cases p with
  | nil=>exact⟨[],rfl,trivial⟩
  | cons t p=>exact h.elim
 | cons x xs ih=>
  cases p with
  | nil=>exact h.elim
  | cons t p=>
   obtain⟨L,h1,h2⟩:=ih h.2
   obtain⟨h0,s,b,s',h3,h4⟩:=h.1
   exact⟨(⟨t.1,h0⟩,s,b,s') :: L,by rw[List.map_cons,←h1,h3];rfl,⟨rfl,h4⟩,h2⟩
theorem Ew4 {W:PW} {L:List TmE} {p:List Tm} (h:An5 (fun(a:TmE) (t:Tm)=>a.1.1=t.1∧Ab3 141 W a.2.1 a.2.2.1 a.2.2.2 t.2) L p):An5 (PT 141 W) (L.map Bq7) p:=by
 induction L generalizing p with
 | nil=>
  cases p with
  | nil=>trivial
  | cons t p=>exact h.elim
 | cons x xs ih=>
  cases p with
  | nil=>exact h.elim
  | cons t p=>
   obtain⟨h1,h2⟩:=h.1
   refine⟨⟨by rw[←h1];exact x.1.2,_,_,_,?_,h2⟩,ih h.2⟩
   rw[←h1]
   rfl
theorem Ci0 {W:PW} {L:List TmE} {p:List Tm} (h:An5 (fun(a:TmE) (t:Tm)=>a.1.1=t.1∧Ab3 141 W a.2.1 a.2.2.1 a.2.2.2 t.2) L p) (hs:L.Pairwise fun a b=>¬b.1.1.lt a.1.1):p.Pairwise fun a b=>¬b.1.lt a.1:=by
 have hp:p.map (·.1)=L.map (·.1.1):=by
  clear hs
  induction L generalizing p with
  | nil=>
   cases p with
   | nil=>rfl
   | cons t p=>exact h.elim
  | cons x xs ih=>
   cases p with
   | nil=>exact h.elim
   | cons t p=>rw[List.map_cons,List.map_cons,ih h.2,h.1.1]
 have h1:(L.map (·.1.1)).Pairwise fun a b:Mon=>¬b.lt a:=List.pairwise_map.2 hs
 rw[←hp] at h1
 exact List.pairwise_map.1 h1
theorem Do0 {p q:List Tm} (hp:q.Perm p) (hd:(p.map (·.1)).Nodup) (hz: ∀t∈p,t.2≠0) (hs:q.Pairwise fun a b=>¬b.1.lt a.1):q=Ag2 p:=by
 refine(Ds8 ⟨?_,fun t ht=>hz t (hp.mem_iff.1 ht)⟩ fun m=>Da7 hp m).symm
 have hd':(q.map (·.1)).Nodup:=(hp.map _).nodup_iff.2 hd
 have hd2:q.Pairwise fun a b=>a.1≠b.1:=List.pairwise_map.1 hd'
 exact(hs.and hd2).imp fun⟨h1,h2⟩=>Mon.Bo9 h1 (fun e=>h2 e.symm)
theorem Ab3.wr {tu tt:TypeId} {g:Nat} {W W':PW} {s s':Sl} {b:Bool} {q:Rat} {cs:Array Value} (h:Ab3 tu W s b s' q) (hE:Au9 (· = g) W W') (hg:W.w.heap[g]?=some (.cells cs tt (0,0))) (ht:tu≠tt):Ab3 tu W' s b s' q:=
 ⟨⟨Row.put h.1.1 hE hg ht,h.1.2⟩,Row.put h.2 hE hg ht⟩
theorem Dh7 {W0:PW} {s:Sl} {xs:List (List Value)} {p:List Tm} (hO:Go.SX.Own W0 127 6 s xs) (hA:An5 (PT 141 W0) xs p) (hd:(p.map (·.1)).Nodup) (hz: ∀t∈p,t.2≠0) (hl:p.length≤1099511627776):
  Aa0 Tryz.prog 135 [s.v,.func (.func 136) #[] #[]] W0 (fun b=>s.v.ownBlock=some b) fun v W'=>v = .tuple #[]∧Ch2 141 127 W' s (Ag2 p):=by
 refine⟨⟨_,Tryz.func135,by kernel_rfl,by kernel_rfl⟩,fun hS=>?_⟩
 obtain⟨L,rfl,hL⟩:=Ev8 hA
 have hn:s.n=L.length:=by rw[hO.row.1];simp
 have hlen:L.length=p.length:=hL.len
 by_cases hne:L = []
 ·subst hne
  have hp:p = []:=List.eq_nil_of_length_eq_zero hlen.symm
  subst hp
  have:=Proofs.AnyF.slices_SortFunc_none Fe0 s.A s.c (.func (.func 136) #[] #[]) W0.w
  change Calls Tryz.prog 135 _ _ _ at this
  have e:s.v = .slice s.A 0 s.c:=by simp only[Sl.v,hn];rfl
  rw[e]
  refine Calls.mono this ?_
  rintro e w' ⟨rfl,rfl⟩
  exact⟨_,rfl,Am7.refl _ _,rfl,[],hO,trivial⟩
 ·obtain⟨d,rfl⟩: ∃d:Array TmE,d.toList=L:=⟨L.toArray,rfl⟩
  have hds:d.size≠0:=fun e=>hne (by simpa using e)
  obtain⟨g,cur,hA',hob,hSg,hh,hle,hH⟩:=Eh6 Bq7 Bp1 d hO hds
  have hg:=(Array.getElem?_eq_some_iff.1 hh).1
  have hcall:=Proofs.AnyQ.slices_SortFunc Fe0 6 Tryz.isAgg127 Tryz.sizeOf127 Bq7 Bp1 Cu3 Er5 Fr8 136 #[] g 0 s.c d W0.w (enters_of Tryz.func136 (by kernel_rfl) rfl) (Ej6 g d.size W0.w) hH hg (by simp at hlen;omega)
  change Calls Tryz.prog 135 _ _ _ at hcall
  have e:s.v = .slice (some ⟨g,0,none⟩) d.size s.c:=by simp only[Sl.v,hn,hA',Array.length_toList]
  rw[e]
  refine Calls.mono hcall ?_
  rintro e w' ⟨rfl,d',n,os,hp,hs,rfl⟩
  obtain⟨hsz,hperm⟩:=Dh2 hp
  obtain⟨hh',hK⟩:=Az2 Bq7 (k:=6) hh n d' os
  obtain⟨q,hq1,hq2⟩:=hL.perm hperm.symm
  have hpw:=Ch4 hs hsz
  have hgood:q=Ag2 p:=by
   refine Do0 hq1.symm hd hz (Ci0 hq2 (hpw.imp fun {a b} h=>?_))
   rw[Fo8] at h
   exact of_decide_eq_false h
  refine⟨_,rfl,?_,rfl,?_⟩
  ·refine⟨hK.os,hK.tape,hK.output,hK.size,fun b hb hn=>hK.block b hb fun e=>hn ?_,hK.drawn⟩
   subst e
   rfl
  ·rw[←hgood]
   have hO':=Et6 Bq7 Bp1 Cu3 hO hds hsz hob n os
   refine⟨_,hO',Ew4 (hq2.mono fun a t h=>⟨h.1,?_⟩)⟩
   refine Ab3.wr (g:=g) (tt:=127) h.2 ⟨hK.size,fun b hb hs hn=>⟨hK.block b hb hn,hs⟩⟩ hh (by decide)
end Go.Proofs.YtahohahjnhfedaaGreatDoor
/- poly: sums.add, sums.poly, New. -/
namespace Go.Proofs.YtahohahjnhfedaaGreatDoor
open Go Go.SX
theorem Fa9:laidOutB Tryz.prog=true:=by kernel_rfl
theorem Ck1:Maps.Keyed Tryz.prog 125:=Maps.Keyed.of_law (deep_law_laid Fa9 (m:=2) (by omega) (of_decide_eq_true (by kernel_rfl)) (by kernel_rfl) (by kernel_rfl))
theorem Ep2: ∃d,Tryz.prog.types.size+1=d+2:=⟨Tryz.prog.types.size-1,by
 have:1≤Tryz.prog.types.size:=of_decide_eq_true (by kernel_rfl)
 omega⟩
theorem Dr7 {m:Mon} (h:m.ok): ∃l,keyOf Tryz.prog 125 m.v=some l:=by
 have h1:Tryz.prog.keyType 125=true:=by kernel_rfl
 have h2:Tryz.prog.cellsOf 125=3:=by kernel_rfl
 have h3:Tryz.prog.cellsOf 5=1:=by kernel_rfl
 have h4:m.v.formed Tryz.prog 125=true:=by
  simp only[Mon.v,Value.formed,Tryz.underlying125,h2]
  rfl
 obtain⟨d,hd⟩:=Ep2
 unfold Mon.ok at h
 have wf: ∀z:Int,0≤z∧z≤255→(Lit.int .u8 z).wf=true:=by
  intro z hz
  simp[Lit.wf,IntKind.min,IntKind.max,IntKind.bits,IntKind.signed]
  omega
 have w1:=wf _ h.1
 have w2:=wf _ h.2.1
 have w3:=wf _ h.2.2
 unfold keyOf
 rw[Tryz.underlying125]
 simp only[h1,h4,Bool.and_self,if_true,hd]
 simp[Program.keyLits,Tryz.underlying125,Tryz.underlying5,h2,h3,Value.cells,w1,w2,w3,List.range_succ]
theorem Er2 {W:PW} {g:Nat} {es:Array MapEntry} {c:Nat} {E:List Tm} (h:Ai4 141 W g es c E):En1 Tryz.prog 125 es:=fun e he=>by
 obtain⟨i,hi⟩:=List.mem_iff_getElem?.1 he
 obtain⟨t,_,h0,hk,_⟩:=h.all.Fo1 hi
 rw[hk]
 exact Dr7 h0
end Go.Proofs.YtahohahjnhfedaaGreatDoor
/- poly: sums.add, sums.poly, New. -/
namespace Go.Proofs.YtahohahjnhfedaaGreatDoor
open Go Go.SX
theorem Aw2 {α:Type} : ∀{l:List α},l.Nodup→∀{i j:Nat} {a:α},l[i]?=some a→l[j]?=some a→i=j
 | [],_,i,j,a,h,_=>by simp at h
 | x :: l,hn,0,0,a,_,_=>rfl
 | x :: l,hn,0,j+1,a,h,k=>by
  simp only[List.getElem?_cons_zero,Option.some.injEq,List.getElem?_cons_succ] at h k
  subst h
  exact absurd (List.mem_of_getElem? k) (List.nodup_cons.1 hn).1
 | x :: l,hn,i+1,0,a,h,k=>by
  simp only[List.getElem?_cons_zero,Option.some.injEq,List.getElem?_cons_succ] at h k
  subst k
  exact absurd (List.mem_of_getElem? h) (List.nodup_cons.1 hn).1
 | x :: l,hn,i+1,j+1,a,h,k=>by
  simp only[List.getElem?_cons_succ] at h k
  rw[Aw2 (List.nodup_cons.1 hn).2 h k]
theorem Bg9 {es:Array MapEntry} {i:Nat} {e:MapEntry} (h:es[i]?=some e) (f:MapEntry→MapEntry):(es.modify i f).toList=es.toList.set i (f e):=by
 apply List.ext_getElem?
 intro j
 rw[Array.getElem?_toList,Array.getElem?_modify,List.getElem?_set]
 have hl:=(Array.getElem?_eq_some_iff.1 h).1
 split
 ·rename_i e'
  subst e'
  rw[h]
  simp[hl]
 ·rw[Array.getElem?_toList]
theorem Dr3 {W0 W' W'':PW} {g c c':Nat} {es es':Array MapEntry} {E:List Tm} {m:Mon} {q:Rat} {s s':Sl} {b:Bool} (h:Ai4 141 W' g es c E) (hm:m.ok) (hE:Au9 (· = g) W' W'') (hS:¬W''.S g) (hh:W''.w.heap[g]?=some (.map es' c'))
  (hp:Eg5 es c m.v (.agg ⟨[s.v,.bool b,s'.v]⟩) es' c') (q0:Rat) (hq0:(∃i:Nat,E[i]?=some (m,q0))∨(∀t∈E,t.1≠m)∧q0=0) (hq:Ab3 141 W' s b s' (q0+q)):
  ∃E',Ai4 141 W'' g es' c' E'∧Du7 E (m,q) E':=by
 have hq':Ab3 141 W'' s b s' (q0+q):=hq.map hE h.heap
 have hall:An5 (ME 141 W'') es.toList E:=h.all.mono fun _ _ k=>k.map hE h.heap
 rcases hp with⟨i,e,hi,hk,rfl,rfl⟩ | ⟨hn,rfl,rfl⟩
 ·have hi':es.toList[i]?=some e:=by rw[Array.getElem?_toList];exact hi
  obtain⟨t,ht,h0,hk',_⟩:=h.all.Fo1 hi'
  have hmt:t.1=m:=Mon.Ck0 (hk'.symm.trans hk)
  have hti:E[i]?=some (m,q0):=by
   rcases hq0 with⟨j,hj⟩ | ⟨hno,_⟩
   ·have e1:(E.map (·.1))[i]?=some m:=by rw[List.getElem?_map,ht];simp[hmt]
    have e2:(E.map (·.1))[j]?=some m:=by rw[List.getElem?_map,hj];rfl
    rw[Aw2 h.nd e1 e2]
    exact hj
   ·exact absurd hmt (hno t (List.mem_of_getElem? ht))
  refine⟨E.set i (m,q0+q),⟨hS,hh,?_,?_,?_,?_⟩,Ei3 hti⟩
  ·rw[Bg9 hi]
   exact hall.set i ⟨hm,rfl,s,b,s',rfl,hq'⟩
  ·rw[Dk2 hti]
   exact h.nd
  ·rw[Bg9 hi]
   have e1:((es.toList.set i {e with key:=m.v,val:=.agg ⟨[s.v,.bool b,s'.v]⟩ }).map (·.born))=es.toList.map (·.born):=by
    rw[List.map_set]
    refine List.ext_getElem? fun j=>?_
    rw[List.getElem?_set]
    split
    ·rename_i e'
     subst e'
     rw[if_pos (by simpa using(Array.getElem?_eq_some_iff.1 hi).1),List.getElem?_map,hi']
     rfl
    ·rfl
   rw[e1]
   exact h.born
  ·rw[Bg9 hi]
   intro x hx
   rcases List.mem_or_eq_of_mem_set hx with hx | rfl
   ·exact h.lt x hx
   ·exact h.lt e (List.mem_of_getElem? hi')
 ·have hno: ∀t∈E,t.1≠m:=by
   intro t ht hm'
   obtain⟨i,hi⟩:=List.mem_iff_getElem?.1 ht
   obtain⟨e,he,h0,hk,_⟩:=h.all.get hi
   exact hn e (List.mem_of_getElem? he) (by rw[hk,hm'])
  have hz:q0=0:=by
   rcases hq0 with⟨j,hj⟩ | ⟨_,h0⟩
   ·exact absurd rfl (hno _ (List.mem_of_getElem? hj))
   ·exact h0
  subst hz
  rw[Rat.zero_add] at hq'
  refine⟨E ++ [(m,q)],⟨hS,hh,?_,?_,?_,?_⟩,Du2 E m q⟩
  ·rw[Array.toList_push]
   exact hall.snoc ⟨hm,rfl,s,b,s',rfl,hq'⟩
  ·rw[List.map_append,List.nodup_append]
   refine⟨h.nd,by simp,fun a ha b' hb=>?_⟩
   obtain⟨t,ht,rfl⟩:=List.mem_map.1 ha
   simp only[List.map_cons,List.map_nil,List.mem_singleton] at hb
   subst hb
   exact hno t ht
  ·rw[Array.toList_push,List.map_append,List.nodup_append]
   refine⟨h.born,by simp,fun a ha b' hb=>?_⟩
   obtain⟨t,ht,rfl⟩:=List.mem_map.1 ha
   simp only[List.map_cons,List.map_nil,List.mem_singleton] at hb
   subst hb
   have:=h.lt t ht
   omega
  ·rw[Array.toList_push]
   intro x hx
   rcases List.mem_append.1 hx with hx | hx
   ·have:=h.lt x hx;omega
   ·simp only[List.mem_singleton] at hx
    subst hx
    exact Nat.lt_succ_self _
theorem Ea1 {W0:PW} {g c k:Nat} {es:Array MapEntry} {E:List Tm} {m:Mon} {q:Rat} {s s':Sl} {b:Bool} (h:Ai4 141 W0 g es c E) (hm:m.ok) (hq:Ab3 141 W0 s b s' q) (hE: ∀t∈E,Sz k t.2) (hz:Sz k q) (hk:k≤1073741824) (hk1:1≤k):
  Aa0 Tryz.prog 103 [.map (some g),.agg ⟨[.int .u8 m.x,.int .u8 m.y,.int .u8 m.z]⟩,.agg ⟨[s.v,.bool b,s'.v]⟩] W0 (· = g) fun v W'=>v = .tuple ⟨[]⟩∧∃es' c' E',Ai4 141 W' g es' c' E'∧Du7 E (m,q) E':=by
 apply Bi9
 refine⟨g,rfl,Ck1,Dr7 hm,es,c,h.pub,h.heap,Er2 h,?_,?_⟩
 ·intro e he hke
  obtain⟨i,hi⟩:=List.mem_iff_getElem?.1 he
  obtain⟨t,ht,h0,hk',s0,b0,s0',hv,hr⟩:=h.all.Fo1 hi
  have hmt:t.1=m:=Mon.Ck0 (hk'.symm.trans hke)
  refine⟨s0,b0,s0',hv,At2 hr hq (hE t (List.mem_of_getElem? ht)) hz (by omega) (by omega) fun r c' u W7 hE7 h7=>⟨r,c',u,rfl,g,rfl,Ck1,Dr7 hm,fun W' hE'=>?_⟩⟩
  have hs:=h.ext (hE7.trans hE')
  refine⟨es,c,hs.pub,hs.heap,Er2 hs,.inl rfl,fun W'' es' c'' hx hS hh hp W13 hE13=>?_⟩
  obtain⟨E',h1,h2⟩:=Dr3 (W0:=W0) hs hm hx hS hh hp t.2 (.inl ⟨i,by rw[←hmt];exact ht⟩) (h7.ext hE')
  exact⟨rfl,es',c'',E',h1.ext hE13,h2⟩
 ·intro hno
  refine⟨⟨none,0,0⟩,false,⟨none,0,0⟩,rfl,At2 (Ar9 W0) hq (Sz.zero hk1) hz (by omega) (by omega) fun r c' u W7 hE7 h7=>⟨r,c',u,rfl,g,rfl,Ck1,Dr7 hm,fun W' hE'=>?_⟩⟩
  have hs:=h.ext (hE7.trans hE')
  refine⟨es,c,hs.pub,hs.heap,Er2 hs,.inl rfl,fun W'' es' c'' hx hS hh hp W13 hE13=>?_⟩
  have hne: ∀t∈E,t.1≠m:=fun t ht hm'=>by
   obtain⟨i,hi⟩:=List.mem_iff_getElem?.1 ht
   obtain⟨e,he,h0,hk',_⟩:=h.all.get hi
   exact hno e (List.mem_of_getElem? he) (by rw[hk',hm'])
  obtain⟨E',h1,h2⟩:=Dr3 (W0:=W0) hs hm hx hS hh hp 0 (.inr ⟨hne,rfl⟩) (h7.ext hE')
  exact⟨rfl,es',c'',E',h1.ext hE13,h2⟩
theorem Bj5 {W0 W:PW} {M:Nat→Prop} {g c k:Nat} {es:Array MapEntry} {E:List Tm} {m:Mon} {q:Rat} {s s':Sl} {b:Bool} {K:Value→PW→Prop} (h:Ai4 141 W g es c E) (hm:m.ok) (hq:Ab3 141 W s b s' q) (hE: ∀t∈E,Sz k t.2) (hz:Sz k q) (hk:k≤1073741824) (hk1:1≤k) (hg:may W0 M g)
  (kont: ∀W' W'' es' c' E',Ext W W'→Au9 (· = g) W' W''→Ai4 141 W' g es c E→Ai4 141 W'' g es' c' E'→Du7 E (m,q) E'→K (.tuple ⟨[]⟩) W''):
  Aa1 Tryz.prog W0 M 103 [.map (some g),.agg ⟨[.int .u8 m.x,.int .u8 m.y,.int .u8 m.z]⟩,.agg ⟨[s.v,.bool b,s'.v]⟩] W K:=by
 intro W' hE'
 have hs:=h.ext hE'
 refine⟨(· = g),_,Ea1 hs hm (hq.ext hE') hE hz hk hk1,fun g' e=>?_,fun v W'' hX hP=>?_⟩
 ·subst e
  exact⟨hs.pub,hg⟩
 ·obtain⟨rfl,es',c',E',h1,h2⟩:=hP
  exact kont W' W'' es' c' E' hE' hX hs h1 h2
end Go.Proofs.YtahohahjnhfedaaGreatDoor
/- poly: sums.poly, New. -/
namespace Go.Proofs.YtahohahjnhfedaaGreatDoor
open Go Go.SX
def nzT (t:Tm):Bool:=decide (t.2≠0)
theorem Ff0 (l:List Tm) (m:Mon):Aj5 (l.filter nzT) m=Aj5 l m:=by
 induction l with
 | nil=>rfl
 | cons t r ih=>
  by_cases h:t.2=0
  ·rw[List.filter_cons_of_neg (by simp[nzT,h]),ih,Aj5,h]
   split<;>rw[Rat.zero_add]
  ·rw[List.filter_cons_of_pos (by simp[nzT,h]),Aj5,Aj5,ih]
theorem Dz3 {es:Array MapEntry} {sn:Array Nat} {e:MapEntry} (h:e∈(leftOf es sn).toList):e∈es.toList∧sn.contains e.born=false:=by
 unfold leftOf at h
 rw[Array.toList_filter,List.mem_filter] at h
 exact⟨h.1,by simpa using h.2⟩
theorem Eb0 {es:Array MapEntry} {sn:Array Nat} (h:(leftOf es sn).size=0): ∀e∈es.toList,sn.contains e.born=true:=by
 intro e he
 refine Classical.byContradiction fun hn=>?_
 have:e∈(leftOf es sn).toList:=by
  unfold leftOf
  rw[Array.toList_filter,List.mem_filter]
  exact⟨he,by simpa using hn⟩
 rw[←Array.length_toList] at h
 rw[List.eq_nil_of_length_eq_zero h] at this
 cases this
def spI (W0:PW) (c:Nat) (es:List MapEntry) (E:List Tm) (l:List PL) (W:PW):Prop:=match l with
 | [.row l11,PL.seen sn n]=>Ext W0 W∧n=c∧∃L,An5 (PT 141 W) l11 L∧(L ++ (At5 sn es E).filter nzT).Perm (E.filter nzT)
 | _=>False
def spM (es:List MapEntry) (E:List Tm) (l:List PL) (W:PW):Nat:=match l with
 | [_,PL.seen sn n]=>(At5 sn es E).length
 | _=>0
theorem De1 {W0:PW} {M:Nat→Prop} {g c k:Nat} {es:Array MapEntry} {E:List Tm} (h:Ai4 141 W0 g es c E) (hE: ∀t∈E,Sz k t.2) (hk:k≤1073741824) (hl:E.length≤1073741824):
  Aa0 Tryz.prog 104 [.map (some g)] W0 M fun v W'=>∃s:Sl,v = .agg ⟨[s.v]⟩∧Aq4 W0 s∧Ch2 141 127 W' s (Ag2 E):=by
 apply Bf8
 have hlen:es.toList.length=E.length:=h.all.len
 refine⟨g,rfl,es,c,h.pub,h.heap,⟨rfl,rfl⟩,spI W0 c es.toList E,spM es.toList E,⟨Ext.refl _,rfl,[],trivial,?_⟩,?_⟩
 ·rw[show(⟨[]⟩:Array Nat) = #[] from rfl,Bw6 hlen]
  exact .refl _
 rintro x8 n9 x10 l11 W12 hF
 obtain⟨sn,hsn⟩: ∃sn,Ae4 x8 x10=sn:=⟨_,rfl⟩
 rw[hsn] at hF⊢
 obtain⟨hE12,rfl,L,hL,hp⟩:=hF
 have hs:=h.ext hE12
 have hLl:L.length≤E.length:=by
  have h1:=hp.length_eq
  have h2:=List.length_filter_le nzT E
  simp only[List.length_append] at h1
  omega
 have hll:=hL.len
 refine⟨es,n9,hs.pub,hs.heap,fun e he=>h.lt e he,Nat.le_refl _,fun hz s18 W19 hE19 hO hf=>?_,fun e he=>?_⟩
 ·have hnil:=Cp2 (sn:=sn) (es:=es.toList) (E:=E) (Eb0 hz)
  rw[hnil,List.filter_nil,List.append_nil] at hp
  have hnd:(L.map (·.1)).Nodup:=(hp.map _).nodup_iff.2 (List.Nodup.sublist (List.filter_sublist.map _) h.nd)
  have hnz: ∀t∈L,t.2≠0:=fun t ht=>by
   have:=List.mem_filter.1 (hp.mem_iff.1 ht)
   simpa[nzT] using this.2
  have hpn:Ag2 L=Ag2 E:=Bc1 fun m=>by rw[Da7 hp,Ff0]
  intro W' hE'
  have hO':=hO.ext hE'
  refine⟨_,_,Dh7 hO' (hL.mono fun _ _ h=>h.ext (hE19.trans hE')) hnd hnz (by omega),fun g' hg'=>⟨hO'.2 g' hg',.inr (hf g' hg').1⟩,fun v W'' hX hP=>?_⟩
  obtain⟨rfl,hq⟩:=hP
  refine⟨rfl,fun W22 hE22=>⟨s18,rfl,fun g hg=>(hf g hg).1,?_⟩⟩
  rw[←hpn]
  exact hq.ext hE22
 ·obtain⟨hem,hec⟩:=Dz3 he
  obtain⟨i,hi⟩:=List.mem_iff_getElem?.1 hem
  obtain⟨t,ht,h0,hk',s,b,s',hv,hr⟩:=hs.all.Fo1 hi
  have hstep:=Ce4 h.born hi ht hec
  have hmm:(At5 (sn.push e.born) es.toList E).length<(At5 sn es.toList E).length:=by
   rw[hstep.length_eq]
   simp
  refine⟨⟨es,hs.pub,hs.heap,hem,h.born⟩,t.1.x,t.1.y,t.1.z,hk',s,b,s',hv,Bk6 hr (hE t (List.mem_of_getElem? ht)) (by omega) fun W35 hE35 _=>⟨_,rfl,fun hne=>⟨by simp;omega,⟨rfl,rfl⟩,⟨hE12.trans hE35,rfl,L ++ [t],(hL.mono fun _ _ h=>h.ext hE35).snoc ⟨h0,s,b,s',rfl,hr.ext hE35⟩,?_⟩,hmm⟩,fun heq=>⟨⟨rfl,rfl⟩,⟨hE12.trans hE35,rfl,L,hL.mono fun _ _ h=>h.ext hE35,?_⟩,hmm⟩⟩⟩
  ·have hnz:nzT t=true:=by
    have:t.2≠0:=fun e=>hne ((Be6 _ _).2 e)
    simp[nzT,this]
   have h1:=hstep.filter nzT
   rw[List.filter_cons_of_pos hnz] at h1
   have h2:(L ++ [t] ++ (At5 (sn.push e.born) es.toList E).filter nzT).Perm (L ++ (At5 sn es.toList E).filter nzT):=by
    rw[List.append_assoc]
    exact(h1.symm.append_left L)
   exact h2.trans hp
  ·have hnz:¬nzT t=true:=by
    have:t.2=0:=(Be6 _ _).1 (by omega)
    simp[nzT,this]
   have h1:=hstep.filter nzT
   rw[List.filter_cons_of_neg hnz] at h1
   exact(h1.symm.append_left L).trans hp
theorem Ba0 {W0 W:PW} {M:Nat→Prop} {g c k:Nat} {es:Array MapEntry} {E:List Tm} {K:Value→PW→Prop} (h:Ai4 141 W g es c E) (hE: ∀t∈E,Sz k t.2) (hk:k≤1073741824) (hl:E.length≤1073741824)
  (kont: ∀(s:Sl) (W':PW),Ext W W'→Aq4 W s→Ch2 141 127 W' s (Ag2 E)→K (.agg ⟨[s.v]⟩) W'):Aa1 Tryz.prog W0 M 104 [.map (some g)] W K:=
 Aa2 (fun W' hE'=>De1 (M:=fun _=>False) (h.ext hE') hE hk hl) (fun W' v W'' hE' hE'' hP=>by
  obtain⟨s,rfl,hf,hp⟩:=hP
  exact kont s W'' (hE'.trans hE'') (hf.back hE') hp)
theorem Ch8 {W0 W:PW} {M:Nat→Prop} {g c k:Nat} {es:Array MapEntry} {E:List Tm} {K:Value→PW→Prop} (h:Ai4 141 W g es c E) (hE: ∀t∈E,Sz k t.2) (hk:k≤1073741824) (hl:E.length≤1073741824)
  (kont: ∀(s:Sl) (W':PW),Ext W W'→Ab0 141 127 W' s (Ag2 E)→K (.agg ⟨[s.v]⟩) W'):Aa1 Tryz.prog W0 M 104 [.map (some g)] W K:=
 Ba0 h hE hk hl fun s W' hE' _ hp=>kont s W' hE' hp.Ft4
end Go.Proofs.YtahohahjnhfedaaGreatDoor
/- poly: New, Terms, Const, Var, Mul. -/
namespace Go.Proofs.YtahohahjnhfedaaGreatDoor
open Go Go.SX
theorem Fc3 {x:Nat} (h:x≠0):1≤nl x:=by
 have:nl x≠0:=fun e=>h (Ad0.1 e)
 omega
theorem As0 {α:Type} {l:List α} {j:Nat} (h:j<l.length):l.take (j+1)=l.take j ++ [l[j]]:=by
 rw[List.take_add_one,List.getElem?_eq_getElem h];rfl
theorem Dd5 {W0:PW} {M:Nat→Prop} {s:Sl} {l:List Tm} {k:Nat} (h:Ab0 141 127 W0 s l) (hB:Bd k l) (hk:k≤536870912) (hl:l.length≤1073741824):
  Aa0 Tryz.prog 63 [s.v] W0 M fun v W'=>∃(s':Sl),v = .agg ⟨[Sl.v s']⟩∧Aq4 W0 s'∧Ch2 141 127 W' s' (Ag2 l):=by
 apply Da9
 intro g W2 hE2 _ hg hS hh
 obtain⟨D,N,hF,hD,hn1,hn2⟩:=hB
 have hk1:1≤k:=Nat.le_trans (Fc3 hD) hn1
 refine⟨fun L W=>match L with
  | [.val (.int .i64 i)]=>∃j:Nat,i=(j:Int)∧j≤l.length∧W0.w.heap.size≤W.w.heap.size∧Ab0 141 127 W s l∧∃es c E a b,Ai4 141 W g es c E∧Dp6 D (l.take j) a E∧Fit D b (l.drop j)∧a+b≤N
  | _=>False,fun L _=>match L with | [.val (.int .i64 i)]=>l.length-i.toNat | _=>0,⟨0,rfl,by omega,hE2.size,h.ext hE2,#[],0,[],0,N,Ai4.new hS hh,Dp6.nil D,hF,by omega⟩,?_⟩
 rintro i5 W6 ⟨j,rfl,hj,h06,hp,es,c,E,a,b,hs,hsm,hf,hab⟩
 have hn:=hp.n
 refine⟨fun hlt=>?_,fun hge=>?_⟩
 ·have hjl:j<l.length:=by omega
  obtain⟨h0,s1,b1,s2,he,_,_,hq⟩:=hp.at (List.getElem?_eq_getElem hjl)
  rw[List.drop_eq_getElem_cons hjl] at hf
  obtain⟨n,k',hnk,hfq,hf'⟩:=hf
  refine⟨hp.inB (by omega) (by omega),_,_,_,s1,b1,s2,he,Bj5 (k:=k) hs h0 hq (fun t ht=>((hsm.fit.mem ht).mono (by omega:a≤N)).sz hD hn1 hn2) ((hfq.mono (by omega:n≤N)).sz hD hn1 hn2) (by omega) hk1 (.inr hg) fun W' W'' es' c' E' hE' hX hs' hs'' hA=>⟨rfl,by unfold I64;omega,⟨j+1,by push_cast;rfl,by omega,Nat.le_trans h06 (Nat.le_trans hE'.size hX.size),(hp.ext hE').map hX hs'.heap,es',c',E',a+n,k',hs'',?_,hf',by omega⟩,?_⟩⟩
  ·rw[As0 hjl]
   exact hsm.add hA hfq
  ·show l.length-Int.toNat ((j:Int)+1)<l.length-Int.toNat (j:Int)
   omega
 ·have hj':j=l.length:=by omega
  subst hj'
  rw[List.take_length] at hsm
  have hlen:=hsm.len
  exact Ba0 (k:=k) hs (fun t ht=>((hsm.fit.mem ht).mono (by omega:a≤N)).sz hD hn1 hn2) (by omega) (by omega) fun s' W' hE' hf' hp'=>⟨s',rfl,fun W18 hE18=>⟨s',rfl,fun g' hg'=>Nat.le_trans h06 (hf' g' hg'),by rw[←hsm.norm];exact hp'.ext hE18⟩⟩
theorem Dt6 {W0:PW} {M:Nat→Prop} {s:Sl} {l:List Tm} {k:Nat} (h:Ab0 141 127 W0 s l) (hB:Bd k l) (hk:k≤536870912) (hl:l.length≤1073741824):
  Aa0 Tryz.prog 63 [s.v] W0 M fun v W'=>∃(s':Sl),v = .agg ⟨[Sl.v s']⟩∧Ab0 141 127 W' s' (Ag2 l):=by
 exact(Dd5 h hB hk hl).mono (fun _ h=>h) fun v W' _ ⟨s',hv,_,hp⟩=>⟨s',hv,hp.Ft4⟩
theorem An2 {W0 W:PW} {M:Nat→Prop} {s:Sl} {l:List Tm} {k:Nat} {K:Value→PW→Prop} (h:Ab0 141 127 W s l) (hB:Bd k l) (hk:k≤536870912) (hl:l.length≤1073741824) (kont: ∀(s':Sl) (W':PW),Ext W W'→(Ab0 141 127 W' s' (Ag2 l))→K (.agg ⟨[Sl.v s']⟩) W'):
  Aa1 Tryz.prog W0 M 63 [s.v] W K:=
 Aa2 (fun W' hE=>Dt6 (M:=fun _=>False) (h.ext hE) hB hk hl) (fun W' v W'' hE hE' hP=>by
  obtain⟨s',rfl,h⟩:=hP
  exact kont s' W'' (hE.trans hE') h)
theorem Bf5 {W:PW} {s:Sl} {xs:List (List Value)} {p:List Tm} (h:Row W 127 6 s xs) (ha:An5 (PT 141 W) xs p):Ab0 141 127 W s p:=⟨xs,h,ha⟩
theorem Dz6 {W0:PW} {M:Nat→Prop} {s:Sl} {xs:List (List Value)} (h:Row W0 127 6 s xs) (hl:xs.length≤1099511627776):
  Aa0 Tryz.prog 148 [s.v] W0 M fun v W'=>∃(s':Sl),v=Sl.v s'∧Aq4 W0 s'∧Go.SX.Own W' 127 6 s' xs:=by
 apply Ai9
 refine⟨fun hn W1 hE=>?_,fun hn=>⟨xs,⟨_,h⟩,by omega,fun s3 W4 hE4 hO hf W5 hE5=>⟨s3,rfl,fun g hg=>(hf g hg).1,by rw[List.nil_append] at hO;exact hO.ext hE5⟩⟩⟩
 have:xs = []:=Classical.byContradiction fun hne=>by
  have:=h.some hne
  rw[hn] at this
  cases this
 subst this
 exact⟨⟨none,0,0⟩,rfl,fun g hg=>by simp[Sl.v,Value.ownBlock] at hg,⟨by simp,rfl,.inl ⟨rfl,rfl⟩⟩,fun g hg=>by simp[Sl.v,Value.ownBlock] at hg⟩
theorem Cv0 {W0 W:PW} {M:Nat→Prop} {s:Sl} {xs:List (List Value)} {K:Value→PW→Prop} (h:Row W 127 6 s xs) (hl:xs.length≤1099511627776) (kont: ∀(s':Sl) (W':PW),Ext W W'→(Aq4 W s'∧Go.SX.Own W' 127 6 s' xs)→K (Sl.v s') W'):
  Aa1 Tryz.prog W0 M 148 [s.v] W K:=
 Aa2 (fun W' hE=>Dz6 (M:=fun _=>False) (h.ext hE) hl) (fun W' v W'' hE hE' hP=>by
  obtain⟨s',rfl,hf,h⟩:=hP
  exact kont s' W'' (hE.trans hE') ⟨hf.back hE,h⟩)
theorem Cv7 {W0:PW} {M:Nat→Prop} {s:Sl} {xs:List (List Value)} (h:Row W0 127 6 s xs) (hl:xs.length≤1099511627776):
  Aa0 Tryz.prog 118 [.agg ⟨[s.v]⟩] W0 M fun v W'=>∃(s':Sl),v=Sl.v s'∧Aq4 W0 s'∧Go.SX.Own W' 127 6 s' xs:=by
 apply Bc4
 exact Cv0 h hl fun s' W2 hE2 ⟨hf,hO⟩=>⟨s',rfl,fun W4 hE4=>⟨s',rfl,hf,hO.ext hE4⟩⟩
theorem Ba1 {W0 W:PW} {M:Nat→Prop} {s:Sl} {xs:List (List Value)} {K:Value→PW→Prop} (h:Row W 127 6 s xs) (hl:xs.length≤1099511627776) (kont: ∀(s':Sl) (W':PW),Ext W W'→(Aq4 W s'∧Go.SX.Own W' 127 6 s' xs)→K (Sl.v s') W'):
  Aa1 Tryz.prog W0 M 118 [.agg ⟨[s.v]⟩] W K:=
 Aa2 (fun W' hE=>Cv7 (M:=fun _=>False) (h.ext hE) hl) (fun W' v W'' hE hE' hP=>by
  obtain⟨s',rfl,hf,h⟩:=hP
  exact kont s' W'' (hE.trans hE') ⟨hf.back hE,h⟩)
theorem Cq4 {k:Nat} {m:Mon} {q:Rat} (h:Sz k q):Bd (k+3) [(m,q)]:=by
 have:=Bd.Co7 (k:=k) (l:=[(m,q)]) (by intro t ht;simp at ht;subst ht;exact h)
 exact this.mono (by simp)
theorem Go5 {W0:PW} {M:Nat→Prop} {s t:Sl} {b:Bool} {q:Rat} {k:Nat} (h:Ab3 141 W0 s b t q) (hq:Sz k q) (hk:k≤268435456):
  Aa0 Tryz.prog 22 [.agg ⟨[s.v,.bool b,t.v]⟩] W0 M fun v W'=>∃(s':Sl),v = .agg ⟨[Sl.v s']⟩∧Ab0 141 127 W' s' (Ag2 [(⟨0,0,0⟩,q)]):=by
 apply Gk3
 intro s1 W2 hE2 hO _
 exact An2 (Bf5 (p:=[(⟨0,0,0⟩,q)]) hO.row ⟨⟨(by decide:(⟨0,0,0⟩:Mon).ok),s,b,t,rfl,h.ext hE2⟩,trivial⟩) (Cq4 hq) (by omega) (by simp) fun s' W4 hE4 hp=>⟨s',rfl,fun W6 hE6=>⟨s',rfl,hp.ext hE6⟩⟩
theorem Gf5 {W0 W:PW} {M:Nat→Prop} {s t:Sl} {b:Bool} {q:Rat} {k:Nat} {K:Value→PW→Prop} (h:Ab3 141 W s b t q) (hq:Sz k q) (hk:k≤268435456) (kont: ∀(s':Sl) (W':PW),Ext W W'→(Ab0 141 127 W' s' (Ag2 [(⟨0,0,0⟩,q)]))→K (.agg ⟨[Sl.v s']⟩) W'):
  Aa1 Tryz.prog W0 M 22 [.agg ⟨[s.v,.bool b,t.v]⟩] W K:=
 Aa2 (fun W' hE=>Go5 (M:=fun _=>False) (h.ext hE) hq hk) (fun W' v W'' hE hE' hP=>by
  obtain⟨s',rfl,h⟩:=hP
  exact kont s' W'' (hE.trans hE') h)
def Da3 (i:Nat):Mon:=if i=0 then⟨1,0,0⟩ else if i=1 then⟨0,1,0⟩ else⟨0,0,1⟩
def Dc6 (i:Int):List Tm:=if 0≤i∧i<3 then[(Da3 i.toNat,1)] else[]
theorem Br8 (m:Mon):Ag2 [(m,(1:Rat))] = [(m,1)]:=by
 have:(1:Rat)≠0:=by decide
 simp[Ag2,Bg6,this]
theorem Dy3 {W0:PW} {M:Nat→Prop} {i:Int} :
  Aa0 Tryz.prog 28 [.int .i64 i] W0 M fun v W'=>∃(s':Sl),v = .agg ⟨[Sl.v s']⟩∧Ab0 141 127 W' s' (Dc6 i):=by
 apply Ct2
 refine⟨fun h W1 hE=>⟨⟨none,0,0⟩,rfl,?_⟩,fun h=>⟨fun h' W2 hE=>⟨⟨none,0,0⟩,rfl,?_⟩,fun h'=>⟨⟨by omega,by omega⟩,by omega,⟨⟨trivial,fun e=>?_⟩,fun e=>?_⟩,fun e=>?_⟩⟩⟩
 ·unfold Dc6;rw[if_neg (by omega)];exact Ab0.nil W1
 ·unfold Dc6;rw[if_neg (by omega)];exact Ab0.nil W2
 ·have hv:Dc6 i=Ag2 [(Da3 0,1)]:=by unfold Dc6;rw[if_pos (by omega),Br8,e]
  rw[hv]
  refine Ay8 (z:=1) (by unfold I64;omega) fun s5 b6 s7 W4 hE4 h4=>⟨s5,b6,s7,rfl,fun s8 W9 hE9 hO _=>?_⟩
  exact An2 (Bf5 (p:=[(Da3 0,1)]) hO.row ⟨⟨by decide,s5,b6,s7,rfl,h4.ext hE9⟩,trivial⟩) (Cq4 (Sz.one (Nat.le_refl 1))) (by omega) (by simp) fun s' W11 hE11 hp=>⟨s',rfl,fun W13 hE13=>⟨s',rfl,hp.ext hE13⟩⟩
 ·have hv:Dc6 i=Ag2 [(Da3 1,1)]:=by unfold Dc6;rw[if_pos (by omega),Br8,e]
  rw[hv]
  refine Ay8 (z:=1) (by unfold I64;omega) fun s5 b6 s7 W4 hE4 h4=>⟨s5,b6,s7,rfl,fun s8 W9 hE9 hO _=>?_⟩
  exact An2 (Bf5 (p:=[(Da3 1,1)]) hO.row ⟨⟨by decide,s5,b6,s7,rfl,h4.ext hE9⟩,trivial⟩) (Cq4 (Sz.one (Nat.le_refl 1))) (by omega) (by simp) fun s' W11 hE11 hp=>⟨s',rfl,fun W13 hE13=>⟨s',rfl,hp.ext hE13⟩⟩
 ·have hv:Dc6 i=Ag2 [(Da3 2,1)]:=by unfold Dc6;rw[if_pos (by omega),Br8,e]
  rw[hv]
  refine Ay8 (z:=1) (by unfold I64;omega) fun s5 b6 s7 W4 hE4 h4=>⟨s5,b6,s7,rfl,fun s8 W9 hE9 hO _=>?_⟩
  exact An2 (Bf5 (p:=[(Da3 2,1)]) hO.row ⟨⟨by decide,s5,b6,s7,rfl,h4.ext hE9⟩,trivial⟩) (Cq4 (Sz.one (Nat.le_refl 1))) (by omega) (by simp) fun s' W11 hE11 hp=>⟨s',rfl,fun W13 hE13=>⟨s',rfl,hp.ext hE13⟩⟩
theorem Cr4 {W0 W:PW} {M:Nat→Prop} {i:Int} {K:Value→PW→Prop} (kont: ∀(s':Sl) (W':PW),Ext W W'→(Ab0 141 127 W' s' (Dc6 i))→K (.agg ⟨[Sl.v s']⟩) W'):
  Aa1 Tryz.prog W0 M 28 [.int .i64 i] W K:=
 Aa2 (fun W' hE=>Dy3 (M:=fun _=>False) ) (fun W' v W'' hE hE' hP=>by
  obtain⟨s',rfl,h⟩:=hP
  exact kont s' W'' (hE.trans hE') h)
end Go.Proofs.YtahohahjnhfedaaGreatDoor
/- Layings of the library's generic functions, as the kit's command says them. -/
namespace Go.Proofs.YtahohahjnhfedaaGreatDoor
open Go Go.Shelf Go.Proofs
def Ay0:Go.Shelf.Ren:=⟨fun | 4=>157 | n=>n,fun | 22=>70 | 25=>127 | 3=>3 | 4=>4 | 9=>9 | 20=>20 | 0=>0 | n=>n,fun | n=>n⟩
theorem Fd7:Go.Proofs.Lays8.n4 Tryz.prog Ay0 where
 mixed:=by kernel_rfl
 f4:=⟨ "slices.Grow[[]cincture/poly.Term,cincture/poly.Term]",by decide,Tryz.func157.trans (congrArg some (by kernel_rfl))⟩
 t0:=Tryz.underlying0
 a0:=Tryz.isAgg0
 z0:=Tryz.sizeOf0
 v0:=Tryz.zeroValue0
 t3:=Tryz.underlying3
 a3:=Tryz.isAgg3
 z3:=Tryz.sizeOf3
 v3:=Tryz.zeroValue3
 t4:=Tryz.underlying4
 a4:=Tryz.isAgg4
 z4:=Tryz.sizeOf4
 v4:=Tryz.zeroValue4
 t9:=Tryz.underlying9
 a9:=Tryz.isAgg9
 z9:=Tryz.sizeOf9
 v9:=Tryz.zeroValue9
 t20:=Tryz.underlying20
 a20:=Tryz.isAgg20
 z20:=Tryz.sizeOf20
 v20:=Tryz.zeroValue20
 t22:=Tryz.underlying70
 a22:=Tryz.isAgg70
 z22:=Tryz.sizeOf70
 v22:=Tryz.zeroValue70
end Go.Proofs.YtahohahjnhfedaaGreatDoor
/- poly: slices.Grow, slices.Concat, Add, Scale, Sub. -/
namespace Go.Proofs.YtahohahjnhfedaaGreatDoor
open Go Go.SX
theorem Es1 {W0:PW} {M:Nat→Prop} {n:Nat} (hn:n≤1099511627776):
  Aa0 Tryz.prog 157 [.slice none 0 0,.int .i64 (n:Int)] W0 M fun v W'=>∃s:Sl,v=s.v∧Aq4 W0 s∧Go.SX.Own W' 127 6 s []:=by
 refine⟨⟨_,Tryz.func157,by kernel_rfl,by kernel_rfl⟩,fun hS=>?_⟩
 by_cases h0:n=0
 ·subst h0
  have h:=Proofs.Any8.slices_Grow_room Fd7 none 0 0 0 W0.w (Nat.le_refl _) (by omega) (by omega) (by omega)
  change Calls Tryz.prog 157 _ _ _ at h
  refine Calls.mono h ?_
  rintro e w' ⟨rfl,rfl⟩
  exact⟨_,rfl,Am7.refl _ _,⟨none,0,0⟩,rfl,fun g hg=>by simp[Sl.v,Value.ownBlock] at hg,⟨by simp,rfl,.inl ⟨rfl,rfl⟩⟩,fun g hg=>by simp[Sl.v,Value.ownBlock] at hg⟩
 ·obtain⟨⟨inf,hinf,hs1,hs2,hz⟩,_,_,hzs,_⟩:=Ld8
  have hsz:inf.size=6:=hs1
  have hby:inf.bytes=64:=hs2
  have h:=Proofs.Any8.slices_Grow_grow Fd7 inf Lj3.zv hinf hz (by omega) none 0 0 n [] W0.w (Nat.le_refl _) (by omega) (by rw[hby];omega) (by omega) (by simp) (fun _=>rfl) (fun a ha=>by cases ha)
  have hg1:=grownCap_ge W0.w (0+n) 0 (Ay0.t 25)
  have hg2:=grownCap_le_maxLen W0.w (0+n) 0 (Ay0.t 25) (by simp only[maxLen];omega)
  obtain⟨G,hG⟩: ∃G,G=grownCap W0.w (0+n) 0 (Ay0.t 25):=⟨_,rfl⟩
  rw[←hG] at h hg1 hg2
  change Calls Tryz.prog 157 _ _ _ at h
  refine Calls.mono h ?_
  rintro e w' ⟨rfl,rfl⟩
  refine⟨_,rfl,(Am7.alloc M W0.w.drew _).Fr9,⟨some ⟨W0.w.heap.size,0,none⟩,0,G⟩,rfl,fun g hg=>?_,⟨by simp,rfl,.inr ⟨W0.w.heap.size,G,_,rfl,Nat.zero_le _,heap_alloc_new W0.w.drew _,Nat.zero_le _,hg2,?_,?_⟩⟩,fun g hg hs=>?_⟩
  ·simp[Sl.v,Value.ownBlock] at hg
   omega
  ·have hz6:Lj3.zv.cells.size=6:=rfl
   simp only[Array.size_append,size_zeroCells,hz6]
   simp
   omega
  ·simp
  ·simp[Sl.v,Value.ownBlock] at hg
   have:=hS g hs
   omega
end Go.Proofs.YtahohahjnhfedaaGreatDoor
