/- cincturelaw9.alive, Inside. -/
import Derived.Test.YtjkkidjbppphpaaGreatDoorW20
import Derived.Test.YtjkkidjbppphpaaGreatDoorW22
import Derived.Test.YtjkkidjbppphpaaGreatDoorW13
import Derived.Test.YtjkkidjbppphpaaGreatDoorW16
import Derived.Test.YtjkkidjbppphpaaGreatDoorR19
import Derived.Test.YtjkkidjbppphpaaGreatDoorW21
import Derived.Test.YtjkkidjbppphpaaGreatDoorCards
import Derived.Test.YtjkkidjbppphpaaGreatDoorTie
import Derived.Deep.DeepHandedRow
import Derived.Lib.LaidTab
import Derived.Test.YtjkkidjbppphpaaGreatDoorLib4
set_option linter.unusedVariables false
set_option linter.unusedSimpArgs false
set_option maxRecDepth 100000
set_option linter.unusedVariables false
set_option linter.unusedSimpArgs false
namespace Go.Proofs.YtjkkidjbppphpaaGreatDoor
open Go Go.SX
def b9a:ByteArray:=⟨⟨[48]⟩⟩
def b9b:ByteArray:=⟨⟨[49]⟩⟩
theorem parse_b9a:parseQ b9a=some 0:=by
 have h1:slashAt b9a=none:=by decide
 have h2:parseI b9a=some 0:=by decide
 unfold parseQ
 rw[h1,h2];rfl
theorem parse_b9b:parseQ b9b=some 1:=by
 have h1:slashAt b9b=none:=by decide
 have h2:parseI b9b=some 1:=by decide
 unfold parseQ
 rw[h1,h2];rfl
theorem sp_b9:spP b9a b9b=some (0,1):=by
 unfold spP
 rw[parse_b9a,parse_b9b]
 rfl
def pr9:List (ByteArray×ByteArray):=[(b9a,b9b)]
theorem pr9_good:PrsGood pr9:=⟨by decide,by decide,fun t ht=>by
 rw[List.mem_singleton.1 ht]
 exact⟨(0,1),sp_b9,by decide +kernel,by decide +kernel,by decide +kernel⟩⟩
def al9:List Tm:=[(⟨1,0,0⟩,-1),(⟨2,0,0⟩,1)]
theorem al9_ok:MulOK (varP 0) (varP 0):=by decide +kernel
theorem al9_eq:pnorm ([(⟨2,0,0⟩,1)] ++ pmap (varP 0) (-1))=al9:=by decide +kernel
theorem al9_sides:SidesOK al9 [(0,1)]:=by decide +kernel
theorem al9_over:ivOver (boxF [(0,1)]) al9=(((-1:Int):Rat),((1:Int):Rat)):=by decide +kernel
theorem bd_al9:Bd 7 al9:=by
 refine(Bd.of_sz (k:=1) ?_).mono (by decide)
 intro t ht
 simp only[al9,List.mem_cons,List.not_mem_nil,or_false] at ht
 rcases ht with rfl | rfl
 ·exact sz_m1
 ·exact sz_1
theorem mul9_eq:mulP (varP 0) (varP 0) = [(⟨2,0,0⟩,1)]:=by decide +kernel
theorem bd_mul9:Bd 7 [(⟨2,0,0⟩,1)]:=(bd_one (m:=⟨2,0,0⟩) sz_1).mono (by decide)
theorem al9_bx:BxN 7 1 al9 [(0,1)] where
 bd:=bd_al9
 sd x hx:=by rw[List.mem_singleton.1 hx];exact⟨Sz.zero (Nat.le_refl 1),sz_1⟩
 ok t ht:=by
  simp only[al9,List.mem_cons,List.not_mem_nil,or_false] at ht
  rcases ht with rfl | rfl<;>decide
 len:=by decide
 k1:=by decide
 m1:=by decide
 bl:=by decide
theorem law9alive_ok {W0:PW} {M:Nat→Prop} (hT:TabOK W0):
  PCallsM Go.Proofs.Tryz.prog 16 [] W0 M fun v W'=>v = .bool true∧True:=by
 apply calllaw9_alive
 intro s1 W2 hE2 hO1 _
 refine boxParse_call (Lt:=pr9) (hT.ext hE2) ⟨_,hO1.row⟩ (by decide) (by decide) fun s5 i6 bs W4 hE4 ⟨q1,q2,_,q4⟩=>⟨s5,i6,rfl,?_⟩
 have hi:=q4 pr9_good
 obtain⟨k1,k2,k3⟩:=q2 hi
 have hbs:bs = [(0,1)]:=by
  refine box_same k2 rfl k3 fun i h1 h2=>?_
  have:i=0:=by have:i<1:=h1;omega
  subst this
  exact sp_b9
 subst hbs
 refine polyVar_call (i:=0) fun s9 W8 hE8 h8=>⟨s9,rfl,?_⟩
 refine polyMul_call h8 h8 bd_var bd_var (by omega) (by decide) (by decide) (by decide) fun s12 W11 hE11 h11=>⟨s12,_,rfl,?_⟩
 rw[mul9_eq] at h11
 refine polySub_call h11 (h8.ext hE11) bd_mul9 bd_var (by omega) (by decide) (by decide) fun s16 W15 hE15 h15=>⟨s16,rfl,?_⟩
 rw[al9_eq] at h15
 refine boundNatural_call h15 (q1.ext (hE8.trans (hE11.trans hE15))) al9_bx fun l W18 hE18 h18=>?_
 rw[if_pos al9_sides,al9_over] at h18
 obtain⟨s19,b20,s21,s22,b23,s24,rfl,u1,u2⟩:=h18
 refine⟨s19,b20,s21,s22,b23,s24,_,rfl,fun _=>⟨fun _=>⟨fun _=>?_,fun e=>absurd e (by rw[decide_eq_true al9_sides];decide)⟩,fun e=>absurd e (by rw[decide_eq_true al9_ok];decide)⟩,fun e=>absurd hi e⟩
 refine refRatOf_call (z:=-1) (by unfold I64;omega) fun b28 s29 s30 W27 hE27 h27=>⟨b28,s29,s30,rfl,?_⟩
 refine refRatOf_call (z:=1) (by unfold I64;omega) fun b33 s34 s35 W32 hE32 h32=>⟨b33,s34,s35,rfl,?_⟩
 exact law5Is_call (x:=(((-1:Int):Rat),((1:Int):Rat))) (k:=1) (SpV.mk (u1.ext (hE27.trans hE32)) (u2.ext (hE27.trans hE32))) (RSpV.mk (h27.ext hE32) h32) ⟨sz_m1,sz_1⟩ (by omega) fun W37 hE37 _=>⟨true,rfl,fun W39 _=>⟨rfl,trivial⟩⟩
theorem law9alive_call {W0 W:PW} {M:Nat→Prop} {K:Value→PW→Prop} (hT:TabOK W) (kont: ∀(W':PW),Ext W W'→(True)→K (.bool true) W'):
  callN Go.Proofs.Tryz.prog W0 M 16 [] W K:=
 callN_of (fun W' hE=>law9alive_ok (M:=fun _=>False) (hT.ext hE)) (fun W' v W'' hE hE' hP=>by
  obtain⟨rfl,h⟩:=hP
  exact kont W'' (hE.trans hE') h)
def in9I (W0:PW) (K:Nat) (bs:List Iv) (L:List PL) (W:PW):Prop:=match L with
 | [.row l,.val (.int .i64 i),.cells c]=>∃(j:Nat) (u:List Rat),i=(j:Int)∧j≤bs.length∧Ext W0 W∧u.length=j∧All2 (QtV 284 W) l u∧(∀q∈u,Sz K q)∧NmV 284 W c (fun k=>u.getD k 0)∧∀k,k<j→inI (boxF bs k) (u.getD k 0)
 | _=>False
theorem getD_snoc {u:List Rat} {q:Rat} (k:Nat):(u ++ [q]).getD k 0=if k=u.length then q else u.getD k 0:=by
 rw[List.getD_eq_getElem?_getD,List.getD_eq_getElem?_getD,List.getElem?_append]
 by_cases h:k<u.length
 ·rw[if_pos h,if_neg (by omega)]
 ·rw[if_neg h]
  by_cases e:k=u.length
  ·rw[if_pos e,e,Nat.sub_self];rfl
  ·rw[if_neg e,List.getElem?_eq_none (by simp;omega),List.getElem?_eq_none (by omega)]
theorem box_i1 (j0 j1 j2:Int) {j:Nat} (hj:j<3): ∃i:Int,BoxAt [.int .i64 j0,.int .i64 j1,.int .i64 j2] (0+Int.toNat (j:Int)*1+0) [.int .i64 i]:=by
 rcases(by omega:j=0∨j=1∨j=2) with rfl | rfl | rfl
 ·exact⟨j0,by simp,rfl⟩
 ·exact⟨j1,by simp,rfl⟩
 ·exact⟨j2,by simp,rfl⟩
def cnE (n:Nat) (L:List PL) (_:PW):Nat:=match L with
 | [_,.val (.int .i64 z),_]=>n-z.toNat
 | _=>0
theorem law9Inside_ok {W0:PW} {M:Nat→Prop} {sb:Sl} {bs:List Iv} {j0 j1 j2:Int} {k:Nat} (hb:IsBox 284 W0 sb bs) (ho: ∀x∈bs,x.1≤x.2) (hk: ∀x∈bs,IvS k x) (hk2:k≤100000) (hl:bs.length≤3):
  PCallsM Go.Proofs.Tryz.prog 38 [sb.v,.agg ⟨[.int .i64 j0,.int .i64 j1,.int .i64 j2]⟩] W0 M fun v W'=>∃(s1:Sl),∃(s:Sl),∃(b:Bool),∃(t:Sl),∃(s':Sl),∃(b':Bool),∃(t':Sl),∃(s'':Sl),∃(b'':Bool),∃(t'':Sl),∃(u:Pt),v = .tuple ⟨[Sl.v s1,.agg ⟨[Sl.v s,.bool b,Sl.v t,Sl.v s',.bool b',Sl.v t',Sl.v s'',.bool b'',Sl.v t'']⟩]⟩∧IsRat 284 W' s b t u.x∧IsRat 284 W' s' b' t' u.y∧IsRat 284 W' s'' b'' t'' u.z∧inB3 (boxF bs) u∧(∀i,Sz (3*k+4) (u.get i)):=by
 apply calllaw9_Inside
 have hn:=hb.n
 refine⟨in9I W0 (3*k+4) bs,cnE bs.length,⟨0,[],rfl,Nat.zero_le _,Ext.refl _,rfl,trivial,fun q hq=>(by cases hq),NmV.mk (s0:=⟨none,0,0⟩) (t0:=⟨none,0,0⟩) (s1:=⟨none,0,0⟩) (t1:=⟨none,0,0⟩) (s2:=⟨none,0,0⟩) (t2:=⟨none,0,0⟩) (isRat_zero W0) (isRat_zero W0) (isRat_zero W0),fun k hk=>by omega⟩,?_⟩
 rintro s3 b4 s5 s6 b7 s8 s9 b10 s11 l12 i13 W14 ⟨j,u,rfl,hj,hE14,hu,hl12,hz,hN,hin⟩
 obtain⟨n0,n1,n2⟩:=hN.three
 have hal:=hl12.len
 have hB:=hb.ext hE14
 refine⟨fun hlt=>⟨fun h3=>?_,fun h3=>by omega⟩,fun hge s68 W69 hE69 _ _ W70 hE70=>?_⟩
 ·have hjl:j<bs.length:=by omega
  have hmem:=List.getElem_mem hjl
  obtain⟨i15,hb15⟩:=box_i1 j0 j1 j2 (j:=j) (by omega)
  refine⟨⟨by omega,by omega⟩,i15,hb15,?_⟩
  refine bookWithin_call (by omega) (by omega) (by omega) fun i18 W17 hE17 hi=>⟨i18,rfl,?_⟩
  refine ratOf_call (z:=i18) (by unfold I64;omega) fun s21 b22 s23 W20 hE20 h20=>⟨s21,b22,s23,rfl,?_⟩
  refine ratOf_call (z:=8) (by unfold I64;omega) fun s26 b27 s28 W25 hE25 h25=>⟨s26,b27,s28,rfl,?_⟩
  have z3:Sz 1 ((i18:Int):Rat):=sz_small hi.1 (by omega)
  have z8:Sz 1 (((8:Int):Int):Rat):=sz_small (by omega) (by omega)
  refine ratDiv_call (h20.ext hE25) h25 z3 z8 (by omega) (by omega) (by omega) fun s31 b32 s33 W30 hE30 h30=>⟨s31,b32,s33,_,rfl,?_⟩
  have zw:=z3.div z8 (Nat.le_refl 1)
  have E30:=hE17.trans (hE20.trans (hE25.trans hE30))
  obtain⟨x,⟨s38,b39,s40,s41,b42,s43,rfl,q1,q2⟩,hel⟩:=(hB.ext E30).at hjl
  have hib:SX.inB sb (j:Int):=(hB.ext E30).inB (by omega) (by omega)
  have hx:=hk _ hmem
  refine⟨hib,s38,b39,s40,hel 0 rfl,hib,s38,b39,s40,s41,b42,s43,hel 0 rfl,?_⟩
  refine spanWidth_call (SpV.mk q1 q2) hx (by omega) fun s46 b47 s48 W45 hE45 h45=>⟨s46,b47,s48,rfl,hE45,?_⟩
  have zd:=hx.2.sub hx.1
  refine ratMul_call h45 (h30.ext hE45) zd zw (by omega) (by omega) fun s51 b52 s53 W50 hE50 h50=>⟨s51,b52,s53,rfl,hE50,?_⟩
  refine ratAdd_call (q1.ext (hE45.trans hE50)) h50 hx.1 (zd.mul zw) (by omega) (by omega) fun s56 b57 s58 W55 hE55 h55=>⟨s56,b57,s58,rfl,⟨by omega,by omega⟩,by omega,?_⟩
  have zq:=(hx.1.add (zd.mul zw)).mono (show _≤3*k+4 by omega)
  have hqi:=at_in (ho _ hmem) hi.1 hi.2
  rw[←boxF_at hjl] at hqi
  rw[←boxF_at hjl] at h55 zq
  obtain⟨Q,hQ⟩: ∃Q,Q=(boxF bs j).1+((boxF bs j).2-(boxF bs j).1)*((i18:Rat)/((8:Int):Rat)):=⟨_,rfl⟩
  rw[←hQ] at h55 zq hqi
  have E55:=E30.trans (hE45.trans (hE50.trans hE55))
  have n0:=n0.ext E55
  have n1:=n1.ext E55
  have n2:=n2.ext E55
  have hmu:bs.length-Int.toNat ((j:Int)+1)<bs.length-Int.toNat (j:Int):=by omega
  have fin: ∀{c:List Value},NmV 284 W55 c (fun k=>(u ++ [Q]).getD k 0)→in9I W0 (3*k+4) bs [.row (l12 ++ [[s56.v,.bool b57,s58.v]]),.val (.int .i64 ((j:Int)+1)),.cells c] W55:=fun {c} hc=>by
   refine⟨j+1,u ++ [Q],by push_cast;rfl,by omega,hE14.trans E55,by simp[hu],(hl12.mono fun _ _ h=>h.ext E55).append ⟨⟨s56,b57,s58,rfl,h55⟩,trivial⟩,fun q hq=>?_,hc,fun k hk=>?_⟩
   ·rcases List.mem_append.1 hq with hq | hq
    ·exact hz q hq
    ·rw[List.mem_singleton.1 hq];exact zq
   ·rw[getD_snoc]
    split
    ·rename_i e;rw[hu] at e;subst e;exact hqi
    ·exact hin k (by omega)
  have gs:=fun k=>@getD_snoc u Q k
  rw[hu] at gs
  have hlen:(l12.length+([[s56.v,.bool b57,s58.v]]:List (List Value)).length)*56≤140737488355328:=by simp only[List.length_cons,List.length_nil];omega
  refine⟨⟨⟨trivial,fun e=>?_⟩,fun e=>?_⟩,fun e=>?_⟩
  ·have:j=0:=by omega
   subst this
   exact⟨⟨by omega,by omega⟩,s56,b57,s58,⟨by simp,rfl⟩,hlen,by unfold I64;omega,fin (NmV.mk (by rw[gs,if_pos rfl];exact h55) (by rw[gs,if_neg (by omega)];exact n1) (by rw[gs,if_neg (by omega)];exact n2)),hmu⟩
  ·have:j=1:=by omega
   subst this
   exact⟨⟨by omega,by omega⟩,s56,b57,s58,⟨by simp,rfl⟩,hlen,by unfold I64;omega,fin (NmV.mk (by rw[gs,if_neg (by omega)];exact n0) (by rw[gs,if_pos rfl];exact h55) (by rw[gs,if_neg (by omega)];exact n2)),hmu⟩
  ·have:j=2:=by omega
   subst this
   exact⟨⟨by omega,by omega⟩,s56,b57,s58,⟨by simp,rfl⟩,hlen,by unfold I64;omega,fin (NmV.mk (by rw[gs,if_neg (by omega)];exact n0) (by rw[gs,if_neg (by omega)];exact n1) (by rw[gs,if_pos rfl];exact h55)),hmu⟩
 ·have hje:j=bs.length:=by omega
  refine⟨s68,s3,b4,s5,s6,b7,s8,s9,b10,s11,⟨u.getD 0 0,u.getD 1 0,u.getD 2 0⟩,rfl,n0.ext (hE69.trans hE70),n1.ext (hE69.trans hE70),n2.ext (hE69.trans hE70),fun i hi=>?_,fun i=>?_⟩
  ·have e:(Pt.mk (u.getD 0 0) (u.getD 1 0) (u.getD 2 0)).get i=u.getD i 0:=by rcases(by omega:i=0∨i=1∨i=2) with rfl | rfl | rfl<;>rfl
   rw[e]
   by_cases h:i<j
   ·exact hin i h
   ·rw[boxF_out (by omega),List.getD_eq_getElem?_getD,List.getElem?_eq_none (by omega)]
    exact⟨Rat.le_refl,Rat.le_refl⟩
  ·have zg: ∀i,Sz (3*k+4) (u.getD i 0):=fun i=>by
    rw[List.getD_eq_getElem?_getD]
    cases e:u[i]? with
    | none=>exact Sz.zero (by omega)
    | some q=>exact hz q (List.mem_of_getElem? e)
   unfold Pt.get
   (repeat' split)
   ·exact zg 0
   ·exact zg 1
   ·exact zg 2
theorem law9Inside_call {W0 W:PW} {M:Nat→Prop} {sb:Sl} {bs:List Iv} {j0 j1 j2:Int} {k:Nat} {K:Value→PW→Prop} (hb:IsBox 284 W sb bs) (ho: ∀x∈bs,x.1≤x.2) (hk: ∀x∈bs,IvS k x) (hk2:k≤100000) (hl:bs.length≤3) (kont: ∀(s1:Sl) (s:Sl) (b:Bool) (t:Sl) (s':Sl) (b':Bool) (t':Sl) (s'':Sl) (b'':Bool) (t'':Sl) (u:Pt) (W':PW),Ext W W'→(IsRat 284 W' s b t u.x∧IsRat 284 W' s' b' t' u.y∧IsRat 284 W' s'' b'' t'' u.z∧inB3 (boxF bs) u∧(∀i,Sz (3*k+4) (u.get i)))→K (.tuple ⟨[Sl.v s1,.agg ⟨[Sl.v s,.bool b,Sl.v t,Sl.v s',.bool b',Sl.v t',Sl.v s'',.bool b'',Sl.v t'']⟩]⟩) W'):
  callN Go.Proofs.Tryz.prog W0 M 38 [sb.v,.agg ⟨[.int .i64 j0,.int .i64 j1,.int .i64 j2]⟩] W K:=
 callN_of (fun W' hE=>law9Inside_ok (M:=fun _=>False) (hb.ext hE) ho hk hk2 hl) (fun W' v W'' hE hE' hP=>by
  obtain⟨s1,s,b,t,s',b',t',s'',b'',t'',u,rfl,h⟩:=hP
  exact kont s1 s b t s' b' t' s'' b'' t'' u W'' (hE.trans hE') h)
end Go.Proofs.YtjkkidjbppphpaaGreatDoor

/- cincturelaw9.BoundHas. -/
set_option maxRecDepth 100000
set_option linter.unusedVariables false
set_option linter.unusedSimpArgs false
namespace Go.Proofs.YtjkkidjbppphpaaGreatDoor
open Go Go.SX
theorem of_bxb {L:List (Mon×ByteArray)} {e:Int} {p:List Tm} {bs:List Iv} (h:OfOK L e p) (ho:POk p) (hk: ∀x∈bs,IvS 4 x) (hl:bs.length≤5):BxB 56029 4 p bs where
 n:=⟨h.bd,hk,ho,by have:=h.len;omega,by omega,by omega,by omega⟩
 len:=by have:=h.len;omega
 k1:=by omega
 bl:=by omega
theorem best_in {p:List Tm} {bs:List Iv} (h:rmax (ivOver (boxF bs) p).1 (meanS p bs bs.length).1≤rmin (ivOver (boxF bs) p).2 (meanS p bs bs.length).2):bestI p bs=(rmax (ivOver (boxF bs) p).1 (meanS p bs bs.length).1,rmin (ivOver (boxF bs) p).2 (meanS p bs bs.length).2):=if_pos h
theorem meet_in {x y:Iv} {v:Rat} (h:inI x v) (k:inI y v):inI (rmax x.1 y.1,rmin x.2 y.2) v:=by
 constructor
 ·show rmax x.1 y.1≤v
  rcases rmax_or x.1 y.1 with e | e<;>rw[e]
  ·exact h.1
  ·exact k.1
 ·show v≤rmin x.2 y.2
  rcases rmin_or x.2 y.2 with e | e<;>rw[e]
  ·exact h.2
  ·exact k.2
theorem meet_le (x y:Iv):ivLe (rmax x.1 y.1,rmin x.2 y.2) x∧ivLe (rmax x.1 y.1,rmin x.2 y.2) y:=⟨⟨(rmax_le _ _).1,(rmin_le _ _).1⟩,(rmax_le _ _).2,(rmin_le _ _).2⟩
theorem at_ar14 {a:Nat} (h1:a≤14):a*(56029+3*(16*255+1)+1)+1≤1000000:=by
 have h4:a*(56029+3*(16*255+1)+1)≤14*68273:=Nat.mul_le_mul h1 (by decide)
 exact Nat.le_trans (Nat.add_le_add_right h4 1) (by decide)
theorem boundHas_ok {W0:PW} {M:Nat→Prop} {s sb:Sl} {L:List (Mon×ByteArray)} {Lt:List (ByteArray×ByteArray)} {j0 j1 j2:Int} (hT:TabOK W0) (h:IsAPoly W0 s L) (hb:IsPrs W0 sb Lt) (hl:L.length≤1099511627776) (hz: ∀t∈L,t.2.size≤1099511627776) (hl2:Lt.length≤1099511627776) (hz2: ∀t∈Lt,t.1.size≤1099511627776∧t.2.size≤1099511627776):
  PCallsM Go.Proofs.Tryz.prog 12 [s.v,sb.v,.agg ⟨[.int .i64 j0,.int .i64 j1,.int .i64 j2]⟩] W0 M fun v W'=>v = .bool true∧True:=by
 apply calllaw9_BoundHas
 have alv: ∀{W:PW},TabOK W→callN Go.Proofs.Tryz.prog W0 M 16 [] W fun v11 W12=>∃b13:Bool,v11 = .bool b13∧∀(W14:PW),Ext W12 W14→Value.bool b13 = .bool true∧True:=fun hT=>law9alive_call hT fun W12 _ _=>⟨true,rfl,fun W14 _=>⟨rfl,trivial⟩⟩
 refine law8Of_call h hl hz fun s3 s4 b5 W2 hE2 hp=>⟨s3,s4,b5,rfl,?_⟩
 refine law6Of_call (hT.ext hE2) (hb.ext hE2) hl2 hz2 fun s8 s9 b10 W7 hE7 hbx=>⟨s8,s9,b10,rfl,fun _=>alv (hT.ext (hE2.trans hE7)),fun h5=>⟨fun _=>alv (hT.ext (hE2.trans hE7)),fun h10=>law9alive_call (hT.ext (hE2.trans hE7)) fun W20 hE20 _=>⟨true,rfl,fun e=>(by cases e),fun _=>?_⟩⟩⟩
 obtain⟨p,op,q1,_⟩:=hp (by simpa using h5)
 obtain⟨bs,x1,_,hBox,hk⟩:=hbx (by simpa using h10)
 have E20:=hE2.trans (hE7.trans hE20)
 have q1:=q1.ext (hE7.trans hE20)
 have x1:=x1.ext hE20
 have hlen:=op.len
 have hn:=x1.n
 refine polyVars_call q1 (by omega) fun W27 hE27 _=>⟨_,rfl,fun _=>alv (hT.ext (E20.trans hE27)),fun hv=>?_⟩
 have hs:SidesOK p bs:=⟨hBox,by omega⟩
 have hbl:=hBox.1.2
 have ho:=q1.ok
 have hg:=op.1.good
 have hz:=of_bxb op ho hk (by omega)
 have hord: ∀x∈bs,x.1≤x.2:=fun x hx=>Rat.le_of_lt (hBox.2 x hx)
 refine law9Inside_call (x1.ext hE27) hord hk (by omega) hbl fun s35 s36 b37 s38 s39 b40 s41 s42 b43 s44 u W34 hE34 ⟨g0,g1,g2,hin,hsz⟩=>⟨s35,s36,b37,s38,s39,b40,s41,s42,b43,s44,rfl,?_⟩
 have ha:=at_ar14 hlen
 refine polyAt_call (l:=16) (q1.ext (hE27.trans hE34)) g0 g1 g2 op.bd.sz hsz (by omega) (Nat.le_trans ha (by omega)) (by omega) fun s47 b48 s49 W46 hE46 hval=>⟨s47,b48,s49,rfl,?_⟩
 have zv:Sz 67000000 (atQ u p):=((atQ_sz op.bd.sz hsz (e:=255) fun t ht i=>eget_le (ho t ht) i).mono ha).mono (by omega)
 have E46:=hE27.trans (hE34.trans hE46)
 have zn:=(hz.n.over.mono (show _≤67000000 by omega)).sz
 have zm:=hz.mean'
 have d0:decide (SidesOK p bs)=true:=decide_eq_true hs
 refine boundNatural_call (q1.ext E46) (x1.ext E46) hz.n fun l W51 hE51 h51=>h51.outT fun s52 b53 s54 s55 b56 s57 h51=>?_
 have E51:=E46.trans hE51
 refine boundMean_call (q1.ext E51) (x1.ext E51) hz fun l W60 hE60 h60=>h60.outT fun s61 b62 s63 s64 b65 s66 h60=>?_
 have E60:=E51.trans hE60
 refine boundBest_call (q1.ext E60) (x1.ext E60) hz fun l ok W69 hE69 ⟨h69,hok⟩=>h69.outT fun s70 b71 s72 s73 b74 s75 h69=>?_
 have hbo:=best_ok hg ho hs
 rw[if_pos hs] at h51 h60 h69
 rw[best_in hbo] at h69
 have hok:ok=true:=hok.trans (decide_eq_true ⟨hs,hbo⟩)
 subst hok
 have i1:=in_over hin p
 have i2:=in_mean hord hbl hg ho hin
 have i3:=meet_in i1 i2
 obtain⟨l1,l2⟩:=meet_le (ivOver (boxF bs) p) (meanS p bs bs.length)
 have zb:IvS 67000000 (rmax (ivOver (boxF bs) p).1 (meanS p bs bs.length).1,rmin (ivOver (boxF bs) p).2 (meanS p bs bs.length).2):=⟨rmax_sz zn.1 zm.1,rmin_sz zn.2 zm.2⟩
 refine⟨fun _=>⟨fun _=>⟨fun _=>?_,fun e=>(by cases e)⟩,fun e=>absurd e (by rw[d0];decide)⟩,fun e=>absurd e (by rw[d0];decide)⟩
 have F:=hE51.trans (hE60.trans hE69)
 refine spanHas_call (h51.ext (hE60.trans hE69)) (hval.ext F) zn zv (by omega) fun W78 hE78 _=>⟨_,rfl,fun _=>?_,fun e=>absurd (show _∧_ from i1) (of_decide_eq_false e)⟩
 refine spanHas_call (h60.ext (hE69.trans hE78)) (hval.ext (F.trans hE78)) zm zv (by omega) fun W81 hE81 _=>⟨_,rfl,fun _=>?_,fun e=>absurd (show _∧_ from i2) (of_decide_eq_false e)⟩
 refine spanHas_call (h69.ext (hE78.trans hE81)) (hval.ext (F.trans (hE78.trans hE81))) zb zv (by omega) fun W84 hE84 _=>⟨_,rfl,fun _=>?_,fun e=>absurd (show _∧_ from i3) (of_decide_eq_false e)⟩
 have G:=hE78.trans (hE81.trans hE84)
 refine spanWithin_call (h69.ext G) (h51.ext (hE60.trans (hE69.trans G))) zb zn (by omega) fun W87 hE87 _=>⟨_,rfl,fun _=>?_,fun e=>absurd l1 (of_decide_eq_false e)⟩
 refine spanWithin_call (h69.ext (G.trans hE87)) (h60.ext (hE69.trans (G.trans hE87))) zb zm (by omega) fun W90 hE90 _=>⟨_,rfl,fun W92 _=>⟨congrArg Value.bool (decide_eq_true l2),trivial⟩⟩
end Go.Proofs.YtjkkidjbppphpaaGreatDoor

/- An argument that is a slice of terms with texts, opened. -/
set_option maxRecDepth 100000
set_option linter.unusedVariables false
set_option linter.unusedSimpArgs false
namespace Go.Proofs.YtjkkidjbppphpaaGreatDoor
open Go Go.SX Go.ChangeShapes Go.WideShapes Go.ChangeAt Go.RowKit Go.Deep
instance:Inhabited (Mon×ByteArray):=⟨(⟨0,0,0⟩,⟨#[]⟩)⟩
theorem cells_term:Go.Proofs.Tryz.prog.cellsOf 194=4:=by kernel_rfl
theorem cells_mono:Go.Proofs.Tryz.prog.cellsOf 163=3:=by kernel_rfl
theorem cells_u8:Go.Proofs.Tryz.prog.cellsOf 5=1:=by kernel_rfl
theorem u8_ok {n:Int} (h:(Lit.int .u8 n).wf=true):0≤n∧n≤255:=by
 simp[Lit.wf,IntKind.min,IntKind.max,IntKind.bits,IntKind.signed] at h
 omega
theorem open_term {H:Type} {enc:TypeId×Value→H} {W:World} {fuel:Nat} {cs:List Value} {x:DataW H×List MemPlace} (h:DataW.trod enc Go.Proofs.Tryz.prog W 0 (fun _=>true) true fuel 194 cs=some x):
  ∃t:Mon×ByteArray,AT cs t∧t.2.size≤Rows.uptoBulk x.1:=by
 obtain⟨xs,k,rfl,rfl,hl,hxl,hf⟩:=DataW.trod_struct Go.Proofs.Tryz.underlying194 h
 rw[cells_term] at hl
 have g0:DataW.trod enc Go.Proofs.Tryz.prog W 0 (fun _=>true) true k 163 ((cs.drop 0).take (Go.Proofs.Tryz.prog.cellsOf 163))=xs[0]?:=hf 0 _ rfl
 have g1:DataW.trod enc Go.Proofs.Tryz.prog W 0 (fun _=>true) true k 9 ((cs.drop 3).take (Go.Proofs.Tryz.prog.cellsOf 9))=xs[1]?:=hf 1 _ rfl
 rw[cells_mono] at g0
 rw[cells_str] at g1
 match cs,hl,xs,hxl with
 | [v0,v1,v2,v3],_,[y0,y1],_=>
  have g0:DataW.trod enc Go.Proofs.Tryz.prog W 0 (fun _=>true) true k 163 [v0,v1,v2]=some y0:=g0
  have g1:DataW.trod enc Go.Proofs.Tryz.prog W 0 (fun _=>true) true k 9 [v3]=some y1:=g1
  obtain⟨zs,m,rfl,rfl,_,hzl,hz⟩:=DataW.trod_array Go.Proofs.Tryz.underlying163 g0
  obtain⟨s,hs,rfl,hsz⟩:=DataW.trod_string Go.Proofs.Tryz.underlying9 g1
  have e0:=hz 0 (by omega)
  have e1:=hz 1 (by omega)
  have e2:=hz 2 (by omega)
  rw[cells_u8] at e0 e1 e2
  match zs,hzl with
  | [w0,w1,w2],_=>
   have e0:DataW.trod enc Go.Proofs.Tryz.prog W 0 (fun _=>true) true m 5 [v0]=some w0:=e0
   have e1:DataW.trod enc Go.Proofs.Tryz.prog W 0 (fun _=>true) true m 5 [v1]=some w1:=e1
   have e2:DataW.trod enc Go.Proofs.Tryz.prog W 0 (fun _=>true) true m 5 [v2]=some w2:=e2
   obtain⟨n0,h0,_,k0⟩:=DataW.trod_int Go.Proofs.Tryz.underlying5 e0
   obtain⟨n1,h1,_,k1⟩:=DataW.trod_int Go.Proofs.Tryz.underlying5 e1
   obtain⟨n2,h2,_,k2⟩:=DataW.trod_int Go.Proofs.Tryz.underlying5 e2
   have hs: [v3] = [Value.string s]:=hs
   have h0: [v0] = [Value.int .u8 n0]:=h0
   have h1: [v1] = [Value.int .u8 n1]:=h1
   have h2: [v2] = [Value.int .u8 n2]:=h2
   simp only[List.cons.injEq,and_true] at hs h0 h1 h2
   subst hs h0 h1 h2
   refine⟨(⟨n0,n1,n2⟩,s),⟨⟨u8_ok k0,u8_ok k1,u8_ok k2⟩,rfl⟩,?_⟩
   have e:s.data.toList.length=s.size:=by rw[Array.length_toList];rfl
   simp only[List.map_cons,List.map_nil,Rows.uptoBulk,Rows.uptoBulkAll]
   omega
theorem all2_map {n:Nat} {V:Nat→List Value} {y:Nat→Mon×ByteArray} (h: ∀i,i<n→AT (V i) (y i)):All2 AT ((List.range n).map V) ((List.range n).map y):=by
 induction n with
 | zero=>trivial
 | succ n ih=>
  rw[List.range_succ,List.map_append,List.map_append]
  exact(ih fun i hi=>h i (by omega)).append ⟨h n (by omega),trivial⟩
theorem open_terms {H:Type} {enc:TypeId×Value→H} {W:World} {fuel:Nat} {v:Value} {d:DataW H} {p:List MemPlace} (h:DataW.trod enc Go.Proofs.Tryz.prog W 0 (fun _=>true) true fuel 22 [v]=some (d,p)):
  ∃(s:Sl) (L:List (Mon×ByteArray)),v=s.v∧IsAPoly ⟨W,fun _=>False⟩ s L∧L.length≤Rows.uptoBulk d∧∀t∈L,t.2.size≤Rows.uptoBulk d:=by
 rcases open_slice Go.Proofs.Tryz.underlying22 h with⟨hcs,hx⟩ | ⟨a,len,cap,m,n,D,Pl,hcs,_,hl,hm,hmm,hx,hcell⟩
 ·have hv:v = .slice none 0 0:=by simpa using hcs
  subst hv
  exact⟨⟨none,0,0⟩,[],rfl,⟨[],⟨0,rfl,Nat.le_refl _,Nat.zero_le _,fun x h=>by simp at h,.inl rfl⟩,trivial⟩,Nat.zero_le _,fun l h=>by simp at h⟩
 ·have hv:v = .slice (some a) len cap:=by simpa using hcs
  subst hv
  simp only[if_true] at hmm
  subst hmm
  simp only[Prod.mk.injEq] at hx
  obtain⟨rfl,_⟩:=hx
  rw[cells_term] at hcell
  obtain⟨q,hq⟩: ∃q:Nat→List Value×(Mon×ByteArray),∀i,i<m→W.cells? 0 (a.add (i*4)) 4=some (q i).1∧AT (q i).1 (q i).2∧(q i).2.2.size≤Rows.uptoBulk (D i):=choose_lt (α:=List Value×(Mon×ByteArray)) (p:=fun i q=>W.cells? 0 (a.add (i*4)) 4=some q.1∧AT q.1 q.2∧q.2.2.size≤Rows.uptoBulk (D i)) fun i hi=>by
   obtain⟨cs',h1,h2⟩:=hcell i hi
   obtain⟨t,h3,h4⟩:=open_term h2
   exact⟨(cs',t),h1,h3,h4⟩
  have hr:=rowA_of_cellsN (W:=W) (a:=a) (n:=len) (c:=m) (sz:=4) (V:=fun i=>(q i).1) (fun j hj i v hv=>by
   obtain⟨_,hlen,hc⟩:=World.cells?_some (hq j (by omega)).1
   have hi:i<4:=by have:=(List.getElem?_eq_some_iff.1 hv).1;omega
   have:=hc i hi
   rw[add_add] at this
   rw[this];exact hv) (fun j hj=>(World.cells?_some (hq j (by omega)).1).2.1) (by omega) hl hm (fun j hj u hu=>by
   rw[(hq j (by omega)).2.1.2] at hu
   simp only[List.mem_cons,List.not_mem_nil,or_false] at hu
   rcases hu with rfl | rfl | rfl | rfl<;>rfl)
  have hbulk: ∀i,i<len→Rows.uptoBulk (D i)≤Rows.uptoBulkAll ((List.range len).map D):=fun i hi=>bulk_part (List.mem_map.2 ⟨i,List.mem_range.2 hi,rfl⟩)
  have hlen:=bulk_length ((List.range len).map D)
  simp only[List.length_map,List.length_range] at hlen
  refine⟨⟨some a,len,m⟩,(List.range len).map fun i=>(q i).2,rfl,⟨_,hr,all2_map fun i hi=>(hq i (by omega)).2.1⟩,?_,fun t ht=>?_⟩
  ·simp only[List.length_map,List.length_range,Rows.uptoBulk]
   omega
  ·obtain⟨j,hj,rfl⟩:=List.mem_map.1 ht
   have hj':=List.mem_range.1 hj
   have h1:=hbulk j hj'
   have h2:=(hq j (by omega)).2.2
   simp only[Rows.uptoBulk]
   omega
end Go.Proofs.YtjkkidjbppphpaaGreatDoor

/- An argument of three whole numbers, opened. -/
set_option maxRecDepth 100000
set_option linter.unusedVariables false
set_option linter.unusedSimpArgs false
namespace Go.Proofs.YtjkkidjbppphpaaGreatDoor
open Go Go.SX Go.ChangeShapes Go.WideShapes Go.ChangeAt Go.RowKit Go.Deep
theorem three_ints_of {r:Reach} {w:World} {base:Nat} {v:Value} (h:Value.okWide Go.Proofs.Tryz.prog w r base 83 v): ∃xs:Array Value,v = .agg xs∧xs.size=3:=by
 simp only[Value.okWide,Go.Proofs.Tryz.underlying83] at h
 obtain⟨cs,h1,h2,_⟩:=h
 exact⟨cs,h1,by rw[h2];kernel_rfl⟩
theorem cells_int1:Go.Proofs.Tryz.prog.cellsOf 3=1:=by kernel_rfl
theorem open_three_ints {H:Type} {enc:TypeId×Value→H} {W:World} {fuel:Nat} {l:List Value} {d:DataW H} {p:List MemPlace} (h:DataW.trod enc Go.Proofs.Tryz.prog W 0 (fun _=>true) true fuel 83 l=some (d,p)) (hl:l.length=3):
  ∃a b c:Int,l = [.int .i64 a,.int .i64 b,.int .i64 c]:=by
 obtain⟨zs,m,rfl,hx,_,hzl,hz⟩:=DataW.trod_array Go.Proofs.Tryz.underlying83 h
 have e0:=hz 0 (by omega)
 have e1:=hz 1 (by omega)
 have e2:=hz 2 (by omega)
 rw[cells_int1] at e0 e1 e2
 match l,hl,zs,hzl with
 | [v0,v1,v2],_,[w0,w1,w2],_=>
  have e0:DataW.trod enc Go.Proofs.Tryz.prog W 0 (fun _=>true) true m 3 [v0]=some w0:=e0
  have e1:DataW.trod enc Go.Proofs.Tryz.prog W 0 (fun _=>true) true m 3 [v1]=some w1:=e1
  have e2:DataW.trod enc Go.Proofs.Tryz.prog W 0 (fun _=>true) true m 3 [v2]=some w2:=e2
  obtain⟨n0,h0,_⟩:=DataW.trod_int Go.Proofs.Tryz.underlying3 e0
  obtain⟨n1,h1,_⟩:=DataW.trod_int Go.Proofs.Tryz.underlying3 e1
  obtain⟨n2,h2,_⟩:=DataW.trod_int Go.Proofs.Tryz.underlying3 e2
  have k0:v0=Value.int .i64 n0:=(List.cons.inj (show[v0] = [Value.int .i64 n0] from h0)).1
  have k1:v1=Value.int .i64 n1:=(List.cons.inj (show[v1] = [Value.int .i64 n1] from h1)).1
  have k2:v2=Value.int .i64 n2:=(List.cons.inj (show[v2] = [Value.int .i64 n2] from h2)).1
  subst k0 k1 k2
  exact⟨n0,n1,n2,rfl⟩
end Go.Proofs.YtjkkidjbppphpaaGreatDoor

/- cincturelaw9.BoundHas answers true for every input whose bulk is at most 1048576 (the second form), and its arguments read behind the call as they did ahead of it. -/
set_option maxRecDepth 100000
set_option linter.unusedVariables false
set_option linter.unusedSimpArgs false
namespace Go.Proofs.YtjkkidjbppphpaaGreatDoor
open Go Go.SX Go.ChangeShapes Go.WideShapes Go.ChangeAt Go.RowKit Go.Deep
theorem gTab:Go.Proofs.Tryz.prog.globalNamed "math/bits.deBruijn32tab" = some 1:=by kernel_rfl
theorem gTabType:(Go.Proofs.Tryz.prog.globals[1]?).map (·.type)=some 347:=by kernel_rfl
theorem cellsTab:Go.Proofs.Tryz.prog.cellsOf 347=32:=by kernel_rfl
theorem cellsU8:Go.Proofs.Tryz.prog.cellsOf 5=1:=by kernel_rfl
theorem tabOK {W:World} (h:laidMetH Go.Proofs.Tryz.prog Rows.boundHasUptoRow.laid W):TabOK ⟨W,fun _=>False⟩:=by
 have ht:Go.Lib.TabIs Go.Proofs.Tryz.prog W "math/bits.deBruijn32tab" .u8 (Go.Lib.deBruijn32tab.map fun n:Nat=>(n:Int)):=Go.Lib.tabIs_of_head (rest:=[]) gTab gTabType Go.Proofs.Tryz.underlying347 Go.Proofs.Tryz.underlying5 cellsU8 cellsTab h
 have hc: ∀j,j<32→W.cell? ⟨1,j,none⟩=some (.int .u8 ((Go.Lib.deBruijn32tab.getD j 0:Nat):Int)):=fun j hj=>by
  rw[ht.cell gTab j (by simpa[Go.Lib.deBruijn32tab] using hj)]
  have hall: ∀j,j<32→(Go.Lib.deBruijn32tab.map fun n:Nat=>(n:Int)).getD j 0=((Go.Lib.deBruijn32tab.getD j 0:Nat):Int):=by decide
  rw[hall j hj]
 refine⟨hc,?_,fun h=>h⟩
 have:=hc 0 (by omega)
 unfold World.cell? at this
 split at this
 ·rename_i e
  exact(Array.getElem?_eq_some_iff.1 e).1
 ·cases this
theorem contract (H:Type) (enc:TypeId×Value→H) (W:World) (base:Nat) (args:Array Value) (ds gs:List (DataW H)) (before:List MemPlace)
  (hval: ∀(j:Nat) t v,Go.Proofs.Tryz.f12.params[j]?=some t→args[j]?=some v→Value.okWide Go.Proofs.Tryz.prog W .any base t v)
  (hW:DataW.Whole enc Go.Proofs.Tryz.prog Go.Proofs.Tryz.f12.params.toList Rows.boundHasSpec.vars false W args.toList ds gs before) (hk:Rows.uptoSmall H (ds ++ gs)=true) (hL:laidMetH Go.Proofs.Tryz.prog Rows.boundHasUptoRow.laid W):
  Calls Go.Proofs.Tryz.prog 12 args W fun e W'=>∃v,e = .returned v∧Rows.boundHasSpec.post enc Go.Proofs.Tryz.prog Go.Proofs.Tryz.f12 false true false false W args v W':=by
 have hW':=hW
 obtain⟨p,q,hA0,hV,rfl,hfz,hnd⟩:=hW
 have hA:DataW.TrodAll enc Go.Proofs.Tryz.prog W 0 (fun _=>true) true Go.Proofs.Tryz.f12.params.toList args.toList ds p:=hA0
 rw[Go.Proofs.Tryz.params12] at hA hval
 obtain⟨v0,vs0,d0,ds0,p0,q0,hargs,rfl,rfl,h0,r0⟩:=trodAll_cons hA
 obtain⟨v1,vs1,d1,ds1,p1,q1,rfl,rfl,rfl,h1,r1⟩:=trodAll_cons r0
 obtain⟨v2,vs2,d2,ds2,p2,q2,rfl,rfl,rfl,h2,r2⟩:=trodAll_cons r1
 obtain⟨rfl,rfl,rfl⟩:=trodAll_nil r2
 obtain rfl:args = #[v0,v1,v2]:=by cases args;simp_all
 obtain⟨rfl,rfl⟩:=trodVars_none hV
 obtain⟨a0,n0,c0,rfl⟩:=okWide_slice Go.Proofs.Tryz.underlying22 (hval 0 22 v0 rfl rfl)
 obtain⟨a1,n1,c1,rfl⟩:=okWide_slice Go.Proofs.Tryz.underlying58 (hval 1 58 v1 rfl rfl)
 obtain⟨⟨l2⟩,rfl,hx2⟩:=three_ints_of (hval 2 83 v2 rfl rfl)
 clear hA0
 simp only[List.append_nil] at hW' hk
 have hlt: ∀x∈p0 ++ (p1 ++ p2),x.block<W.heap.size:=fun x hx=>by simpa using hW'.lt x (by simpa using hx)
 have hbulk:Rows.uptoBulkAll [d0,d1,d2]≤1048576:=of_decide_eq_true hk
 simp only[Rows.uptoBulkAll] at hbulk
 have h0k:=h0
 obtain⟨fuel0,hf0⟩:=h0
 have hf0':DataW.trod enc Go.Proofs.Tryz.prog W 0 (fun _=>true) true fuel0 22 [.slice a0 n0 c0]=some (d0,p0):=by simpa[Value.cells] using hf0
 obtain⟨s0,L0,hs0,hL0,hb0,hc0⟩:=open_terms hf0'
 have h1k:=h1
 obtain⟨fuel1,hf1⟩:=h1
 have hf1':DataW.trod enc Go.Proofs.Tryz.prog W 0 (fun _=>true) true fuel1 58 [.slice a1 n1 c1]=some (d1,p1):=by simpa[Value.cells] using hf1
 obtain⟨s1,L1,hs1,hL1,hb1,hc1⟩:=open_pairs hf1'
 have h2k:=h2
 obtain⟨fuel2,hf2⟩:=h2
 have hf2':DataW.trod enc Go.Proofs.Tryz.prog W 0 (fun _=>true) true fuel2 83 l2=some (d2,p2):=by simpa[Value.cells] using hf2
 obtain⟨xa2,xb2,xc2,rfl⟩:=open_three_ints hf2' hx2
 have hc:=boundHas_ok (M:=fun _=>False) (j0:=xa2) (j1:=xb2) (j2:=xc2) (tabOK hL) hL0 hL1 (by omega) (fun t ht=>by have:=hc0 t ht;omega) (by omega) (fun t ht=>by have:=hc1 t ht;omega)
 have hcall:=hc.2 (fun b h=>h.elim)
 rw[hs0,hs1]
 refine hcall.mono fun e W' ⟨v,he,hkeep,hv,_⟩=>⟨v,he,?_⟩
 subst hv
 have hbel:=hkeep.below
 refine⟨[d0,d1,d2],[],_,[],p0 ++ (p1 ++ p2),[],(by rw[←hs0,←hs1];simpa using hW'),trodAll_mk1 (shut_bool Go.Proofs.Tryz.underlying4 _),(by rw[←hs0,←hs1];exact trodAll_mk3 (Below.trod laidOut (by kernel_rfl) (of_decide_eq_true (by kernel_rfl)) h0k hbel fun x hx=>hlt x (by simp[hx])) (Below.trod laidOut (by kernel_rfl) (of_decide_eq_true (by kernel_rfl)) h1k hbel fun x hx=>hlt x (by simp[hx])) (Below.trod laidOut (by kernel_rfl) (of_decide_eq_true (by kernel_rfl)) h2k hbel fun x hx=>hlt x (by simp[hx]))),rfl,hbel.frame _,fun h=>by cases h⟩
noncomputable def laidWorld (os:Os):World:=
 {World.holding Go.Proofs.Tryz.prog os ⟨#[],#[],[]⟩ with heap:=(World.holding Go.Proofs.Tryz.prog os ⟨#[],#[],[]⟩).heap.modify 1 fun
   | .cells _ t frozen=>.cells #[.int .u8 0,.int .u8 1,.int .u8 28,.int .u8 2,.int .u8 29,.int .u8 14,.int .u8 24,.int .u8 3,.int .u8 30,.int .u8 22,.int .u8 20,.int .u8 15,.int .u8 25,.int .u8 17,.int .u8 4,.int .u8 8,.int .u8 31,.int .u8 27,.int .u8 13,.int .u8 23,.int .u8 21,.int .u8 19,.int .u8 16,.int .u8 7,.int .u8 26,.int .u8 12,.int .u8 18,.int .u8 6,.int .u8 11,.int .u8 5,.int .u8 10,.int .u8 9] t frozen
   | o=>o }
theorem laid_met (os:Os):laidMet Go.Proofs.Tryz.prog Rows.boundHasUptoRow.laid ((laidWorld os).forCall (fun _ _=>0) ⟨#[],#[.slice none 0 0,.slice none 0 0,.agg ⟨[.int .i64 0,.int .i64 0,.int .i64 0]⟩],[]⟩).memory:=
 laidMet_of_run' 8 (by kernel_rfl) (by kernel_rfl)
theorem reads (os:Os) {H:Type} (enc:TypeId×Value→H): ∃places,DataW.whole enc Go.Proofs.Tryz.prog ((laidWorld os).forCall (fun _ _=>0) ⟨#[],#[.slice none 0 0,.slice none 0 0,.agg ⟨[.int .i64 0,.int .i64 0,.int .i64 0]⟩],[]⟩).memory Go.Proofs.Tryz.f12.params.toList Rows.boundHasSpec.vars false (#[.slice none 0 0,.slice none 0 0,.agg ⟨[.int .i64 0,.int .i64 0,.int .i64 0]⟩]:Array Value).toList 8=some ([.nil,.nil,.agg [.lit (.int .i64 0),.lit (.int .i64 0),.lit (.int .i64 0)]],[],places):=
 ⟨[],by kernel_rfl⟩
theorem lifted (os:Os) (started:os.Started) (H:Type) (enc:TypeId×Value→H) (F:Stop.Interp):
  ReturnsInHanded {} Go.Proofs.Tryz.checked os 12 .any ((Rows.OpenSpec.upto Rows.boundHasSpec).preRow enc Go.Proofs.Tryz.prog Go.Proofs.Tryz.f12 Rows.boundHasUptoRow.domain false Rows.boundHasUptoRow.laid) (((Rows.OpenSpec.upto Rows.boundHasSpec).at F).post enc Go.Proofs.Tryz.prog Go.Proofs.Tryz.f12 false true false false):=by
 obtain⟨places,hx⟩:=reads os enc
 refine returnsInHanded_of_row (C:=Go.Proofs.Tryz.checked) (s:=Rows.OpenSpec.upto Rows.boundHasSpec) ownKnob_none started (by kernel_rfl) Go.Proofs.Tryz.func12
  (witness_row_at (enc:=enc) (C:=Go.Proofs.Tryz.checked) false (laidWorld os) #[.slice none 0 0,.slice none 0 0,.agg ⟨[.int .i64 0,.int .i64 0,.int .i64 0]⟩] rfl (by kernel_rfl) (by kernel_rfl) (by kernel_rfl)
   (OpenSpec.preRow_of_cond 8 hx (by kernel_rfl) (fun k hk=>by cases hk;kernel_rfl) (by kernel_rfl) (laid_met os))) ?_
 intro W base args ds gs before hval hW _ hcond _ hL _ _
 exact contract H enc W base args ds gs before hval hW (hcond _ rfl) hL
theorem row_f0:facts0 Go.Proofs.Tryz.checked.prog 12 Go.Proofs.Tryz.f12 (Rows.OpenSpec.upto Rows.boundHasSpec).bare Rows.boundHasUptoRow=true:=by kernel_rfl
theorem row_f1:facts1 Go.Proofs.Tryz.checked.prog 12 Go.Proofs.Tryz.f12 (Rows.OpenSpec.upto Rows.boundHasSpec).bare Rows.boundHasUptoRow=true:=by kernel_rfl
theorem row_f2:facts2 Go.Proofs.Tryz.checked.prog 12 Go.Proofs.Tryz.f12 (Rows.OpenSpec.upto Rows.boundHasSpec).bare Rows.boundHasUptoRow=true:=by kernel_rfl
theorem row_f3:facts3 Go.Proofs.Tryz.checked.prog 12 Go.Proofs.Tryz.f12 (Rows.OpenSpec.upto Rows.boundHasSpec).bare Rows.boundHasUptoRow=true:=by kernel_rfl
theorem row_f4:facts4 Go.Proofs.Tryz.checked.prog 12 Go.Proofs.Tryz.f12 (Rows.OpenSpec.upto Rows.boundHasSpec).bare Rows.boundHasUptoRow=true:=by kernel_rfl
theorem saidUpto:Rows.BoundHasUptoSaid:=
 OpenClaim.holds_of_cond 12 Go.Proofs.Tryz.f12 rfl rfl rfl rfl rfl rfl rfl ⟨rfl,rfl,rfl,rfl,rfl⟩ rfl rfl rfl rfl rfl (by kernel_rfl) Go.Proofs.Tryz.func12 (joined_of row_f0 row_f1 row_f2 row_f3 row_f4)
  (of_decide_eq_true (by kernel_rfl)) (by unfold Func.isWrapper;first | (rw[if_pos (by decide +kernel)];kernel_rfl) | (rw[if_neg (by decide +kernel)];exact⟨rfl,rfl⟩))
  (fun os started H enc _ F=>by rw[OpenClaim.pre_eq_preRow];exact lifted os started H enc F)
theorem plain (f:FuncId) (fn:Func) (hf:Tryz.pinned.checked.prog.funcNamed "cincture/cincturelaw9.BoundHas" = some f) (hfn:Tryz.pinned.checked.prog.funcs[f]?=some fn):
  false=Tryz.pinned.checked.prog.looks []∧∀(j:Nat) t,fn.params[j]?=some t→Tryz.pinned.checked.prog.wantsStandIn t=false:=by
 obtain rfl:f=12:=Option.some.inj ((show Go.Proofs.Tryz.prog.funcNamed "cincture/cincturelaw9.BoundHas" = some 12 by kernel_rfl).symm.trans hf) |>.symm
 obtain rfl:fn=Go.Proofs.Tryz.f12:=(Option.some.inj (Go.Proofs.Tryz.func12.symm.trans hfn)).symm
 refine⟨by kernel_rfl,fun j t ht=>?_⟩
 rw[Go.Proofs.Tryz.params12] at ht
 have hm:t∈[22,58,83]:=by simpa using Array.mem_of_getElem? ht
 have hall:([22,58,83].all fun u=>!Go.Proofs.Tryz.prog.wantsStandIn u)=true:=by kernel_rfl
 exact(show Go.Proofs.Tryz.prog.wantsStandIn t=false by simpa using List.all_eq_true.1 hall t hm)
theorem boundHas_card:Rows.BoundHasUptoCardSaid:=
 Claim7.holds_tied_plain_at .later [] _ _ _ _ saidUpto (fun _ h=>by cases h) (by kernel_rfl) (fun _ h=>by cases h) boundHasUpto_row_tie rfl ⟨rfl,rfl⟩ (by kernel_rfl) rfl plain (by kernel_rfl)
#print axioms boundHas_card
end Go.Proofs.YtjkkidjbppphpaaGreatDoor
