/- ref BernAt. -/
import Derived.Test.YtokefihiadbkbaaGreatDoorW12
import Derived.Test.YtokefihiadbkbaaGreatDoorW10
import Derived.Test.YtokefihiadbkbaaGreatDoorLib4
import Derived.Test.YtokefihiadbkbaaGreatDoorW6
import Derived.Test.YtokefihiadbkbaaGreatDoorR20
import Derived.Test.YtokefihiadbkbaaGreatDoorW11
import Derived.Test.YtokefihiadbkbaaGreatDoorLib6
import Derived.Test.YtokefihiadbkbaaGreatDoorR18
import Derived.Test.YtokefihiadbkbaaGreatDoorW8
import Derived.Test.YtokefihiadbkbaaGreatDoorCards
import Derived.Test.YtokefihiadbkbaaGreatDoorTie
import Derived.Deep.DeepHandedRow
import Derived.Lib.LaidTab
set_option linter.unusedVariables false
set_option linter.unusedSimpArgs false
set_option maxRecDepth 100000
namespace Go.Proofs.YtokefihiadbkbaaGreatDoor
open Go Go.SX
def Jc9 (tu:TypeId) (W:PW) (l:List Value) (q:Rat):Prop:=∃(b:Bool) (s t:Sl),l = [.bool b,s.v,t.v]∧Ab6 tu W b s t q
def Id5 (W:PW) (s:Sl) (l:List Rat):Prop:=Dr1 (Jc9 231) 3 W s l
theorem Id5.ext {W W':PW} {s:Sl} {l:List Rat} (h:Id5 W s l) (hE:Ext W W'):Id5 W' s l:=Dr1.ext (R:=Jc9 231) (fun⟨b,s,t,e,h⟩ hE=>⟨b,s,t,e,h.ext hE⟩) h hE
theorem Id5.n {W:PW} {s:Sl} {l:List Rat} (h:Id5 W s l):s.n=l.length:=Dr1.n h
theorem Id5.inB {W:PW} {s:Sl} {l:List Rat} (h:Id5 W s l) {i:Int} (h0:0≤i) (h1:i<(l.length:Int)):SX.inB s i:=Dr1.inB h h0 h1
theorem Id5.at {W:PW} {s:Sl} {l:List Rat} (h:Id5 W s l) {i:Nat} (hi:i<l.length): ∃(b:Bool) (s1 t:Sl),Aa7 W s 3 i 0 [.bool b,s1.v,t.v]∧Ab6 231 W b s1 t (l.getD i 0):=by
 obtain⟨_,⟨b,s1,t,rfl,g⟩,hel⟩:=Dr1.at h hi
 refine⟨b,s1,t,hel 0 rfl,?_⟩
 rw[List.getD_eq_getElem?_getD,List.getElem?_eq_getElem hi]
 exact g
theorem Iw6 (zs:List Int) {n i:Nat} (hi:i<(Iv0 zs n).length):(Iv0 zs n)[i]=(stN zs i:Int):=by simp only[Iv0,List.getElem_map,List.getElem_range]
theorem Ih9 (zs:List Int) (n:Nat):(Iv0 zs n).length=n:=by unfold Iv0;rw[List.length_map,List.length_range]
def rpr (zs:List Int) (u:List Rat) (x:Rat) (k:Nat):Nat→Rat
 | 0=>x
 | i+1=>rpr zs u x k i*((ch (tpN zs i-1) (k/stN zs i%tpN zs i):Rat)*(u.getD i 0^(k/stN zs i%tpN zs i)*(1-u.getD i 0)^(tpN zs i-1-k/stN zs i%tpN zs i)))
def Ix5 (zs:List Int) (x u:List Rat):Nat→Rat
 | 0=>0
 | k+1=>Ix5 zs x u k+rpr zs u (x.getD k 0) k zs.length
def raO (W0:PW) (zs:List Int) (x u:List Rat) (L:List PL) (W:PW):Prop:=match L with
 | [.val (.int .i64 z),.cells l]=>∃(k:Nat) (b:Bool) (s t:Sl),z=(k:Int)∧l = [.bool b,s.v,t.v]∧k≤x.length∧Ext W0 W∧Ab6 231 W b s t (Ix5 zs x u k)
 | _=>False
def raI (W0:PW) (zs:List Int) (u:List Rat) (x:Rat) (k:Nat) (L:List PL) (W:PW):Prop:=match L with
 | [.val (.int .i64 z),.cells l]=>∃(i:Nat) (b:Bool) (s t:Sl),z=(i:Int)∧l = [.bool b,s.v,t.v]∧i≤zs.length∧Ext W0 W∧Ab6 231 W b s t (rpr zs u x k i)
 | _=>False
theorem Iw3 {zs:List Int} (h16: ∀z∈zs,0≤z∧z≤16) {u:List Rat} {x:Rat} {k a l:Nat} (hx:Sz a x) (hu: ∀i,Sz l (u.getD i 0)): ∀i,Sz (a+i*(1+((l*16+1)+((l+2)*16+1)))) (rpr zs u x k i)
 | 0=>by rw[Nat.zero_mul];exact hx
 | i+1=>by
  have h1:=If0 h16 i
  have hp:=Ie4 zs i
  have hm:k/stN zs i%tpN zs i<tpN zs i:=Nat.mod_lt _ hp
  have s1:Sz 1 ((ch (tpN zs i-1) (k/stN zs i%tpN zs i):Nat):Rat):=Ii4 (Iq6 (by omega) _)
  have s2:Sz (l*16+1) (u.getD i 0^(k/stN zs i%tpN zs i)):=((hu i).Fe7 _).mono (by have:l*(k/stN zs i%tpN zs i)≤l*16:=Nat.mul_le_mul_left _ (by omega);omega)
  have s3:Sz ((l+2)*16+1) ((1-u.getD i 0)^(tpN zs i-1-k/stN zs i%tpN zs i)):=(((Sz.one (k:=1) (Nat.le_refl 1)).sub (hu i)).Fe7 _).mono (by have:(1+l+1)*(tpN zs i-1-k/stN zs i%tpN zs i)≤(l+2)*16:=Nat.mul_le_mul (by omega) (by omega);omega)
  have:=(Iw3 h16 hx hu i (k:=k)).mul (s1.mul (s2.mul s3))
  exact this.mono (by rw[Nat.succ_mul i];omega)
theorem Iq7 {zs:List Int} (h16: ∀z∈zs,0≤z∧z≤16) {x u:List Rat} {a l:Nat} (hx: ∀k,Sz a (x.getD k 0)) (hu: ∀i,Sz l (u.getD i 0)) (h3:zs.length≤3): ∀k,Sz (k*(a+3*(1+((l*16+1)+((l+2)*16+1)))+1)+1) (Ix5 zs x u k)
 | 0=>Sz.zero (by omega)
 | k+1=>by
  have h1:=Iq7 h16 hx hu h3 k
  have h2:=Iw3 h16 (hx k) hu zs.length (k:=k)
  have h4:zs.length*(1+((l*16+1)+((l+2)*16+1)))≤3*(1+((l*16+1)+((l+2)*16+1))):=Nat.mul_le_mul_right _ h3
  exact(h1.add (h2.mono (Nat.add_le_add_left h4 a))).mono (by rw[Nat.succ_mul k];omega)
theorem Ip8 {W0:PW} {M:Nat→Prop} {s a b:Sl} {zs:List Int} {x u:List Rat} {k l:Nat} (h:Id5 W0 s x) (hz:Id4 W0 a zs) (hu:Id5 W0 b u) (hl:zs.length≤5) (hx: ∀i,Sz k (x.getD i 0)) (hU: ∀i,Sz l (u.getD i 0)) (hk:k≤1000) (hl2:l≤1000) (hc:x.length≤1000):
  Aa0 Tryz.prog 34 [s.v,a.v,b.v] W0 M fun v W'=>∃(b1:Bool),∃(s1:Sl),∃(t1:Sl),v = .tuple ⟨[.agg ⟨[.bool b1,Sl.v s1,Sl.v t1]⟩,.bool (decide (Il7 x.length zs u.length))]⟩∧Ab6 231 W' b1 s1 t1 (if Il7 x.length zs u.length then Ix5 zs x u x.length else 0):=by
 apply Ii5
 have hn:=h.n
 have han:=hz.n
 have hbn:=hu.n
 have bad:¬Il7 x.length zs u.length→∀W',∃(b1:Bool) (s1 t1:Sl),(Value.tuple ⟨[.agg ⟨[.bool false,.slice none 0 0,.slice none 0 0]⟩,.bool false]⟩) = .tuple ⟨[.agg ⟨[.bool b1,Sl.v s1,Sl.v t1]⟩,.bool (decide (Il7 x.length zs u.length))]⟩∧Ab6 231 W' b1 s1 t1 (if Il7 x.length zs u.length then Ix5 zs x u x.length else 0):=fun hno W'=>⟨false,⟨none,0,0⟩,⟨none,0,0⟩,by rw[decide_eq_false hno],by rw[if_neg hno];exact Dv5 W'⟩
 refine If7 hz hn hl fun f W2 hE2 hf=>⟨f,_,rfl,fun hno W5 _=>bad (fun ok=>by simp[show Is3 x.length zs from⟨ok.1,ok.2.1⟩] at hno) W5,fun hyes=>⟨fun hne W6 _=>bad (fun ok=>hne (by rw[hbn,han,ok.2.2])) W6,fun heq=>?_⟩⟩
 have hP:Is3 x.length zs:=by simpa using hyes
 have hf:=hf hP
 have h16:=hP.1.1
 have h3:=hP.1.2.2
 have ok:Il7 x.length zs u.length:=⟨hP.1,hP.2,by omega⟩
 refine Ak1 (z:=0) (by unfold I64;omega) fun b9 s10 s11 W8 hE8 h8=>⟨b9,s10,s11,rfl,?_⟩
 refine⟨raO W8 zs x u,Jb8 x.length,⟨0,b9,s10,s11,rfl,rfl,Nat.zero_le _,Ext.refl _,h8⟩,?_⟩
 rintro b14 s15 s16 i17 W18 ⟨k0,b,s0,t,rfl,el,hk0,hE18,h18⟩
 simp only[List.cons.injEq,Value.bool.injEq,and_true] at el
 obtain⟨rfl,q1,q2⟩:=el
 obtain rfl:=Sl.Ck0 q1
 obtain rfl:=Sl.Ck0 q2
 have E18:=hE2.trans (hE8.trans hE18)
 refine⟨fun hlt=>?_,fun hge W84 hE84=>⟨b14,s15,s16,by rw[decide_eq_true ok],?_⟩⟩
 ·have hkl:k0<x.length:=by omega
  obtain⟨b19,s20,s21,e19,g19⟩:=(h.ext E18).at hkl
  refine⟨(h.ext E18).inB (by omega) (by omega),b19,s20,s21,e19,raI W18 zs u (x.getD k0 0) k0,Jb8 zs.length,⟨0,b19,s20,s21,rfl,rfl,Nat.zero_le _,Ext.refl _,g19⟩,?_⟩
  rintro b24 s25 s26 i27 W28 ⟨i,b,s0,t,rfl,el,hi,hE28,h28⟩
  simp only[List.cons.injEq,Value.bool.injEq,and_true] at el
  obtain⟨rfl,q1,q2⟩:=el
  obtain rfl:=Sl.Ck0 q1
  obtain rfl:=Sl.Ck0 q2
  have zp:=fun j=>Iw3 h16 (hx k0) hU j (k:=k0)
  have zb: ∀j,j≤3→j*(1+((l*16+1)+((l+2)*16+1)))≤3*(1+((l*16+1)+((l+2)*16+1))):=fun j hj=>Nat.mul_le_mul_right _ hj
  refine⟨fun hlt2=>?_,fun hge2=>?_⟩
  ·have hil:i<zs.length:=by omega
   have b0:=h16 _ (List.getElem_mem hil)
   have hz28:=hz.ext (E18.trans hE28)
   have hf28:=hf.ext ((hE8.trans hE18).trans hE28)
   have hu28:=hu.ext (E18.trans hE28)
   have fe:=hf28.at (i:=i) (by rw[Ih9];exact hil)
   rw[Iw6] at fe
   have htop:=Ih5 hil b0.1
   have hst:=Ie2 zs i
   have htp:=Ie4 zs i
   have htl:=If0 h16 i
   have hm:k0/stN zs i%tpN zs i<tpN zs i:=Nat.mod_lt _ htp
   have e3:Int.tmod (IntKind.wrap .i64 (Int.tdiv (k0:Int) (stN zs i:Int))) (zs[i]+1)=((k0/stN zs i%tpN zs i:Nat):Int):=by rw[←htop];exact Ih2 (by omega)
   generalize hq:k0/stN zs i%tpN zs i=q at *
   have eM:zs[i]-(q:Int)=((tpN zs i-1-q:Nat):Int):=by omega
   have eD:zs[i]=((tpN zs i-1:Nat):Int):=by omega
   obtain⟨b32,s33,s34,e32,g32⟩:=hu28.at (i:=i) (by omega)
   have ibz:=hz28.inB (i:=(i:Int)) (by omega) (by omega)
   have ibu:=hu28.inB (i:=(i:Int)) (by omega) (by omega)
   refine⟨hf28.inB (by omega) (by rw[Ih9];omega),(stN zs i:Int),fe,by omega,ibz,zs[i],hz28.at hil,by unfold I64;omega,by omega,ibz,zs[i],hz28.at hil,ibu,b32,s33,s34,e32,ibu,b32,s33,s34,e32,ibz,zs[i],hz28.at hil,?_⟩
   rw[e3,eM,eD]
   have y1:Sz (l*16+1) (u.getD i 0^q):=((hU i).Fe7 _).mono (by have:l*q≤l*16:=Nat.mul_le_mul_left _ (by omega);omega)
   have y2:Sz ((l+2)*16+1) ((1-u.getD i 0)^(tpN zs i-1-q)):=(((Sz.one (k:=1) (Nat.le_refl 1)).sub (hU i)).Fe7 _).mono (by have:(1+l+1)*(tpN zs i-1-q)≤(l+2)*16:=Nat.mul_le_mul (by omega) (by omega);omega)
   have y3:Sz 1 ((ch (tpN zs i-1) q:Nat):Rat):=Ii4 (Iq6 (by omega) _)
   refine⟨by unfold I64;omega,Cs3 (by omega) (by omega) fun b41 s42 s43 W40 hE40 h40=>⟨b41,s42,s43,rfl,hE40,?_⟩⟩
   refine Hh4 (g32.ext hE40) (hU i) (by omega) (by omega) fun b46 s47 s48 W45 hE45 h45=>⟨b46,s47,s48,rfl,hE45,?_⟩
   refine Ak1 (z:=1) (by unfold I64;omega) fun b51 s52 s53 W50 hE50 h50=>⟨b51,s52,s53,rfl,hE50,?_⟩
   refine Hd7 (p:=1) h50 (g32.ext (hE40.trans (hE45.trans hE50))) (Sz.one (Nat.le_refl 1)) (hU i) (by omega) (by omega) fun b56 s57 s58 W55 hE55 h55=>⟨b56,s57,s58,rfl,hE55,?_⟩
   refine Hh4 h55 ((Sz.one (k:=1) (Nat.le_refl 1)).sub (hU i)) (by omega) (by omega) fun b61 s62 s63 W60 hE60 h60=>⟨b61,s62,s63,rfl,hE60,?_⟩
   refine Am6 (h45.ext (hE50.trans (hE55.trans hE60))) h60 y1 y2 (by omega) (by omega) fun b66 s67 s68 W65 hE65 h65=>⟨b66,s67,s68,rfl,hE65,?_⟩
   refine Am6 (h40.ext (hE45.trans (hE50.trans (hE55.trans (hE60.trans hE65))))) h65 y3 (y1.mul y2) (by omega) (by omega) fun b71 s72 s73 W70 hE70 h70=>⟨b71,s72,s73,rfl,hE70,?_⟩
   have E70:=hE40.trans (hE45.trans (hE50.trans (hE55.trans (hE60.trans (hE65.trans hE70)))))
   have zi:=zp i
   have zbi:=zb i (by omega)
   refine Am6 (h28.ext E70) h70 zi (y3.mul (y1.mul y2)) (by omega) (by omega) fun b76 s77 s78 W75 hE75 h75=>⟨b76,s77,s78,rfl,hE75,by unfold I64;omega,⟨i+1,b76,s77,s78,by push_cast;rfl,rfl,by omega,hE28.trans (E70.trans hE75),?_⟩,by show zs.length-Int.toNat ((i:Int)+1)<zs.length-Int.toNat (i:Int);omega⟩
   rw[rpr,hq]
   exact h75
  ·have:i=zs.length:=by omega
   subst this
   have zr:=Iq7 h16 hx hU h3 k0
   have zk:k0*(k+3*(1+((l*16+1)+((l+2)*16+1)))+1)≤1000*(1000+3*(1+((1000*16+1)+((1000+2)*16+1)))+1):=Nat.mul_le_mul (by omega) (by omega)
   have zi:=zp zs.length
   have zbi:=zb zs.length (by omega)
   exact Bj7 (h18.ext hE28) h28 zr zi (by omega) (by omega) fun b81 s82 s83 W80 hE80 h80=>⟨b81,s82,s83,rfl,by unfold I64;omega,⟨k0+1,b81,s82,s83,by push_cast;rfl,rfl,by omega,hE18.trans (hE28.trans hE80),h80⟩,by show x.length-Int.toNat ((k0:Int)+1)<x.length-Int.toNat (k0:Int);omega⟩
 ·have:k0=x.length:=by omega
  subst this
  rw[if_pos ok]
  exact h18.ext hE84
theorem Ik0 {W0 W:PW} {M:Nat→Prop} {s a b:Sl} {zs:List Int} {x u:List Rat} {k l:Nat} {K:Value→PW→Prop} (h:Id5 W s x) (hz:Id4 W a zs) (hu:Id5 W b u) (hl:zs.length≤5) (hx: ∀i,Sz k (x.getD i 0)) (hU: ∀i,Sz l (u.getD i 0)) (hk:k≤1000) (hl2:l≤1000) (hc:x.length≤1000) (kont: ∀(b1:Bool) (s1:Sl) (t1:Sl) (W':PW),Ext W W'→(Ab6 231 W' b1 s1 t1 (if Il7 x.length zs u.length then Ix5 zs x u x.length else 0))→K (.tuple ⟨[.agg ⟨[.bool b1,Sl.v s1,Sl.v t1]⟩,.bool (decide (Il7 x.length zs u.length))]⟩) W'):
  Aa1 Tryz.prog W0 M 34 [s.v,a.v,b.v] W K:=
 Aa2 (fun W' hE=>Ip8 (M:=fun _=>False) (h.ext hE) (hz.ext hE) (hu.ext hE) hl hx hU hk hl2 hc) (fun W' v W'' hE hE' hP=>by
  obtain⟨b1,s1,t1,rfl,h⟩:=hP
  exact kont b1 s1 t1 W'' (hE.trans hE') h)
end Go.Proofs.YtokefihiadbkbaaGreatDoor
/- law10.Is. -/
namespace Go.Proofs.YtokefihiadbkbaaGreatDoor
open Go Go.SX
theorem It5 {W0:PW} {M:Nat→Prop} {s t:Sl} {c k:Nat} {f:Nat→Rat} {x:List Rat} (h:Gv6 231 42 W0 s c f) (h2:Id5 W0 t x) (hx:x.length=c) (he: ∀i,i<c→f i=x.getD i 0) (hz: ∀i,i<c→Sz k (f i)) (hk:k≤100000000) (hc:c≤1000000):
  Aa0 Tryz.prog 26 [s.v,t.v] W0 M fun v W'=>v = .bool true∧True:=by
 apply Io5
 have hn:=h.n
 have hn2:=h2.n
 refine⟨fun hne=>absurd (show((s.n:Nat):Int)=((t.n:Nat):Int) by omega) hne,fun _=>?_⟩
 refine⟨fun L W=>match L with
  | [.val (.int .i64 z)]=>∃j:Nat,z=(j:Int)∧j≤c∧Ext W0 W
  | _=>False,Iv2 c,⟨0,rfl,Nat.zero_le _,Ext.refl _⟩,?_⟩
 rintro i4 W5 ⟨j,rfl,hj,hE5⟩
 refine⟨fun hlt=>?_,fun hge W16 hE16=>⟨rfl,trivial⟩⟩
 have hjc:j<c:=by omega
 obtain⟨s6,b7,s8,e6,g6⟩:=(h.ext hE5).at hjc
 obtain⟨b9,s10,s11,e9,g9⟩:=(h2.ext hE5).at (i:=j) (by omega)
 rw[←he j hjc] at g9
 refine⟨(h.ext hE5).inB (by omega) (by omega),s6,b7,s8,e6,(h2.ext hE5).inB (by omega) (by omega),b9,s10,s11,e9,?_⟩
 exact Bv1 g6 g9 (hz j hjc) (hz j hjc) hk fun W13 hE13 _=>⟨_,rfl,fun e=>by simp at e,fun _=>⟨by unfold I64;omega,⟨j+1,by push_cast;rfl,by omega,hE5.trans hE13⟩,by show c-Int.toNat ((j:Int)+1)<c-Int.toNat (j:Int);omega⟩⟩
theorem If1 {W0 W:PW} {M:Nat→Prop} {s t:Sl} {c k:Nat} {f:Nat→Rat} {x:List Rat} {K:Value→PW→Prop} (h:Gv6 231 42 W s c f) (h2:Id5 W t x) (hx:x.length=c) (he: ∀i,i<c→f i=x.getD i 0) (hz: ∀i,i<c→Sz k (f i)) (hk:k≤100000000) (hc:c≤1000000) (kont: ∀(W':PW),Ext W W'→(True)→K (.bool true) W'):
  Aa1 Tryz.prog W0 M 26 [s.v,t.v] W K:=
 Aa2 (fun W' hE=>It5 (M:=fun _=>False) (h.ext hE) (h2.ext hE) hx he hz hk hc) (fun W' v W'' hE hE' hP=>by
  obtain⟨rfl,h⟩:=hP
  exact kont W'' (hE.trans hE') h)
end Go.Proofs.YtokefihiadbkbaaGreatDoor
/- law10.nums. -/
namespace Go.Proofs.YtokefihiadbkbaaGreatDoor
open Go Go.SX
def Iz6 (t:ByteArray):Option Rat:=if t.size≤16 then Gp3 t else none
def Ie7 (L:List ByteArray):List Rat:=L.filterMap Iz6
theorem If6 {L:List ByteArray} {j:Nat} (hj:j<L.length):Ie7 (L.take (j+1))=Ie7 (L.take j) ++ (Iz6 L[j]).toList:=by
 unfold Ie7
 rw[List.take_succ_eq_append_getElem hj,List.filterMap_append]
 congr 1
theorem Jb0 {A:Prop} (h:A):dup 1 A∧A:=⟨Fc8 h 1,h⟩
def Je6 (W0:PW) (L:List ByteArray) (m:Nat) (P:List PL) (W:PW):Prop:=match P with
 | [.row l,.row l',.val (.int .i64 z)]=>∃j:Nat,z=(j:Int)∧j≤L.length∧j≤m∧Ext W0 W∧Qs 231 W l (Ie7 (L.take j)).length (fun k=>(Ie7 (L.take j)).getD k 0)∧An5 (Jc9 231 W) l' (Ie7 (L.take j))
 | _=>False
theorem Iy1 {t:TypeId} {W:PW} {l:List (List Value)} {x:List Rat} {s s':Sl} {b:Bool} {q:Rat} (h:Qs t W l x.length (fun k=>x.getD k 0)) (hq:Ab3 t W s b s' q):Qs t W (l ++ [[s.v,.bool b,s'.v]]) (x ++ [q]).length (fun k=>(x ++ [q]).getD k 0):=by
 refine⟨by simp[h.1],fun i hi=>?_⟩
 rw[List.length_append,List.length_singleton] at hi
 show ∃s1 b1 s2,_∧Ab3 t W s1 b1 s2 ((x ++ [q]).getD i 0)
 rw[List.getD_eq_getElem?_getD]
 by_cases e:i<x.length
 ·obtain⟨s1,b1,s2,h1,h2⟩:=h.2 i e
  refine⟨s1,b1,s2,by rw[List.getElem?_append_left (by rw[h.1];exact e)];exact h1,?_⟩
  rw[List.getElem?_append_left e,←List.getD_eq_getElem?_getD]
  exact h2
 ·have:i=x.length:=by omega
  subst this
  refine⟨s,b,s',by rw[List.getElem?_append_right (by rw[h.1];exact Nat.le_refl _),h.1,Nat.sub_self];rfl,?_⟩
  rw[List.getElem?_append_right (Nat.le_refl _),Nat.sub_self]
  exact hq
theorem In4 {W0:PW} {M:Nat→Prop} {s:Sl} {L:List ByteArray} {m:Nat} (h:Bf9 W0 1 s (Gw6 L)) (hz: ∀t∈L,t.size≤1099511627776) (hm:m≤1000):
  Aa0 Tryz.prog 32 [s.v,.int .i64 (m:Int)] W0 M fun v W'=>∃(s1:Sl),∃(s2:Sl),v = .tuple ⟨[Sl.v s1,Sl.v s2]⟩∧Gv6 231 42 W' s1 (Ie7 (L.take m)).length (fun k=>(Ie7 (L.take m)).getD k 0)∧Id5 W' s2 (Ie7 (L.take m)):=by
 apply Ik7
 have hn:=h.nt
 refine⟨Je6 W0 L m,Je3 L.length,⟨0,rfl,Nat.zero_le _,Nat.zero_le _,Ext.refl _,⟨rfl,fun i hi=>absurd hi (Nat.not_lt_zero _)⟩,trivial⟩,?_⟩
 rintro l3 l4 i5 W6 ⟨j,rfl,hj,hjm,hE6,hq,ha⟩
 have fin: ∀{s18 s20:Sl} {W19 W21 W22:PW},L.take j=L.take m→Ext W6 W19→Go.SX.Own W19 42 3 s18 l3→Ext W19 W21→Go.SX.Own W21 47 3 s20 l4→Ext W21 W22→Gv6 231 42 W22 s18 (Ie7 (L.take m)).length (fun k=>(Ie7 (L.take m)).getD k 0)∧Id5 W22 s20 (Ie7 (L.take m)):=fun e h1 h2 h3 h4 h5=>by
  rw[e] at hq ha
  exact⟨Gv6.ext ⟨l3,h2.row,hq.ext h1⟩ (h3.trans h5),Id5.ext ⟨l4,⟨_,h4.row⟩,ha.mono fun _ _ ⟨b,s,t,e,g⟩=>⟨b,s,t,e,g.ext (h1.trans h3)⟩⟩ h5⟩
 refine⟨fun hlt=>⟨fun hltm=>?_,fun hgem s18 W19 h1 h2 _ s20 W21 h3 h4 _ W22 h5=>⟨s18,s20,rfl,fin (by rw[show j=m by omega]) h1 h2 h3 h4 h5⟩⟩,fun hge s18 W19 h1 h2 _ s20 W21 h3 h4 _ W22 h5=>⟨s18,s20,rfl,fin (by rw[List.take_of_length_le (by omega),List.take_of_length_le (by omega)]) h1 h2 h3 h4 h5⟩⟩
 have hjl:j<L.length:=by omega
 have h6:=h.ext hE6
 have hl1:=hq.1
 have hl2:=ha.len
 have hnl:(Ie7 (L.take j)).length≤j:=Nat.le_trans (List.length_filterMap_le _ _) (by rw[List.length_take];omega)
 have hmu:L.length-Int.toNat ((j:Int)+1)<L.length-Int.toNat (j:Int):=by omega
 refine⟨h6.Hb8 (by omega) (by omega),L[j],h6.text hjl,Go0 (hz _ (List.getElem_mem hjl)) fun s10 b11 s12 b13 s14 s15 W9 hE9 ⟨g1,g2⟩=>⟨s10,b11,s12,b13,s14,s15,_,rfl,fun hs=>?_,fun hs=>?_⟩⟩
 ·refine⟨h6.Hb8 (by omega) (by omega),L[j],(h6.ext hE9).text hjl,fun h16=>?_,fun h16=>⟨by unfold I64;omega,⟨j+1,by push_cast;rfl,by omega,by omega,hE6.trans hE9,?_,?_⟩,hmu⟩⟩
  ·obtain⟨q,hq'⟩:=Option.isSome_iff_exists.1 hs
   rw[hq'] at g1 g2
   have eO:Iz6 L[j]=some q:=by unfold Iz6;rw[if_pos (by omega),hq']
   refine Jb0 ?_
   refine⟨by simp only[List.length_cons,List.length_nil];omega,by simp only[List.length_cons,List.length_nil];omega,by unfold I64;omega,⟨j+1,by push_cast;rfl,by omega,by omega,hE6.trans hE9,?_,?_⟩,hmu⟩
   ·rw[If6 hjl,eO]
    exact Iy1 (hq.ext hE9) g1
   ·rw[If6 hjl,eO]
    exact(ha.mono fun _ _ ⟨b,s,t,e,g⟩=>⟨b,s,t,e,g.ext hE9⟩).snoc ⟨b13,s14,s15,rfl,g2⟩
  all_goals
   have eO:Iz6 L[j]=none:=by unfold Iz6;rw[if_neg (by omega)]
   rw[If6 hjl,eO,Option.toList_none,List.append_nil]
  ·exact hq.ext hE9
  ·exact ha.mono fun _ _ ⟨b,s,t,e,g⟩=>⟨b,s,t,e,g.ext hE9⟩
 ·have eO:Iz6 L[j]=none:=by
   unfold Iz6
   split
   ·exact Option.not_isSome_iff_eq_none.1 (by rw[hs];decide)
   ·rfl
  refine⟨by unfold I64;omega,⟨j+1,by push_cast;rfl,by omega,by omega,hE6.trans hE9,?_,?_⟩,hmu⟩
  all_goals rw[If6 hjl,eO,Option.toList_none,List.append_nil]
  ·exact hq.ext hE9
  ·exact ha.mono fun _ _ ⟨b,s,t,e,g⟩=>⟨b,s,t,e,g.ext hE9⟩
theorem If9 {W0 W:PW} {M:Nat→Prop} {s:Sl} {L:List ByteArray} {m:Nat} {K:Value→PW→Prop} (h:Bf9 W 1 s (Gw6 L)) (hz: ∀t∈L,t.size≤1099511627776) (hm:m≤1000) (kont: ∀(s1:Sl) (s2:Sl) (W':PW),Ext W W'→(Gv6 231 42 W' s1 (Ie7 (L.take m)).length (fun k=>(Ie7 (L.take m)).getD k 0)∧Id5 W' s2 (Ie7 (L.take m)))→K (.tuple ⟨[Sl.v s1,Sl.v s2]⟩) W'):
  Aa1 Tryz.prog W0 M 32 [s.v,.int .i64 (m:Int)] W K:=
 Aa2 (fun W' hE=>In4 (M:=fun _=>False) (h.ext hE) hz hm) (fun W' v W'' hE hE' hP=>by
  obtain⟨s1,s2,rfl,h⟩:=hP
  exact kont s1 s2 W'' (hE.trans hE') h)
end Go.Proofs.YtokefihiadbkbaaGreatDoor
/- ref Halves. -/
namespace Go.Proofs.YtokefihiadbkbaaGreatDoor
open Go Go.SX
def Ir0 (f:Nat→Rat) (n:Nat):List Rat:=(List.range n).map f
theorem Is8 (f:Nat→Rat) (n:Nat):(Ir0 f n).length=n:=by unfold Ir0;rw[List.length_map,List.length_range]
theorem Iw2 {f:Nat→Rat} {n i:Nat} (hi:i<n):(Ir0 f n).getD i 0=f i:=by
 unfold Ir0
 rw[List.getD_eq_getElem?_getD,List.getElem?_map,List.getElem?_range hi]
 rfl
theorem Iy6 {W:PW} : ∀{xs:List (List Value)} {n:Nat} {f:Nat→Rat},RQs 231 W xs n f→An5 (Jc9 231 W) xs (Ir0 f n):=by
 intro xs n
 induction n generalizing xs with
 | zero=>
  intro f h
  have:=List.eq_nil_of_length_eq_zero h.1
  subst this
  trivial
 | succ n ih=>
  intro f h
  have hl:=h.1
  obtain⟨s,b,s',h1,h2⟩:=h.2 n (by omega)
  have e:xs=xs.take n ++ [[.bool b,s.v,s'.v]]:=by
   have:=List.take_succ_eq_append_getElem (l:=xs) (i:=n) (by omega)
   rw[List.take_of_length_le (by omega)] at this
   rw[List.getElem?_eq_getElem (by omega)] at h1
   rw[←Option.some.inj h1]
   exact this
  have e2:Ir0 f (n+1)=Ir0 f n ++ [f n]:=by unfold Ir0;rw[List.range_succ,List.map_append];rfl
  rw[e,e2]
  exact(ih ⟨by rw[List.length_take];omega,fun i hi=>by
   obtain⟨s,b,s',h1,h2⟩:=h.2 i (by omega)
   exact⟨s,b,s',by rw[List.getElem?_take,if_pos hi];exact h1,h2⟩⟩).snoc ⟨b,s,s',rfl,h2⟩
theorem Ix6 {W:PW} {xs:List (List Value)} {x:List Rat} (h:An5 (Jc9 231 W) xs x):RQs 231 W xs x.length fun k=>x.getD k 0:=⟨h.len,fun i hi=>by
 obtain⟨y,h1,b,s,t,e,g⟩:=h.get (List.getElem?_eq_getElem hi)
 subst e
 refine⟨s,b,t,h1,?_⟩
 show Ab6 231 W b s t (x.getD i 0)
 rw[List.getD_eq_getElem?_getD,List.getElem?_eq_getElem hi]
 exact g⟩
theorem Il3 {W:PW} {ty:TypeId} {s:Sl} {xs:List (List Value)} {n:Nat} {f:Nat→Rat} (hr:Row W ty 3 s xs) (h:RQs 231 W xs n f):Id5 W s (Ir0 f n):=⟨xs,⟨_,hr⟩,Iy6 h⟩
theorem Iz0 (a b:Rat):btw Ig4 a b=(a+b)/2:=by
 have h:Ig4=1/2:=by decide +kernel
 rw[h]
 unfold btw
 grind
def rhO (W0:PW) (c st n:Nat) (F:Nat→Rat) (L:List PL) (W:PW):Prop:=match L with
 | [.val (.int .i64 z),.row l,.row l']=>∃t:Nat,z=(t:Int)∧t≤c∧Ext W0 W∧RQs 231 W l c (Id7 st n loT F t)∧RQs 231 W l' c (Id7 st n (hiT n) F t)
 | _=>False
def rhR (W0:PW) (st n t:Nat) (F:Nat→Rat) (L:List PL) (W:PW):Prop:=match L with
 | [.val (.int .i64 z),.row l]=>∃j:Nat,z=(j:Int)∧j≤n∧Ext W0 W∧RQs 231 W l n fun a=>if a<j then F (t+a*st) else 0
 | _=>False
def rhM (W0:PW) (c st n t:Nat) (F:Nat→Rat) (L:List PL) (W:PW):Prop:=match L with
 | [.val (.int .i64 z),.row l,.row l',.row l2]=>∃m:Nat,z=(m:Int)∧m≤n∧Ext W0 W∧RQs 231 W l c (If8 st n loT F t m)∧RQs 231 W l' c (Ig3 st n (hiT n) F t m)∧RQs 231 W l2 n (hiS Ig4 (fun j=>F (t+j*st)) n m 0)
 | _=>False
def rhJ (W0:PW) (st n t m:Nat) (F:Nat→Rat) (L:List PL) (W:PW):Prop:=match L with
 | [.val (.int .i64 z),.row l2]=>∃j:Nat,z=(j:Int)∧j+m+1≤n∧Ext W0 W∧RQs 231 W l2 n (hiS Ig4 (fun j=>F (t+j*st)) n m j)
 | _=>False
def Je0 (n:Nat) (L:List PL) (_:PW):Nat:=match L with
 | [.val (.int .i64 z),_,_]=>n-z.toNat
 | _=>0
def Jd5 (n:Nat) (L:List PL) (_:PW):Nat:=match L with
 | [.val (.int .i64 z),_,_,_]=>n-z.toNat
 | _=>0
theorem Ip5 {W0:PW} {M:Nat→Prop} {s a:Sl} {zs:List Int} {x:List Rat} {i:Int} {D N k:Nat} (h:Id5 W0 s x) (hz:Id4 W0 a zs) (hl:zs.length≤5) (hf:Id9 x.length D N fun k=>x.getD k 0) (hD:D≠0) (k1:nl D≤k) (k2:nl N≤k) (hk:k≤100000) (hc:x.length≤1000):
  Aa0 Tryz.prog 36 [s.v,a.v,.int .i64 i] W0 M fun v W'=>∃(s1:Sl),∃(s2:Sl),v = .tuple ⟨[Sl.v s1,Sl.v s2,.bool (decide (Gc4 x.length zs i))]⟩∧Id5 W' s1 (Ir0 (Id6 (stN zs i.toNat) (tpN zs i.toNat) loT fun k=>x.getD k 0) (if Gc4 x.length zs i then x.length else 0))∧Id5 W' s2 (Ir0 (Id6 (stN zs i.toNat) (tpN zs i.toNat) (hiT (tpN zs i.toNat)) fun k=>x.getD k 0) (if Gc4 x.length zs i then x.length else 0)):=by
 apply Ij5
 have hn:=h.n
 have han:=hz.n
 have bad:¬Gc4 x.length zs i→∀W',∃s1 s2:Sl,(Value.tuple ⟨[.slice none 0 0,.slice none 0 0,.bool false]⟩) = .tuple ⟨[Sl.v s1,Sl.v s2,.bool (decide (Gc4 x.length zs i))]⟩∧Id5 W' s1 (Ir0 (Id6 (stN zs i.toNat) (tpN zs i.toNat) loT fun k=>x.getD k 0) (if Gc4 x.length zs i then x.length else 0))∧Id5 W' s2 (Ir0 (Id6 (stN zs i.toNat) (tpN zs i.toNat) (hiT (tpN zs i.toNat)) fun k=>x.getD k 0) (if Gc4 x.length zs i then x.length else 0)):=fun hno W'=>⟨⟨none,0,0⟩,⟨none,0,0⟩,by rw[decide_eq_false hno],by rw[if_neg hno];exact Dr1.nil W',by rw[if_neg hno];exact Dr1.nil W'⟩
 refine If7 hz hn hl fun f W2 hE2 hfp=>⟨f,_,rfl,fun hno W5 _=>bad (fun ok=>by simp[show Is3 x.length zs from⟨ok.1,ok.2.1⟩] at hno) W5,fun hyes=>?_⟩
 have hP:Is3 x.length zs:=by simpa using hyes
 have hfp:=hfp hP
 obtain⟨hT,hcc⟩:=hP
 have h16:=hT.1
 have h3:=hT.2.2
 refine⟨fun hneg W6 _=>bad (fun ok=>by have:=ok.2.2.1;omega) W6,fun hnn=>⟨fun hbig W7 _=>bad (fun ok=>by have:=ok.2.2.2;omega) W7,fun hlt0=>?_⟩⟩
 obtain⟨v,rfl⟩:=Int.eq_ofNat_of_zero_le (by omega:0≤i)
 have hv:v<zs.length:=by omega
 have ok:Gc4 x.length zs (v:Int):=⟨hT,hcc,by omega,by omega⟩
 rw[Int.toNat_natCast]
 have hst:=Ie2 zs v
 have htp:=Ie4 zs v
 have htl:=If0 h16 v
 obtain⟨R,hR⟩:=Ig5 zs v (zs.length-(v+1))
 rw[show v+1+(zs.length-(v+1))=zs.length by omega,←hcc] at hR
 have b0:=h16 _ (List.getElem_mem hv)
 have htop:=Ih5 hv b0.1
 obtain⟨xs,hr,ha⟩:=h.ext hE2
 have hq:=Ix6 ha
 have hxl:=hq.1
 have fe:=fun {W} (hE:Ext W2 W)=>(hfp.ext hE).at (i:=v) (by rw[Ih9];exact hv)
 have fi:=fun {W} (hE:Ext W2 W)=>(hfp.ext hE).inB (i:=(v:Int)) (by omega) (by rw[Ih9];omega)
 simp only[Iw6] at fe
 have hstc:stN zs v≤x.length:=by
  have:=Nat.le_mul_of_pos_right (stN zs v) (Nat.mul_pos htp (show 0<R by
   refine Nat.pos_iff_ne_zero.2 fun e=>?_
   rw[e,Nat.mul_zero] at hR
   have:=Ie2 zs zs.length
   omega))
  rw[←Nat.mul_assoc,←hR] at this
  exact this
 have hz2:=hz.ext hE2
 generalize hF:(fun k=>x.getD k 0)=F at *
 generalize hcn:x.length=c at *
 refine⟨xs,hr,by omega,xs,hr,by omega,hz2.inB (by omega) (by omega),zs[v],hz2.at hv,rhO W2 c (stN zs v) (tpN zs v) F,Je0 c,⟨0,rfl,Nat.zero_le _,Ext.refl _,by rw[Ig0];exact hq,by rw[Ig0];exact hq⟩,?_⟩
 have etop:zs[v]+1=((tpN zs v:Nat):Int):=htop.symm
 have etop0:zs[v]=((tpN zs v-1:Nat):Int):=by omega
 rw[etop,etop0]
 generalize tpN zs v=n at *
 generalize stN zs v=st at *
 rintro l13 l14 i15 W16 ⟨t,rfl,ht,hE16,g13,g14⟩
 refine⟨fun hlt=>?_,fun hge s63 W64 hE64 hO63 _ s65 W66 hE66 hO65 _ W67 hE67=>⟨s63,s65,by rw[decide_eq_true ok],?_,?_⟩⟩
 ·have htc:t<c:=by omega
  refine⟨fi hE16,_,fe hE16,by omega,by unfold I64;omega,by omega,?_⟩
  have e3:Int.tmod (IntKind.wrap .i64 (Int.tdiv (t:Int) (st:Int))) (n:Int)=((t/st%n:Nat):Int):=Ih2 (by omega)
  rw[e3]
  refine⟨fun hne=>⟨by unfold I64;omega,⟨t+1,by push_cast;rfl,by omega,hE16,by rw[Ig1 hst htp (by omega)];exact g13,by rw[Ig1 hst htp (by omega)];exact g14⟩,by show c-Int.toNat ((t:Int)+1)<c-Int.toNat (t:Int);omega⟩,fun heq=>?_⟩
  have h0:t/st%n=0:=by omega
  have hlin: ∀{j:Nat},j<n→t+j*st<c:=fun {j} hj=>by
   have:=(Ig2 (R:=R) hst htp (by rw[←hR];exact htc) h0 hj).1
   rw[←hR] at this
   exact this
  have hfl:Id9 n D N fun j=>F (t+j*st):=fun j hj=>hf _ (hlin hj)
  have cast1: ∀j:Nat,(j:Int)*(st:Int)=((j*st:Nat):Int):=fun j=>by push_cast;rfl
  have cast2: ∀j:Nat,(t:Int)+((j*st:Nat):Int)=((t+j*st:Nat):Int):=fun j=>by push_cast;rfl
  refine⟨by unfold I64;omega,⟨rfl,by omega,by omega⟩,rhR W16 st n t F,Jb8 n,⟨0,rfl,Nat.zero_le _,Ext.refl _,?_⟩,?_⟩
  ·rw[Int.toNat_natCast]
   exact(Iy7 W16 n).congr fun a _=>by rw[if_neg (Nat.not_lt_zero _)]
  rintro l20 i21 W22 ⟨j,rfl,hj,hE22,g20⟩
  have hl20:=g20.1
  refine⟨fun hle=>?_,fun hgt=>?_⟩
  ·have hjn:j<n:=by omega
   have hin:=hlin hjn
   obtain⟨b24,s25,s26,e24,q24⟩:=(h.ext (hE2.trans (hE16.trans hE22))).at (i:=t+j*st) (by omega)
   have q24:Ab6 231 W22 b24 s25 s26 (F (t+j*st)):=by rw[←hF];exact q24
   refine⟨fi (hE16.trans hE22),_,fe (hE16.trans hE22),?_⟩
   rw[cast1,cast2]
   refine⟨by unfold I64;omega,by unfold I64;omega,(h.ext (hE2.trans (hE16.trans hE22))).inB (by omega) (by omega),b24,s25,s26,e24,⟨by omega,by omega⟩,by omega,by unfold I64;omega,⟨j+1,by push_cast;rfl,by omega,hE22,(g20.set hjn q24).congr fun a ha'=>?_⟩,by show n-Int.toNat ((j:Int)+1)<n-Int.toNat (j:Int);omega⟩
   by_cases e:a=j
   ·rw[if_pos e,if_pos (by omega),e]
   ·rw[if_neg e]
    by_cases e2:a<j
    ·rw[if_pos e2,if_pos (by omega)]
    ·rw[if_neg e2,if_neg (by omega)]
  ·have:j=n:=by omega
   subst this
   refine⟨rhM W22 c st j t F,Jd5 j,⟨0,rfl,Nat.zero_le _,Ext.refl _,by rw[Ij2];exact g13.ext hE22,by rw[Iq0 hst htp];exact g14.ext hE22,g20.congr fun a ha'=>by rw[if_pos ha',Im0 ha']⟩,?_⟩
   rintro l29 l30 l31 i32 W33 ⟨m,rfl,hm,hE33,g29,g30,g31⟩
   have hl29:=g29.1
   have hl30:=g30.1
   have hl31:=g31.1
   have hE2b:=hE16.trans (hE22.trans hE33)
   refine⟨fun hle=>?_,fun hgt=>?_⟩
   ·have hmn:m<j:=by omega
    have hin:=hlin hmn
    have hin2:=hlin (show j-1-m<j by omega)
    have ed:((j-1:Nat):Int)-(m:Int)=((j-1-m:Nat):Int):=by omega
    obtain⟨b35,s36,s37,_,a35,q35⟩:=g31.own htp
    obtain⟨b39,s40,s41,_,a39,q39⟩:=g31.own (show j-1-m<j by omega)
    have v0:hiS Ig4 (fun a=>F (t+a*st)) j m 0 0=loT (fun a=>F (t+a*st)) m:=by
     unfold hiS loT
     rw[if_neg (by omega),if_neg (by omega)]
    have v1:hiS Ig4 (fun a=>F (t+a*st)) j m 0 (j-1-m)=hiT j (fun a=>F (t+a*st)) (j-1-m):=by
     unfold hiS hiT
     rw[if_neg (by omega),if_neg (by omega),show j-1-(j-1-m)=m by omega]
    rw[v0] at q35
    rw[v1] at q39
    refine⟨fi hE2b,_,fe hE2b,?_⟩
    rw[ed,cast1,cast2]
    refine⟨by unfold I64;omega,by unfold I64;omega,⟨by omega,by omega⟩,b35,s36,s37,a35,⟨by omega,by omega⟩,by omega,by unfold I64;omega,fi hE2b,_,fe hE2b,?_⟩
    rw[cast1,cast2,Int.toNat_natCast,Int.toNat_natCast]
    refine⟨by unfold I64;omega,by unfold I64;omega,by unfold I64;omega,⟨by omega,by omega⟩,b39,s40,s41,a39,⟨by omega,by omega⟩,by omega,rhJ W33 st j t m F,Jb8 j,⟨0,rfl,by omega,Ext.refl _,g31⟩,?_⟩
    rintro l44 i45 W46 ⟨y,rfl,hy,hE46,g44⟩
    have hl44:=g44.1
    refine⟨by unfold I64;omega,fun hlt2=>?_,fun hge2=>?_⟩
    ·have hyj:y+m+1<j:=by omega
     obtain⟨b47,s48,s49,_,a47,q47⟩:=g44.own (show y<j by omega)
     obtain⟨b50,s51,s52,_,a50,q50⟩:=g44.own (show y+1<j by omega)
     have z47:=It3 (a:=m) (j:=y) (i:=y) hfl hD k1 k2 If5 htl (by omega) (by omega)
     have z50:=It3 (a:=m) (j:=y) (i:=y+1) hfl hD k1 k2 If5 htl (by omega) (by omega)
     have e1:(y:Int)+1=((y+1:Nat):Int):=by push_cast;rfl
     rw[e1,Int.toNat_natCast]
     refine⟨⟨by omega,by omega⟩,b47,s48,s49,a47,by unfold I64;omega,⟨by omega,by omega⟩,b50,s51,s52,a50,?_⟩
     refine Bj7 q47 q50 z47 z50 (by omega) (by omega) fun b55 s56 s57 W54 hE54 h54=>⟨b55,s56,s57,rfl,?_⟩
     refine Hi8 h54 (z47.add z50) (by omega) fun b60 s61 s62 W59 hE59 h59=>⟨b60,s61,s62,rfl,⟨by omega,by omega⟩,by omega,by unfold I64;omega,⟨y+1,rfl,by omega,hE46.trans (hE54.trans hE59),?_⟩,by show j-Int.toNat ((y+1:Nat):Int)<j-Int.toNat (y:Int);omega⟩
     rw[Im7 hyj,Iz0]
     exact(g44.ext (hE54.trans hE59)).set (by omega) h59
    ·have hye:y+m+1=j:=by omega
     refine⟨by unfold I64;omega,⟨m+1,by push_cast;rfl,by omega,hE33.trans hE46,?_,?_,(g44.congr fun a ha'=>Il9 hye ha')⟩,by show j-Int.toNat ((m:Int)+1)<j-Int.toNat (m:Int);omega⟩
     ·rw[Ij0 (R:=R) hst htp (by rw[←hR];exact htc) h0 hmn]
      exact(g29.ext hE46).set hin (q35.ext hE46)
     ·rw[Ir2 (R:=R) hst htp (by rw[←hR];exact htc) h0 hmn]
      exact(g30.ext hE46).set hin2 (q39.ext hE46)
   ·have:m=j:=by omega
    subst this
    refine⟨by unfold I64;omega,⟨t+1,by push_cast;rfl,by omega,hE2b,by rw[←Il6 hst htp];exact g29,by rw[←It1];exact g30⟩,by show c-Int.toNat ((t:Int)+1)<c-Int.toNat (t:Int);omega⟩
 ·have:t=c:=by omega
  subst this
  rw[if_pos ok]
  exact(Il3 (hO63.row.ext (hE66.trans hE67)) ((g13.congr fun a ha'=>Ig8 hst htp ha').ext (hE64.trans (hE66.trans hE67))))
 ·have:t=c:=by omega
  subst this
  rw[if_pos ok]
  exact(Il3 (hO65.row.ext hE67) ((g14.congr fun a ha'=>Ig8 hst htp ha').ext (hE64.trans (hE66.trans hE67))))
theorem Ij8 {W0 W:PW} {M:Nat→Prop} {s a:Sl} {zs:List Int} {x:List Rat} {i:Int} {D N k:Nat} {K:Value→PW→Prop} (h:Id5 W s x) (hz:Id4 W a zs) (hl:zs.length≤5) (hf:Id9 x.length D N fun k=>x.getD k 0) (hD:D≠0) (k1:nl D≤k) (k2:nl N≤k) (hk:k≤100000) (hc:x.length≤1000) (kont: ∀(s1:Sl) (s2:Sl) (W':PW),Ext W W'→(Id5 W' s1 (Ir0 (Id6 (stN zs i.toNat) (tpN zs i.toNat) loT fun k=>x.getD k 0) (if Gc4 x.length zs i then x.length else 0))∧Id5 W' s2 (Ir0 (Id6 (stN zs i.toNat) (tpN zs i.toNat) (hiT (tpN zs i.toNat)) fun k=>x.getD k 0) (if Gc4 x.length zs i then x.length else 0)))→K (.tuple ⟨[Sl.v s1,Sl.v s2,.bool (decide (Gc4 x.length zs i))]⟩) W'):
  Aa1 Tryz.prog W0 M 36 [s.v,a.v,.int .i64 i] W K:=
 Aa2 (fun W' hE=>Ip5 (M:=fun _=>False) (h.ext hE) (hz.ext hE) hl hf hD k1 k2 hk hc) (fun W' v W'' hE hE' hP=>by
  obtain⟨s1,s2,rfl,h⟩:=hP
  exact kont s1 s2 W'' (hE.trans hE') h)
end Go.Proofs.YtokefihiadbkbaaGreatDoor
/- What is taken together side by side is the sum over all places: plain law. -/
namespace Go.Proofs.YtokefihiadbkbaaGreatDoor
open Go Go.SX
def Ih4 (g:Nat→Rat):Nat→Rat
 | 0=>0
 | k+1=>Ih4 g k+g k
theorem If4 {g h:Nat→Rat} : ∀n,(∀k,k<n→g k=h k)→Ih4 g n=Ih4 h n
 | 0,_=>rfl
 | n+1,e=>by rw[Ih4,Ih4,If4 n fun k hk=>e k (by omega),e n (by omega)]
theorem Is1 (g:Nat→Rat) (a:Rat): ∀n,Ih4 (fun k=>g k*a) n=Ih4 g n*a
 | 0=>by rw[Ih4,Ih4,Rat.zero_mul]
 | n+1=>by rw[Ih4,Ih4,Is1 g a n,Rat.add_mul]
theorem Is0 (g:Nat→Rat) (m:Nat): ∀n,Ih4 g (m+n)=Ih4 g m+Ih4 (fun j=>g (m+j)) n
 | 0=>by rw[Ih4,Nat.add_zero,Rat.add_zero]
 | n+1=>by rw[←Nat.add_assoc,Ih4,Ih4,Is0 g m n,Rat.add_assoc]
theorem Is6 (g:Nat→Rat) (t:Nat): ∀R,Ih4 g (t*R)=Ih4 (fun c=>Ih4 (fun j=>g (c*t+j)) t) R
 | 0=>rfl
 | R+1=>by rw[Nat.mul_succ,Is0,Is6 g t R,Ih4,Nat.mul_comm t R]
def bq (zs:List Int) (u:List Rat) (i q:Nat):Rat:=(ch (tpN zs i-1) q:Rat)*(u.getD i 0^q*(1-u.getD i 0)^(tpN zs i-1-q))
def tlQ (zs:List Int) (u:List Rat):Nat→Nat→Nat→Rat
 | i,0,k=>1
 | i,m+1,k=>bq zs u i (k%tpN zs i)*tlQ zs u (i+1) m (k/tpN zs i)
theorem Io2 (v:Rat) (f:Nat→Rat) (r:Nat): ∀m,Ik1 v f r 0 m=Ih4 (fun j=>f j*((ch r j:Rat)*(v^j*(1-v)^(r-j)))) m
 | 0=>rfl
 | m+1=>by
  rw[Ik1,Ih4,Io2 v f r m,Nat.zero_add]
  congr 1
  grind
theorem Iv9 (zs:List Int) (F:Nat→Rat) (u:List Rat): ∀m i,Ih4 (fun k=>lvl zs F (fun i=>u.getD i 0) i k*tlQ zs u i m k) (rN zs i m)=lvl zs F (fun i=>u.getD i 0) (i+m) 0
 | 0,i=>by
  show 0+lvl zs F (fun i=>u.getD i 0) i 0*1=_
  rw[Rat.zero_add,Rat.mul_one];rfl
 | m+1,i=>by
  have htp:=Ie4 zs i
  rw[rN,Is6,show i+(m+1)=(i+1)+m by omega,←Iv9 zs F u m (i+1)]
  refine If4 _ fun c hc=>?_
  have e: ∀j,j<tpN zs i→(lvl zs F (fun i=>u.getD i 0) i (c*tpN zs i+j)*tlQ zs u i (m+1) (c*tpN zs i+j))=(lvl zs F (fun i=>u.getD i 0) i (c*tpN zs i+j)*bq zs u i j)*tlQ zs u (i+1) m c:=fun j hj=>by
   have h1:(c*tpN zs i+j)%tpN zs i=j:=by rw[Nat.mul_comm,Nat.mul_add_mod];exact Nat.mod_eq_of_lt hj
   have h2:(c*tpN zs i+j)/tpN zs i=c:=by rw[Nat.mul_comm,Nat.mul_add_div htp,Nat.div_eq_of_lt hj,Nat.add_zero]
   rw[tlQ,h1,h2,Rat.mul_assoc]
  rw[If4 _ e,Is1]
  congr 1
  show _=dc (u.getD i 0) (fun j=>lvl zs F (fun i=>u.getD i 0) i (c*tpN zs i+j)) (tpN zs i-1) 0
  rw[Iv3,Io2,show tpN zs i-1+1=tpN zs i by omega]
  rfl
theorem Ja1 (zs:List Int) (u:List Rat) (x:Rat) (k:Nat): ∀m i,rpr zs u x k (i+m)=rpr zs u x k i*tlQ zs u i m (k/stN zs i)
 | 0,i=>by rw[tlQ,Rat.mul_one];rfl
 | m+1,i=>by
  rw[show i+(m+1)=(i+1)+m by omega,Ja1 zs u x k m (i+1),rpr,tlQ,stN,←Nat.div_div_eq_div_mul,Rat.mul_assoc]
  rfl
theorem In8 (zs:List Int) (x u:List Rat): ∀n,Ix5 zs x u n=Ih4 (fun k=>rpr zs u (x.getD k 0) k zs.length) n
 | 0=>rfl
 | n+1=>by rw[Ix5,Ih4,In8 zs x u n]
theorem Iy0 (zs:List Int) (x u:List Rat):lvl zs (fun k=>x.getD k 0) (fun i=>u.getD i 0) zs.length 0=Ix5 zs x u (stN zs zs.length):=by
 have h:=Iv9 zs (fun k=>x.getD k 0) u zs.length 0
 have e:=Ir5 zs 0 zs.length
 rw[Nat.zero_add] at h e
 rw[←h,In8,e,stN,Nat.one_mul]
 refine If4 _ fun k _=>?_
 have:=Ja1 zs u (x.getD k 0) k zs.length 0
 rw[Nat.zero_add,stN,Nat.div_one] at this
 rw[this]
 rfl
end Go.Proofs.YtokefihiadbkbaaGreatDoor
/- bern.At. -/
namespace Go.Proofs.YtokefihiadbkbaaGreatDoor
open Go Go.SX
def Je2 (n:Nat) (L:List PL) (_:PW):Nat:=match L with
 | [_,.val (.int .i64 z)]=>n-z.toNat
 | _=>0
theorem Jb4 {t:TypeId} {W:PW} {l:List (List Value)} {c:Nat} {f:Nat→Rat} {s s':Sl} {b:Bool} (h:Qs t W l c f) (hq:Ab3 t W s b s' (f c)):Qs t W (l ++ [[s.v,.bool b,s'.v]]) (c+1) f:=by
 refine⟨by rw[List.length_append,h.1];rfl,fun i hi=>?_⟩
 by_cases e:i<c
 ·obtain⟨s1,b1,s2,h1,h2⟩:=h.2 i e
  exact⟨s1,b1,s2,by rw[List.getElem?_append_left (by rw[h.1];exact e)];exact h1,h2⟩
 ·have:i=c:=by omega
  subst this
  exact⟨s,b,s',by rw[List.getElem?_append_right (by rw[h.1];exact Nat.le_refl _),h.1,Nat.sub_self];rfl,hq⟩
theorem Iw0 {W0:PW} {M:Nat→Prop} {s a b:Sl} {zs:List Int} {c e D N k l:Nat} {F U:Nat→Rat} (h:Gv6 231 42 W0 s c F) (hz:Id4 W0 a zs) (hu:Gv6 231 42 W0 b e U) (hl:zs.length≤5) (hc:c≤1000000) (hf:Id9 c D N F) (hD:D≠0) (k1:nl D≤k) (k2:nl N≤k) (hk:k≤2000000) (hU: ∀i,i<e→Sz l (U i)) (hl2:l≤1000):
  Aa0 Tryz.prog 33 [s.v,a.v,b.v] W0 M fun v W'=>∃(s1:Sl),∃(b1:Bool),∃(t1:Sl),v = .tuple ⟨[.agg ⟨[Sl.v s1,.bool b1,Sl.v t1]⟩,.bool (decide (Il7 c zs e))]⟩∧Ab3 231 W' s1 b1 t1 (if Il7 c zs e then lvl zs F U zs.length 0 else 0):=by
 apply Ir4
 have hn:=h.n
 have han:=hz.n
 have hbn:=hu.n
 have bad:¬Il7 c zs e→∀W',∃(s1:Sl) (b1:Bool) (t1:Sl),(Value.tuple ⟨[.agg ⟨[.slice none 0 0,.bool false,.slice none 0 0]⟩,.bool false]⟩) = .tuple ⟨[.agg ⟨[Sl.v s1,.bool b1,Sl.v t1]⟩,.bool (decide (Il7 c zs e))]⟩∧Ab3 231 W' s1 b1 t1 (if Il7 c zs e then lvl zs F U zs.length 0 else 0):=fun hno W'=>⟨⟨none,0,0⟩,false,⟨none,0,0⟩,by rw[decide_eq_false hno],by rw[if_neg hno];exact Ar9 W'⟩
 refine Ie5 hz hl fun z W2 hE2 hcnt=>⟨z,_,rfl,fun hno W5 _=>bad (fun ok=>by simp[ok.1] at hno) W5,fun hyes=>?_⟩
 have hT:Ie1 zs:=by simpa using hyes
 have hcnt:=hcnt hT
 have h16:=hT.1
 refine⟨fun hne W6 _=>bad (fun ok=>hne (by rw[hn,hcnt,ok.2.1])) W6,fun heq=>⟨fun hne W7 _=>bad (fun ok=>hne (by rw[hbn,han,ok.2.2])) W7,fun heq2=>?_⟩⟩
 have hcc:c=stN zs zs.length:=by omega
 have hee:e=zs.length:=by omega
 have ok:Il7 c zs e:=⟨hT,hcc,hee⟩
 have hN5:=Im9 h16 (k:=zs.length) (by omega)
 rw[←hcc] at hN5
 obtain⟨xs,hr,hq⟩:=h.ext hE2
 have hxl:=hq.1
 refine⟨xs,⟨_,hr⟩,by omega,bA W0 zs F U,Je2 zs.length,⟨0,rfl,Nat.zero_le _,hE2.toM _,?_⟩,?_⟩
 ·have:=Ir5 zs 0 zs.length
  rw[Nat.zero_add,stN,Nat.one_mul] at this
  rw[List.nil_append,Nat.sub_zero,←this,←hcc]
  exact hq
 rintro l11 i12 W13 ⟨i,rfl,hi,hE13,hq13⟩
 refine⟨fun hlt=>?_,fun hge=>?_⟩
 ·have hil:i<zs.length:=by omega
  have hz13:Id4 W13 a zs:=Bf9.new hz hE13 (Nat.le_refl _)
  obtain⟨D1,N1,f1,f2,f3,f4⟩:=Iw4 h16 (by rw[←hcc];exact hf) hD k1 k2 (fun i hi=>hU i (by omega)) i hi
  have hKb:k+i*((l+2)*16+1)≤2100000:=by
   have:i*((l+2)*16+1)≤5*(1002*16+1):=Nat.mul_le_mul (by omega) (by omega)
   omega
  have htp:=Ie4 zs i
  have htl:=If0 h16 i
  have hst:=Ir5 zs i (zs.length-i)
  rw[show i+(zs.length-i)=zs.length by omega,←hcc] at hst
  rw[show zs.length-i=(zs.length-(i+1))+1 by omega,rN] at hq13 f1 hst
  have htop:=Ih5 hil (h16 _ (List.getElem_mem hil)).1
  generalize hRR:rN zs (i+1) (zs.length-(i+1))=R at *
  have hnR:tpN zs i*R≤1000000:=by
   have:=Nat.le_mul_of_pos_left (tpN zs i*R) (Ie2 zs i)
   omega
  have b16:=h16 _ (List.getElem_mem hil)
  refine⟨hz13.inB (by omega) (by omega),zs[i],hz13.at hil,fun s15 W16 hE16 hO16 hF16=>?_⟩
  have hV:VQ W16 s15 (tpN zs i*R) (lvl zs F U i):=⟨l11,hO16,hq13.ext hE16⟩
  have hsn:=hV.n
  have hcap:s15.n≤s15.c:=hO16.row.2.1
  have hnew: ∀g,s15.v.ownBlock=some g→W0.w.heap.size≤g:=fun g hg=>(hF16 g hg).1
  have hmay: ∀g,s15.v.ownBlock=some g→may W0 M g:=fun g hg=>.inr (hnew g hg)
  refine⟨bM W0 zs F U i (tpN zs i) R s15,Je2 (tpN zs i*R),⟨0,_,by simp,Nat.zero_le _,hE13.trans (hE16.toM _),⟨rfl,fun i h=>absurd h (Nat.not_lt_zero _)⟩,hV,fun x _=>rfl⟩,?_⟩
  rintro l19 i20 W21 ⟨cc,G,rfl,hcR,hE21,hq21,hV21,hG⟩
  refine⟨fun hlt2=>?_,fun hge2=>?_⟩
  ·have hcR':cc<R:=by
    refine Classical.byContradiction fun hge=>?_
    have h1:tpN zs i*R≤tpN zs i*cc:=Nat.mul_le_mul_left _ (by omega)
    rw[Nat.mul_comm _ cc] at h1
    omega
   have hb:(cc+1)*tpN zs i≤tpN zs i*R:=by rw[Nat.mul_comm];exact Nat.mul_le_mul_left _ hcR'
   have hb1:(cc+1)*tpN zs i=cc*tpN zs i+tpN zs i:=by rw[Nat.add_mul,Nat.one_mul]
   have hfl:Id9 (tpN zs i) D1 N1 fun j=>lvl zs F U i (cc*tpN zs i+j):=fun j hj=>f1 _ (by omega)
   have hval:lvl zs F U (i+1) cc=dc (U i) (fun j=>lvl zs F U i (cc*tpN zs i+j)) (tpN zs i-1) 0:=rfl
   have hGl: ∀j,j<tpN zs i→G (cc*tpN zs i+j)=hiS (U i) (fun j=>lvl zs F U i (cc*tpN zs i+j)) (tpN zs i) 0 0 j:=fun j hj=>by rw[Im0 hj];exact hG _ (by omega)
   have hG': ∀x,(cc+1)*tpN zs i≤x→G x=lvl zs F U i x:=fun x hx=>hG x (by omega)
   have hi1:((cc*tpN zs i:Nat):Int)+zs[i]+1=((cc*tpN zs i+tpN zs i:Nat):Int):=by omega
   have hi2:((cc*tpN zs i:Nat):Int)+(zs[i]+1)=(((cc+1)*tpN zs i:Nat):Int):=by omega
   have hcne:s15.c≠cc*tpN zs i:=by omega
   have hUi:Sz l (U i):=hU i (by omega)
   rw[hi1,hi2]
   refine⟨by unfold I64;omega,by unfold I64;omega,⟨by omega,by omega,by omega⟩,bK W0 zs F U i (tpN zs i) R cc 0 l19 s15,Iv2 (tpN zs i),⟨0,G,rfl,by omega,hE21,hq21,hV21,hG',hGl⟩,?_⟩
   rintro i24 W25 ⟨kk,G2,rfl,hkn,hE25,hq25,hV25,hG2,hL2⟩
   refine⟨fun hlt3=>?_,fun hge3=>?_⟩
   ·refine⟨by unfold I64;omega,bJ W0 zs F U i (tpN zs i) R cc kk l19 s15,Iv2 (tpN zs i),⟨0,G2,rfl,by omega,hE25,hq25,hV25,hG2,hL2⟩,?_⟩
    rintro i28 W29 ⟨j,G3,rfl,hjk,hE29,hq29,hV29,hG3,hL3⟩
    refine⟨fun hlt4=>?_,fun hge4=>⟨by unfold I64;omega,⟨kk+1,G3,by push_cast;rfl,by omega,hE29,hq29,hV29,hG3,fun m hm=>(hL3 m hm).trans (Il9 (by omega) hm)⟩,by show tpN zs i-Int.toNat ((kk:Int)+1)<tpN zs i-Int.toNat (kk:Int);omega⟩⟩
    obtain⟨s30,b31,s32,e30,g30⟩:=hV29.at (i:=cc*tpN zs i+j) (by omega)
    obtain⟨s33,b34,s35,e33,g33⟩:=hV29.at (i:=cc*tpN zs i+(j+1)) (by omega)
    have hu29:Gv6 231 42 W29 b e U:=hu.new hE29 (Nat.le_refl _)
    obtain⟨s36,b37,s38,e36,g36⟩:=hu29.at (i:=i) (by omega)
    rw[hL3 j (by omega)] at g30
    rw[hL3 (j+1) (by omega)] at g33
    have ec:((j:Int)+1).toNat=j+1:=by omega
    refine⟨Im4 (hV29.inB (by omega) (by omega)) hcne (by omega) (by omega),s30,b31,s32,Im2 e30 hcne,by unfold I64;omega,Im4 (hV29.inB (by omega) (by omega)) hcne (by omega) (by omega),s33,b34,s35,by rw[ec];exact Im2 e33 hcne,hu29.inB (by omega) (by omega),s36,b37,s38,e36,?_⟩
    refine Ie0 g30 g33 g36 (It3 hfl f2 f3 f4 hUi htl (by omega) (by omega)) (It3 hfl f2 f3 f4 hUi htl (by omega) (by omega)) hUi (by omega) (by omega) fun s41 b42 s43 W40 hE40 h40=>⟨s41,b42,s43,rfl,Im4 ((hV29.ext hE40).inB (by omega) (by omega)) hcne (by omega) (by omega),?_⟩
    refine Ix1 (lo:=cc*tpN zs i) (i:=j) ((hV29.ext hE40).store (j:=cc*tpN zs i+j) (by omega) h40 (by decide) hmay fun W44 hp hV44=>⟨by unfold I64;omega,⟨j+1,_,by push_cast;rfl,by omega,(hE29.trans (hE40.toM _)).trans (hp.Fi8 hnew),hp.qs (hq29.ext hE40) (by decide),hV44,fun x hx=>?_,fun m hm=>?_⟩,by show tpN zs i-Int.toNat ((j:Int)+1)<tpN zs i-Int.toNat (j:Int);omega⟩) hcne
    ·unfold Ij6
     rw[if_neg (by omega)]
     exact hG3 x hx
    ·rw[Im7 (by omega)]
     unfold Ij6
     by_cases e':m=j
     ·rw[if_pos (by omega),if_pos e']
     ·rw[if_neg (by omega),if_neg e']
      exact hL3 m hm
   ·have hkk:kk+1=tpN zs i:=by omega
    obtain⟨s45,b46,s47,e45,g45⟩:=hV25.at (i:=cc*tpN zs i+0) (by omega)
    have hv:hiS (U i) (fun j=>lvl zs F U i (cc*tpN zs i+j)) (tpN zs i) kk 0 0=lvl zs F U (i+1) cc:=by
     rw[hval]
     unfold hiS
     rw[if_neg (by omega),if_neg (by omega),show tpN zs i-1=kk by omega]
    rw[hL2 0 htp,hv] at g45
    have hll:=hq25.1
    refine⟨Im4 (hV25.inB (by omega) (by omega)) hcne (by omega) (by omega),s45,b46,s47,Im2 e45 hcne,?_,by unfold I64;omega,by unfold I64;omega,⟨cc+1,G2,rfl,by omega,hE25,Jb4 hq25 g45,hV25,hG2⟩,?_⟩
    ·simp only[List.length_cons,List.length_nil]
     have:=Nat.le_mul_of_pos_left R htp
     omega
    ·show tpN zs i*R-Int.toNat (((cc+1)*tpN zs i:Nat):Int)<tpN zs i*R-Int.toNat ((cc*tpN zs i:Nat):Int)
     omega
  ·have:cc=R:=by
    refine Classical.byContradiction fun hne=>hge2 ?_
    have h1:tpN zs i*(cc+1)≤tpN zs i*R:=Nat.mul_le_mul_left _ (by omega)
    rw[Nat.mul_comm _ (cc+1),Nat.add_mul,Nat.one_mul] at h1
    omega
   subst this
   exact⟨by unfold I64;omega,⟨i+1,by push_cast;rfl,by omega,hE21,by rw[hRR];exact hq21⟩,by show zs.length-Int.toNat ((i:Int)+1)<zs.length-Int.toNat (i:Int);omega⟩
 ·have:i=zs.length:=by omega
  subst this
  rw[Nat.sub_self,rN] at hq13
  obtain⟨s1,b1,t1,hg,h1⟩:=hq13.2 0 (by omega)
  have hll:=hq13.1
  exact⟨⟨by omega,by omega⟩,s1,b1,t1,⟨_,hg,rfl⟩,fun W51 hE51=>⟨s1,b1,t1,by rw[decide_eq_true ok],by rw[if_pos ok];exact h1.ext hE51⟩⟩
theorem Iq9 {W0 W:PW} {M:Nat→Prop} {s a b:Sl} {zs:List Int} {c e D N k l:Nat} {F U:Nat→Rat} {K:Value→PW→Prop} (h:Gv6 231 42 W s c F) (hz:Id4 W a zs) (hu:Gv6 231 42 W b e U) (hl:zs.length≤5) (hc:c≤1000000) (hf:Id9 c D N F) (hD:D≠0) (k1:nl D≤k) (k2:nl N≤k) (hk:k≤2000000) (hU: ∀i,i<e→Sz l (U i)) (hl2:l≤1000) (kont: ∀(s1:Sl) (b1:Bool) (t1:Sl) (W':PW),Ext W W'→(Ab3 231 W' s1 b1 t1 (if Il7 c zs e then lvl zs F U zs.length 0 else 0))→K (.tuple ⟨[.agg ⟨[Sl.v s1,.bool b1,Sl.v t1]⟩,.bool (decide (Il7 c zs e))]⟩) W'):
  Aa1 Tryz.prog W0 M 33 [s.v,a.v,b.v] W K:=
 Aa2 (fun W' hE=>Iw0 (M:=fun _=>False) (h.ext hE) (hz.ext hE) (hu.ext hE) hl hc hf hD k1 k2 hk hU hl2) (fun W' v W'' hE hE' hP=>by
  obtain⟨s1,b1,t1,rfl,h⟩:=hP
  exact kont s1 b1 t1 W'' (hE.trans hE') h)
end Go.Proofs.YtokefihiadbkbaaGreatDoor
/- cincturelaw10.BernAts. -/
namespace Go.Proofs.YtokefihiadbkbaaGreatDoor
open Go Go.SX
theorem Ir9 {L:List ByteArray} {q:Rat} (h:q∈Ie7 L):Sz 4 q:=by
 obtain⟨t,_,e⟩:=List.mem_filterMap.1 h
 unfold Iz6 at e
 split at e
 ·rename_i h16
  unfold Gp3 at e
  split at e
  ·exact Ct3 e (by omega)
  ·cases e
 ·cases e
theorem In2 (L:List ByteArray) (m:Nat):(Ie7 (L.take m)).length≤m:=Nat.le_trans (List.length_filterMap_le _ _) (by rw[List.length_take];omega)
theorem Iu3 {x:List Rat} {k:Nat} (h: ∀q∈x,Sz k q): ∃D N,Id9 x.length D N (fun i=>x.getD i 0)∧D≠0∧nl D≤k*x.length+1∧nl N≤(k+2)*x.length:=by
 obtain⟨D,N,h1,h2,h3,h4⟩:=Fit.Co7 (k:=k) (l:=x.map fun q=>((⟨0,0,0⟩:Mon),q)) fun t ht=>by
  obtain⟨q,hq,rfl⟩:=List.mem_map.1 ht
  exact h q hq
 rw[List.length_map] at h3 h4
 refine⟨D,N,fun i hi=>?_,h2,h3,h4⟩
 show Ak3 D N (x.getD i 0)
 rw[List.getD_eq_getElem?_getD,List.getElem?_eq_getElem hi]
 exact h1.mem (t:=((⟨0,0,0⟩:Mon),x[i])) (List.mem_map.2 ⟨_,List.getElem_mem hi,rfl⟩)
theorem Is4 {x:List Rat} {k:Nat} (h: ∀q∈x,Sz k q) (hk:1≤k) (i:Nat):Sz k (x.getD i 0):=by
 rw[List.getD_eq_getElem?_getD]
 cases e:x[i]? with
 | none=>exact Sz.zero hk
 | some q=>exact h q (List.mem_of_getElem? e)
theorem Iz7 {st n R D N k:Nat} {F:Nat→Rat} (hs:0<st) (hn:0<n) (hn17:n≤17) (hF:Id9 (st*n*R) D N F) (hD:D≠0) (k1:nl D≤k) (k2:nl N≤k) {i:Nat} (hi:i<st*n*R):Sz (k+65) (Id6 st n loT F i)∧Sz (k+65) (Id6 st n (hiT n) F i):=by
 obtain⟨h1,h2,h3,h4⟩:=Id8 (k:=i) hs hn
 have hf:Id9 n D N fun j=>F (Ie3 st n i+j*st):=fun j hj=>hF _ (Ig2 hs hn (by omega) h1 hj).1
 have key: ∀r i',r+i'<n→Sz (k+65) (dc Ig4 (fun j=>F (Ie3 st n i+j*st)) r i'):=fun r i' hi=>(Ja8 hf hD k1 k2 (Ak3.den Ig4) Ig4.den_nz If5.2 If5.1 hi).mono (by
  have:(2+2)*r≤(2+2)*16:=Nat.mul_le_mul_left _ (by omega)
  omega)
 exact⟨key _ _ (by omega),key _ _ (by omega)⟩
theorem Je5:Ed0 0=⟨#[48]⟩:=by decide +kernel
theorem Jd2 {zs:List Int} {x u:List Rat} (h:Il7 x.length zs u.length):lvl zs (fun k=>x.getD k 0) (fun i=>u.getD i 0) zs.length 0=Ix5 zs x u x.length:=by rw[Iy0,←h.2.1]
theorem It0 {W0:PW} {M:Nat→Prop} {s st su:Sl} {L Lu:List ByteArray} {zs:List Int} {i:Int} (hT:Ac6 W0) (h:Bf9 W0 1 s (Gw6 L)) (hz:Id4 W0 st zs) (hu:Bf9 W0 1 su (Gw6 Lu)) (hs1: ∀t∈L,t.size≤1099511627776) (hs2: ∀t∈Lu,t.size≤1099511627776):
  Aa0 Tryz.prog 6 [s.v,st.v,su.v,.int .i64 i] W0 M fun v W'=>v = .bool true∧True:=by
 apply Ih0
 have hzn:=hz.n
 refine Ii9 hT fun W2 hE2 _=>⟨true,rfl,fun e=>(by cases e),fun _=>⟨fun _ W5 _=>⟨rfl,trivial⟩,fun h5=>⟨fun _ W6 _=>⟨rfl,trivial⟩,fun h6=>?_⟩⟩⟩
 have hl:zs.length≤5:=by omega
 refine If9 (m:=40) (h.ext hE2) hs1 (by omega) fun s9 s10 W8 hE8 ⟨g9,g10⟩=>⟨s9,s10,rfl,?_⟩
 refine If9 (m:=5) (hu.ext (hE2.trans hE8)) hs2 (by omega) fun s13 s14 W12 hE12 ⟨g13,g14⟩=>⟨s13,s14,rfl,?_⟩
 have xl:=In2 L 40
 have ul:=In2 Lu 5
 have xz:=fun q hq=>Ir9 (L:=L.take 40) (q:=q) hq
 have uz:=fun q hq=>Ir9 (L:=Lu.take 5) (q:=q) hq
 generalize Ie7 (L.take 40)=x at *
 generalize Ie7 (Lu.take 5)=u at *
 obtain⟨D,N,hf,hD,k1,k2⟩:=Iu3 xz
 have k1:nl D≤240:=by omega
 have k2:nl N≤240:=by omega
 have hx:=Is4 xz (by omega)
 have hU:=Is4 uz (by omega)
 have E12:=hE2.trans (hE8.trans hE12)
 refine⟨_,hz.ext E12,by rw[List.length_map];omega,fun s16 W17 hE17 hO16 _=>?_⟩
 have hz17:Id4 W17 s16 zs:=⟨_,hO16.row⟩
 refine Iq9 (g9.ext (hE12.trans hE17)) hz17 (g13.ext hE17) hl (by omega) hf hD k1 k2 (by omega) (fun i _=>hU i) (by omega) fun s20 b21 s22 W19 hE19 h19=>⟨s20,b21,s22,_,rfl,?_⟩
 have E19:=hE17.trans hE19
 refine Ik0 (g10.ext (hE12.trans E19)) (hz.ext (E12.trans E19)) (g14.ext E19) hl hx hU (by omega) (by omega) (by omega) fun b26 s27 s28 W25 hE25 h25=>⟨b26,s27,s28,_,rfl,?_⟩
 have E25:=E19.trans hE25
 refine Ij1 (g9.ext (hE12.trans E25)) (hz.ext (E12.trans E25)) hl (by omega) hf hD k1 k2 (by omega) fun s32 s33 W31 hE31 ⟨h32,h33⟩=>⟨s32,s33,_,rfl,?_⟩
 have E31:=E25.trans hE31
 refine Ij8 (g10.ext (hE12.trans E31)) (hz.ext (E12.trans E31)) hl hf hD k1 k2 (by omega) (by omega) fun s37 s38 W36 hE36 ⟨h37,h38⟩=>⟨s37,s38,_,rfl,?_⟩
 have E36:=E31.trans hE36
 have zh: ∀a,a<(if Gc4 x.length zs i then x.length else 0)→Sz 305 (Id6 (stN zs i.toNat) (tpN zs i.toNat) loT (fun k=>x.getD k 0) a)∧Sz 305 (Id6 (stN zs i.toNat) (tpN zs i.toNat) (hiT (tpN zs i.toNat)) (fun k=>x.getD k 0) a):=fun a ha=>by
  by_cases ok:Gc4 x.length zs i
  ·rw[if_pos ok] at ha
   have hv:i.toNat<zs.length:=by have:=ok.2.2;omega
   obtain⟨R,hR⟩:=Ig5 zs i.toNat (zs.length-(i.toNat+1))
   rw[show i.toNat+1+(zs.length-(i.toNat+1))=zs.length by omega,←ok.2.1] at hR
   rw[hR] at ha hf
   exact Iz7 (Ie2 zs _) (Ie4 zs _) (If0 ok.1.1 _) hf hD k1 k2 ha
  ·rw[if_neg ok] at ha
   exact absurd ha (Nat.not_lt_zero _)
 have hcl:(if Gc4 x.length zs i then x.length else 0)≤40:=by split<;>omega
 have fin: ∀{W:PW},Ext W36 W→Aa1 Tryz.prog W0 M 26 [s32.v,s37.v] W fun v56 W57=>∃b58:Bool,v56 = .bool b58∧(b58=true→Aa1 Tryz.prog W0 M 26 [s33.v,s38.v] W57 fun v59 W60=>∃b61:Bool,v59 = .bool b61∧(b61=true→Aa1 Tryz.prog W0 M 26 [s9.v,s10.v] W60 fun v62 W63=>∃b64:Bool,v62 = .bool b64∧∀(W65:PW),Ext W63 W65→Value.bool b64 = .bool true∧True)∧(b61=false→∀(W66:PW),Ext W60 W66→Value.bool false = .bool true∧True))∧(b58=false→∀(W67:PW),Ext W57 W67→Value.bool false = .bool true∧True):=fun {W} hE=>by
  refine If1 (h32.ext (hE36.trans hE)) (h37.ext hE) (Is8 _ _) (fun a ha=>(Iw2 ha).symm) (fun a ha=>(zh a ha).1) (by omega) (by omega) fun W57 hE57 _=>⟨true,rfl,fun _=>?_,fun e=>(by cases e)⟩
  refine If1 (h33.ext (hE36.trans (hE.trans hE57))) (h38.ext (hE.trans hE57)) (Is8 _ _) (fun a ha=>(Iw2 ha).symm) (fun a ha=>(zh a ha).2) (by omega) (by omega) fun W60 hE60 _=>⟨true,rfl,fun _=>?_,fun e=>(by cases e)⟩
  have E60:=hE12.trans (E36.trans (hE.trans (hE57.trans hE60)))
  exact If1 (g9.ext E60) (g10.ext E60) rfl (fun a ha=>rfl) (fun a ha=>hx a) (by omega) (by omega) fun W63 hE63 _=>⟨true,rfl,fun W65 _=>⟨rfl,trivial⟩⟩
 by_cases hA:Il7 x.length zs u.length
 ·have d:=decide_eq_true hA
  rw[if_pos hA] at h19 h25
  rw[Jd2 hA] at h19
  have zr:=Iq7 hA.1.1 hx hU hA.1.2.2 x.length
  have zk:x.length*(4+3*(1+((4*16+1)+((4+2)*16+1)))+1)≤40*(4+3*(1+((4*16+1)+((4+2)*16+1)))+1):=Nat.mul_le_mul_right _ xl
  rw[d]
  refine⟨fun _=>⟨fun e=>(by cases e),fun _=>Bv1 (h19.ext (hE25.trans (hE31.trans hE36))) (h25.ext (hE31.trans hE36)) zr zr (by omega) fun W71 hE71 _=>⟨_,rfl,fun _=>⟨fun _=>⟨fun _=>fin hE71,fun e=>absurd rfl e⟩,fun e=>(by cases e)⟩,fun e=>(by simp at e)⟩⟩,fun e=>absurd rfl e⟩
 ·have d:=decide_eq_false hA
  rw[if_neg hA] at h19
  rw[d]
  refine⟨fun _=>⟨fun _=>⟨fun e=>(by cases e),fun _=>Dc4 (h19.ext (hE25.trans (hE31.trans hE36))) (Sz.zero (Nat.le_refl 1)) (by omega) fun W54 hE54 _=>⟨_,rfl,fun _=>⟨fun _=>fin hE54,fun e=>absurd rfl e⟩,fun e=>absurd Je5 e⟩⟩,fun e=>(by cases e)⟩,fun e=>absurd rfl e⟩
end Go.Proofs.YtokefihiadbkbaaGreatDoor
/- An argument of whole numbers, opened. -/
namespace Go.Proofs.YtokefihiadbkbaaGreatDoor
open Go Go.SX Go.ChangeShapes Go.WideShapes Go.ChangeAt Go.RowKit Go.Deep
theorem It4:Tryz.prog.cellsOf 3=1:=by kernel_rfl
theorem Iv6 {H:Type} {enc:TypeId×Value→H} {W:World} {fuel:Nat} {v:Value} {d:DataW H} {p:List MemPlace} (h:DataW.trod enc Tryz.prog W 0 (fun _=>true) true fuel 85 [v]=some (d,p)):
  ∃(s:Sl) (zs:List Int),v=s.v∧Id4 ⟨W,fun _=>False⟩ s zs∧zs.length≤Rows.uptoBulk d:=by
 rcases open_ints Tryz.underlying85 Tryz.underlying3 It4 h with⟨hcs,hx⟩ | ⟨a,len,cap,zs,hcs,_,hl,hm,hzl,hx,hcell,_⟩
 ·have hv:v = .slice none 0 0:=by simpa using hcs
  subst hv
  exact⟨⟨none,0,0⟩,[],rfl,⟨0,rfl,Nat.le_refl _,Nat.zero_le _,fun x h=>by simp at h,.inl rfl⟩,Nat.zero_le _⟩
 ·have hv:v = .slice (some a) len cap:=by simpa using hcs
  subst hv
  simp only[if_true] at hzl
  simp only[Prod.mk.injEq] at hx
  obtain⟨rfl,_⟩:=hx
  have hr:=Ig6 (V:=fun j=>.int .i64 (zs.getD j 0)) (fun j hj=>hcell j (by omega)) hl hm (fun _ _=>rfl)
  refine⟨⟨some a,len,cap⟩,zs.take len,rfl,?_,?_⟩
  ·have e:(zs.take len).map (fun z=>[Value.int .i64 z])=(List.range len).map fun j=>[Value.int .i64 (zs.getD j 0)]:=by
    apply List.ext_getElem
    ·simp;omega
    ·intro i h1 h2
     simp only[List.length_map,List.length_range] at h2
     simp only[List.getElem_map,List.getElem_take,List.getElem_range,List.getD_eq_getElem?_getD]
     rw[List.getElem?_eq_getElem (by omega)]
     rfl
   unfold Id4
   rw[e]
   exact hr
  ·have:=Dj1 (lits IntKind.i64 (zs.take len):List (DataW H))
   simp only[lits,List.length_map] at this
   simp only[Rows.uptoBulk,lits]
   simp only[List.length_take] at *
   omega
end Go.Proofs.YtokefihiadbkbaaGreatDoor
/- The argument, a slice of slices of strings, opened into tables. -/
namespace Go.Proofs.YtokefihiadbkbaaGreatDoor
open Go Go.SX Go.ChangeShapes Go.WideShapes Go.ChangeAt Go.RowKit Go.Deep
instance:Inhabited (Sl×List ByteArray):=⟨(⟨none,0,0⟩,[])⟩
theorem Il1 {H:Type} {enc:TypeId×Value→H} {W:World} {fuel:Nat} {v:Value} {d:DataW H} {p:List MemPlace} (h:DataW.trod enc Tryz.prog W 0 (fun _=>true) true fuel 84 [v]=some (d,p)):
  ∃y:Sl×List ByteArray,v=y.1.v∧Bf9 ⟨W,fun _=>False⟩ 1 y.1 (Gw6 y.2)∧y.2.length≤Rows.uptoBulk d∧∀t∈y.2,t.size≤Rows.uptoBulk d:=by
 rcases open_strs Tryz.underlying84 Tryz.underlying9 Ct5 h with⟨hcs,hx⟩ | ⟨a,len,cap,m,Sx,hcs,_,hl,hm,hmm,hx,hcell⟩
 ·have hv:v = .slice none 0 0:=by simpa using hcs
  subst hv
  exact⟨(⟨none,0,0⟩,[]),rfl,⟨0,rfl,Nat.le_refl _,Nat.zero_le _,fun x h=>by simp[Gw6] at h,.inl rfl⟩,Nat.zero_le _,fun t h=>by simp at h⟩
 ·have hv:v = .slice (some a) len cap:=by simpa using hcs
  subst hv
  simp only[if_true] at hmm
  subst hmm
  simp only[Prod.mk.injEq] at hx
  obtain⟨rfl,_⟩:=hx
  have hr:=Ig6 (V:=fun j=>.string (Sx j)) (fun j hj=>(hcell j (by omega)).1) hl hm (fun _ _=>rfl)
  refine⟨(⟨some a,len,m⟩,(List.range len).map Sx),rfl,?_,?_,fun t ht=>?_⟩
  ·have e:Gw6 ((List.range len).map Sx)=(List.range len).map fun j=>[Value.string (Sx j)]:=by simp[Gw6]
   rw[e]
   exact hr
  ·have:=Dj1 ((List.range len).map fun i=>(DataW.lit (.string (Sx i).data.toList):DataW H))
   simp only[List.length_map,List.length_range] at this
   simp only[List.length_map,List.length_range,Rows.uptoBulk]
   omega
  ·obtain⟨j,hj,rfl⟩:=List.mem_map.1 ht
   have:=Eo6 (List.mem_map.2 ⟨j,hj,rfl⟩:(DataW.lit (.string (Sx j).data.toList):DataW H)∈(List.range len).map fun i=>(DataW.lit (.string (Sx i).data.toList):DataW H))
   have e:(Sx j).data.toList.length=(Sx j).size:=by rw[Array.length_toList];rfl
   simp only[Rows.uptoBulk] at this⊢
   omega
end Go.Proofs.YtokefihiadbkbaaGreatDoor
/- cincturelaw10.BernAts answers true for every input whose bulk is at most 1048576 (the second form), and its arguments read behind the call as they did ahead of it. -/
namespace Go.Proofs.YtokefihiadbkbaaGreatDoor
open Go Go.SX Go.ChangeShapes Go.WideShapes Go.ChangeAt Go.RowKit Go.Deep
theorem Fs9:Tryz.prog.globalNamed "math/bits.deBruijn32tab" = some 1:=by kernel_rfl
theorem Ew9:(Tryz.prog.globals[1]?).map (·.type)=some 301:=by kernel_rfl
theorem Ev1:Tryz.prog.cellsOf 301=32:=by kernel_rfl
theorem Fh1:Tryz.prog.cellsOf 5=1:=by kernel_rfl
theorem Fr5 {W:World} (h:laidMetH Tryz.prog Rows.bernAtsUptoRow.laid W):Ac6 ⟨W,fun _=>False⟩:=by
 have ht:Go.Lib.TabIs Tryz.prog W "math/bits.deBruijn32tab" .u8 (Go.Lib.deBruijn32tab.map fun n:Nat=>(n:Int)):=Go.Lib.tabIs_of_head (rest:=[]) Fs9 Ew9 Tryz.underlying301 Tryz.underlying5 Fh1 Ev1 h
 have hc: ∀j,j<32→W.cell? ⟨1,j,none⟩=some (.int .u8 ((Go.Lib.deBruijn32tab.getD j 0:Nat):Int)):=fun j hj=>by
  rw[ht.cell Fs9 j (by simpa[Go.Lib.deBruijn32tab] using hj)]
  have hall: ∀j,j<32→(Go.Lib.deBruijn32tab.map fun n:Nat=>(n:Int)).getD j 0=((Go.Lib.deBruijn32tab.getD j 0:Nat):Int):=by decide
  rw[hall j hj]
 refine⟨hc,?_,fun h=>h⟩
 have:=hc 0 (by omega)
 unfold World.cell? at this
 split at this
 ·rename_i e
  exact(Array.getElem?_eq_some_iff.1 e).1
 ·cases this
theorem Fa3 (H:Type) (enc:TypeId×Value→H) (W:World) (base:Nat) (args:Array Value) (ds gs:List (DataW H)) (before:List MemPlace)
  (hval: ∀(j:Nat) t v,Tryz.f6.params[j]?=some t→args[j]?=some v→Value.okWide Tryz.prog W .any base t v)
  (hW:DataW.Whole enc Tryz.prog Tryz.f6.params.toList Rows.bernAtsSpec.vars false W args.toList ds gs before) (hk:Rows.uptoSmall H (ds ++ gs)=true) (hL:laidMetH Tryz.prog Rows.bernAtsUptoRow.laid W):
  Calls Tryz.prog 6 args W fun e W'=>∃v,e = .returned v∧Rows.bernAtsSpec.post enc Tryz.prog Tryz.f6 false true false false W args v W':=by
 have hW':=hW
 obtain⟨p,q,hA0,hV,rfl,hfz,hnd⟩:=hW
 have hA:DataW.TrodAll enc Tryz.prog W 0 (fun _=>true) true Tryz.f6.params.toList args.toList ds p:=hA0
 rw[Tryz.params6] at hA hval
 obtain⟨v0,vs0,d0,ds0,p0,q0,hargs,rfl,rfl,h0,r0⟩:=trodAll_cons hA
 obtain⟨v1,vs1,d1,ds1,p1,q1,rfl,rfl,rfl,h1,r1⟩:=trodAll_cons r0
 obtain⟨v2,vs2,d2,ds2,p2,q2,rfl,rfl,rfl,h2,r2⟩:=trodAll_cons r1
 obtain⟨v3,vs3,d3,ds3,p3,q3,rfl,rfl,rfl,h3,r3⟩:=trodAll_cons r2
 obtain⟨rfl,rfl,rfl⟩:=trodAll_nil r3
 obtain rfl:args = #[v0,v1,v2,v3]:=by cases args;simp_all
 obtain⟨rfl,rfl⟩:=trodVars_none hV
 obtain⟨a0,n0,c0,rfl⟩:=okWide_slice Tryz.underlying84 (hval 0 84 v0 rfl rfl)
 obtain⟨a1,n1,c1,rfl⟩:=okWide_slice Tryz.underlying85 (hval 1 85 v1 rfl rfl)
 obtain⟨a2,n2,c2,rfl⟩:=okWide_slice Tryz.underlying84 (hval 2 84 v2 rfl rfl)
 obtain⟨z3,rfl⟩:=okWide_int Tryz.underlying3 (hval 3 3 v3 rfl rfl)
 clear hA0
 simp only[List.append_nil] at hW' hk
 have hlt: ∀x∈p0 ++ (p1 ++ (p2 ++ p3)),x.block<W.heap.size:=fun x hx=>by simpa using hW'.lt x (by simpa using hx)
 have hbulk:Rows.uptoBulkAll [d0,d1,d2,d3]≤1048576:=of_decide_eq_true hk
 simp only[Rows.uptoBulkAll] at hbulk
 have h0k:=h0
 obtain⟨fuel0,hf0⟩:=h0
 have hf0':DataW.trod enc Tryz.prog W 0 (fun _=>true) true fuel0 84 [.slice a0 n0 c0]=some (d0,p0):=by simpa[Value.cells] using hf0
 obtain⟨⟨s0,L0⟩,hs0,hL0,hb0,hc0⟩:=Il1 hf0'
 have h1k:=h1
 obtain⟨fuel1,hf1⟩:=h1
 have hf1':DataW.trod enc Tryz.prog W 0 (fun _=>true) true fuel1 85 [.slice a1 n1 c1]=some (d1,p1):=by simpa[Value.cells] using hf1
 obtain⟨s1,L1,hs1,hL1,hb1⟩:=Iv6 hf1'
 have h2k:=h2
 obtain⟨fuel2,hf2⟩:=h2
 have hf2':DataW.trod enc Tryz.prog W 0 (fun _=>true) true fuel2 84 [.slice a2 n2 c2]=some (d2,p2):=by simpa[Value.cells] using hf2
 obtain⟨⟨s2,L2⟩,hs2,hL2,hb2,hc2⟩:=Il1 hf2'
 have h3k:=h3
 have hc:=It0 (M:=fun _=>False) (i:=z3) (Fr5 hL) hL0 hL1 hL2 (fun t ht=>by have:=hc0 t ht;omega) (fun t ht=>by have:=hc2 t ht;omega)
 have hcall:=hc.2 (fun b h=>h.elim)
 rw[hs0,hs1,hs2]
 refine hcall.mono fun e W' ⟨v,he,hkeep,hv,_⟩=>⟨v,he,?_⟩
 subst hv
 have hbel:=hkeep.below
 refine⟨[d0,d1,d2,d3],[],_,[],p0 ++ (p1 ++ (p2 ++ p3)),[],(by rw[←hs0,←hs1,←hs2];simpa using hW'),trodAll_mk1 (shut_bool Tryz.underlying4 _),(by rw[←hs0,←hs1,←hs2];exact trodAll_cons_mk (Below.trod laidOut (by kernel_rfl) (of_decide_eq_true (by kernel_rfl)) h0k hbel fun x hx=>hlt x (by simp[hx])) (trodAll_mk3 (Below.trod laidOut (by kernel_rfl) (of_decide_eq_true (by kernel_rfl)) h1k hbel fun x hx=>hlt x (by simp[hx])) (Below.trod laidOut (by kernel_rfl) (of_decide_eq_true (by kernel_rfl)) h2k hbel fun x hx=>hlt x (by simp[hx])) (Below.trod laidOut (by kernel_rfl) (of_decide_eq_true (by kernel_rfl)) h3k hbel fun x hx=>hlt x (by simp[hx])))),rfl,hbel.frame _,fun h=>by cases h⟩
noncomputable def Bu8 (os:Os):World:=
 {World.holding Tryz.prog os ⟨#[],#[],[]⟩ with heap:=(World.holding Tryz.prog os ⟨#[],#[],[]⟩).heap.modify 1 fun
   | .cells _ t frozen=>.cells #[.int .u8 0,.int .u8 1,.int .u8 28,.int .u8 2,.int .u8 29,.int .u8 14,.int .u8 24,.int .u8 3,.int .u8 30,.int .u8 22,.int .u8 20,.int .u8 15,.int .u8 25,.int .u8 17,.int .u8 4,.int .u8 8,.int .u8 31,.int .u8 27,.int .u8 13,.int .u8 23,.int .u8 21,.int .u8 19,.int .u8 16,.int .u8 7,.int .u8 26,.int .u8 12,.int .u8 18,.int .u8 6,.int .u8 11,.int .u8 5,.int .u8 10,.int .u8 9] t frozen
   | o=>o }
theorem Fa2 (os:Os):laidMet Tryz.prog Rows.bernAtsUptoRow.laid ((Bu8 os).forCall (fun _ _=>0) ⟨#[],#[.slice none 0 0,.slice none 0 0,.slice none 0 0,.int .i64 0],[]⟩).memory:=
 laidMet_of_run' 8 (by kernel_rfl) (by kernel_rfl)
theorem reads (os:Os) {H:Type} (enc:TypeId×Value→H): ∃places,DataW.whole enc Tryz.prog ((Bu8 os).forCall (fun _ _=>0) ⟨#[],#[.slice none 0 0,.slice none 0 0,.slice none 0 0,.int .i64 0],[]⟩).memory Tryz.f6.params.toList Rows.bernAtsSpec.vars false (#[.slice none 0 0,.slice none 0 0,.slice none 0 0,.int .i64 0]:Array Value).toList 8=some ([.nil,.nil,.nil,.lit (.int .i64 0)],[],places):=
 ⟨[],by kernel_rfl⟩
theorem lifted (os:Os) (started:os.Started) (H:Type) (enc:TypeId×Value→H) (F:Stop.Interp):
  ReturnsInHanded {} Tryz.checked os 6 .any ((Rows.OpenSpec.upto Rows.bernAtsSpec).preRow enc Tryz.prog Tryz.f6 Rows.bernAtsUptoRow.domain false Rows.bernAtsUptoRow.laid) (((Rows.OpenSpec.upto Rows.bernAtsSpec).at F).post enc Tryz.prog Tryz.f6 false true false false):=by
 obtain⟨places,hx⟩:=reads os enc
 refine returnsInHanded_of_row (C:=Tryz.checked) (s:=Rows.OpenSpec.upto Rows.bernAtsSpec) Cp9 started (by kernel_rfl) Tryz.func6
  (witness_row_at (enc:=enc) (C:=Tryz.checked) false (Bu8 os) #[.slice none 0 0,.slice none 0 0,.slice none 0 0,.int .i64 0] rfl (by kernel_rfl) (by kernel_rfl) (by kernel_rfl)
   (OpenSpec.preRow_of_cond 8 hx (by kernel_rfl) (fun k hk=>by cases hk;kernel_rfl) (by kernel_rfl) (Fa2 os))) ?_
 intro W base args ds gs before hval hW _ hcond _ hL _ _
 exact Fa3 H enc W base args ds gs before hval hW (hcond _ rfl) hL
theorem Fj9:Fc7 Tryz.checked.prog 6 Tryz.f6 (Rows.OpenSpec.upto Rows.bernAtsSpec).bare Rows.bernAtsUptoRow=true:=by kernel_rfl
theorem Fl9:Fd9 Tryz.checked.prog 6 Tryz.f6 (Rows.OpenSpec.upto Rows.bernAtsSpec).bare Rows.bernAtsUptoRow=true:=by kernel_rfl
theorem Fl2:Fe1 Tryz.checked.prog 6 Tryz.f6 (Rows.OpenSpec.upto Rows.bernAtsSpec).bare Rows.bernAtsUptoRow=true:=by kernel_rfl
theorem Fn7:Fd2 Tryz.checked.prog 6 Tryz.f6 (Rows.OpenSpec.upto Rows.bernAtsSpec).bare Rows.bernAtsUptoRow=true:=by kernel_rfl
theorem Fj6:Fd4 Tryz.checked.prog 6 Tryz.f6 (Rows.OpenSpec.upto Rows.bernAtsSpec).bare Rows.bernAtsUptoRow=true:=by kernel_rfl
theorem Et8:Rows.BernAtsUptoSaid:=
 OpenClaim.holds_of_cond 6 Tryz.f6 rfl rfl rfl rfl rfl rfl rfl ⟨rfl,rfl,rfl,rfl,rfl⟩ rfl rfl rfl rfl rfl (by kernel_rfl) Tryz.func6 (Eo7 Fj9 Fl9 Fl2 Fn7 Fj6)
  (of_decide_eq_true (by kernel_rfl)) (by unfold Func.isWrapper;first | (rw[if_pos (by decide +kernel)];kernel_rfl) | (rw[if_neg (by decide +kernel)];exact⟨rfl,rfl⟩))
  (fun os started H enc _ F=>by rw[OpenClaim.pre_eq_preRow];exact lifted os started H enc F)
theorem plain (f:FuncId) (fn:Func) (hf:Tryz.pinned.checked.prog.funcNamed "cincture/cincturelaw10.BernAts" = some f) (hfn:Tryz.pinned.checked.prog.funcs[f]?=some fn):
  false=Tryz.pinned.checked.prog.looks []∧∀(j:Nat) t,fn.params[j]?=some t→Tryz.pinned.checked.prog.wantsStandIn t=false:=by
 obtain rfl:f=6:=Option.some.inj ((show Tryz.prog.funcNamed "cincture/cincturelaw10.BernAts" = some 6 by kernel_rfl).symm.trans hf) |>.symm
 obtain rfl:fn=Tryz.f6:=(Option.some.inj (Tryz.func6.symm.trans hfn)).symm
 refine⟨by kernel_rfl,fun j t ht=>?_⟩
 rw[Tryz.params6] at ht
 have hm:t∈[84,85,84,3]:=by simpa using Array.mem_of_getElem? ht
 have hall:([84,85,84,3].all fun u=>!Tryz.prog.wantsStandIn u)=true:=by kernel_rfl
 exact(show Tryz.prog.wantsStandIn t=false by simpa using List.all_eq_true.1 hall t hm)
theorem bernAts_card:Rows.BernAtsUptoCardSaid:=
 Claim7.holds_tied_plain_at .later [] _ _ _ _ Et8 (fun _ h=>by cases h) (by kernel_rfl) (fun _ h=>by cases h) bernAtsUpto_row_tie rfl ⟨rfl,rfl⟩ (by kernel_rfl) rfl plain (by kernel_rfl)
#print axioms bernAts_card
end Go.Proofs.YtokefihiadbkbaaGreatDoor
