/- cincturelaw10.BernAdds. -/
import Derived.Test.YtokefihiadbkbaaGreatDoorW13
import Derived.Test.YtokefihiadbkbaaGreatDoorW9
import Derived.Test.YtokefihiadbkbaaGreatDoorR20
import Derived.Test.YtokefihiadbkbaaGreatDoorW12
import Derived.Test.YtokefihiadbkbaaGreatDoorCards
import Derived.Test.YtokefihiadbkbaaGreatDoorTie
import Derived.Deep.DeepHandedRow
import Derived.Lib.LaidTab
import Derived.Test.YtokefihiadbkbaaGreatDoorLib4
set_option linter.unusedVariables false
set_option linter.unusedSimpArgs false
set_option maxRecDepth 100000
namespace Go.Proofs.YtokefihiadbkbaaGreatDoor
open Go Go.SX
theorem bd4 {L:List (Mon×ByteArray)} {exp:Int} {p:List Tm} (h:Ff1 L exp p):Bd 90 p:=by
 have hl:=h.len
 refine(Bd.Co7 (k:=4) fun t ht=>?_).mono (by omega)
 obtain⟨x,hx,_,hq,_⟩:=Fa5 h.1.1 ht
 exact Ct3 hq (h.2.2 x hx).1
theorem Jw7 {a:ByteArray} {q:Rat} (h:Gp3 a=some q):Sz 4000 q:=by
 unfold Gp3 at h
 split at h
 ·exact(Aw6 h).1
 ·cases h
theorem Jv8 {f:Nat→Rat} : ∀n,(∀j,j<n→f j=1)→Jg4 f n=1
 | 0,_=>rfl
 | n+1,h=>by rw[Jg4,Jv8 n fun j hj=>h j (by omega),h n (by omega),Rat.mul_one]
theorem Hv2 (zs:List Int) (bs:List Iv) (n k:Nat):tmF zs n (gF zs bs) ⟨0,0,0⟩ k=1:=Jv8 n fun j _=>by
 have e:eg ⟨0,0,0⟩ j=0:=by
  unfold eg An6
  (repeat' split)<;>rfl
 show gB _ _ _ (eg ⟨0,0,0⟩ j) _=1
 rw[e]
 exact Jx5
theorem Jw4 (G:Mon→Rat) (v:Rat):lin G (Ag2 [(⟨0,0,0⟩,v)])=v*G ⟨0,0,0⟩:=by rw[Gi6,lin,lin,Rat.add_zero]
theorem Jv7 (i:Int):Fv8 i ⟨0,0,0⟩=0:=by
 unfold Fv8 An6
 (repeat' split)<;>rfl
theorem Jw6 (v:Rat) (i:Int):Fd0 (Fv8 i) 0 (Ag2 [(⟨0,0,0⟩,v)])=0:=by
 have h1:=(Hv3 (w:=Fv8 i) (n:=0) (p:=Ag2 [(⟨0,0,0⟩,v)])).1
 have h2:Fd0 (Fv8 i) 0 (Ag2 [(⟨0,0,0⟩,v)])≤0:=Hx0 (Int.le_refl 0) fun t ht=>by
  obtain⟨u,hu,e⟩:=Gu2 ht
  rw[List.mem_singleton.1 hu] at e
  rw[e,Jv7]
  exact Int.le_refl 0
 omega
theorem Jw9 (v:Rat):Fd0 Cx8 0 (Ag2 [(⟨0,0,0⟩,v)])≤0:=Hx0 (Int.le_refl 0) fun t ht=>by
 obtain⟨u,hu,e⟩:=Gu2 ht
 rw[List.mem_singleton.1 hu] at e
 rw[e]
 exact(by decide:Cx8 ⟨0,0,0⟩≤0)
theorem Jv2 {p:List Tm} (hp:Av6 p) (v:Rat) (i:Int):Fd0 (Fv8 i) 0 (Ag2 (p ++ Ag2 [(⟨0,0,0⟩,v)]))=Fd0 (Fv8 i) 0 p:=by
 have a1:=Hx1 (w:=Fv8 i) (n:=0) (p:=p) (q:=Ag2 [(⟨0,0,0⟩,v)])
 rw[Jw6] at a1
 have a0:=(Hv3 (w:=Fv8 i) (n:=0) (p:=p)).1
 have a2:Fd0 (Fv8 i) 0 p≤Fd0 (Fv8 i) 0 (Ag2 (p ++ Ag2 [(⟨0,0,0⟩,v)])):=by
  refine Hx0 (Hv3 (w:=Fv8 i) (n:=0)).1 fun t ht=>?_
  by_cases e:t.1=⟨0,0,0⟩
  ·rw[e,Jv7]
   exact(Hv3 (w:=Fv8 i) (n:=0)).1
  ·have h0:Aj5 (Ag2 (p ++ Ag2 [(⟨0,0,0⟩,v)])) t.1≠0:=by
    rw[Bh2,Au2,Jx0 hp ht,Bh2,Aj5,Aj5,if_neg (fun h=>e h.symm),Rat.add_zero,Rat.add_zero]
    exact hp.nz t ht
   obtain⟨u,hu,e2⟩:=Jw0 h0
   rw[←e2]
   exact(Hv3 (w:=Fv8 i) (n:=0)).2 u hu
 have a3:mx (Fd0 (Fv8 i) 0 p) 0=Fd0 (Fv8 i) 0 p:=by unfold mx;split<;>omega
 omega
theorem Ju8 {p q:List Tm} {n:Nat} (h: ∀i:Nat,i<n→Fd0 (Fv8 (i:Int)) 0 p=Fd0 (Fv8 (i:Int)) 0 q):Ie8 p n=Ie8 q n:=by
 unfold Ie8
 exact List.map_congr_left fun i hi=>h i (List.mem_range.1 hi)
theorem Jx4 {p q:List Tm} {bs:List Iv} (hp:Av6 p) (op:POk p) (hq:Av6 q) (oq:POk q) (cp:Ii7 p bs) (cq:Ii7 q bs) (cs:Ii7 (Ag2 (p ++ q)) bs) (h1:Ie8 (Ag2 (p ++ q)) bs.length=Ie8 p bs.length) (h2:Ie8 q bs.length=Ie8 p bs.length) {k:Nat} (hk:k<stN (Ie8 p bs.length) bs.length):Jk3 (Ag2 (p ++ q)) bs k=Jk3 p bs k+Jk3 q bs k:=by
 rw[Jm9 (Ce8 _) (POk.norm (op.append oq)) cs (by rw[h1];exact hk),Jm9 hp op cp hk,Jm9 hq oq cq (by rw[h2];exact hk),h1,h2,Gi6,Gl3]
theorem Jx2 {bs:List Iv} {v:Rat} (h:Ii7 (Ag2 [(⟨0,0,0⟩,v)]) bs):Jk3 (Ag2 [(⟨0,0,0⟩,v)]) bs 0=v:=by
 have ho:POk (Ag2 [((⟨0,0,0⟩:Mon),v)]):=POk.norm fun t ht=>by rw[List.mem_singleton.1 ht];exact(by decide:(⟨0,0,0⟩:Mon).ok)
 rw[Jm9 (Ce8 _) ho h (Jk0 _ _),Jw4,Hv2,Rat.mul_one]
theorem Jx1 {p:List Tm} {bs:List Iv} {v:Rat} (hp:Av6 p) (op:POk p) (cp:Ii7 p bs) (cs:Ii7 (Ag2 (p ++ Ag2 [(⟨0,0,0⟩,v)])) bs) {k:Nat} (hk:k<stN (Ie8 p bs.length) bs.length):Jk3 (Ag2 (p ++ Ag2 [(⟨0,0,0⟩,v)])) bs k=Jk3 p bs k+v:=by
 have ho:POk (Ag2 [((⟨0,0,0⟩:Mon),v)]):=POk.norm fun t ht=>by rw[List.mem_singleton.1 ht];exact(by decide:(⟨0,0,0⟩:Mon).ok)
 have h1:Ie8 (Ag2 (p ++ Ag2 [(⟨0,0,0⟩,v)])) bs.length=Ie8 p bs.length:=Ju8 fun i _=>Jv2 hp v i
 rw[Jm9 (Ce8 _) (POk.norm (op.append ho)) cs (by rw[h1];exact hk),Jm9 hp op cp hk,h1,Gi6,Gl3,Jw4,Hv2,Rat.mul_one]
theorem Jw2 {zs:List Int} : ∀n,(∀i,i<n→tpN zs i=1)→stN zs n=1
 | 0,_=>rfl
 | n+1,h=>by rw[stN,Jw2 n fun i hi=>h i (by omega),h n (by omega)]
theorem Jw5 (v:Rat) (n:Nat):stN (Ie8 (Ag2 [(⟨0,0,0⟩,v)]) n) n=1:=Jw2 n fun i hi=>by
 unfold tpN
 rw[List.getD_eq_getElem?_getD,List.getElem?_eq_getElem (by rw[Io1];exact hi),Is2,Jw6]
 rfl
def Jx6 (W0:PW) (M:Nat→Prop) (s87 s94 s98:Sl) (W:PW):Prop:=
 ∃(F105:List PL→PW→Prop) (F106:List PL→PW→Nat),F105 [PL.val (.int IntKind.i64 0)] W∧∀(i107:Int) (W108:PW),F105 [PL.val (.int IntKind.i64 i107)] W108→
  (i107<↑s87.2→inB s98 0∧∃(s109:Sl) (b110:Bool) (s111:Sl),Aa7 W108 s98 3 0 0 [Sl.v s109,.bool b110,Sl.v s111]∧
   (((s98.2:Nat):Int)=((s87.2:Nat):Int)→inB s98 i107∧∃(s112:Sl) (b113:Bool) (s114:Sl),Aa7 W108 s98 3 (Int.toNat i107) 0 [Sl.v s112,.bool b113,Sl.v s114]∧inB s94 i107∧∃(s115:Sl) (b116:Bool) (s117:Sl),Aa7 W108 s94 3 (Int.toNat i107) 0 [Sl.v s115,.bool b116,Sl.v s117]∧inB s87 i107∧∃(s118:Sl) (b119:Bool) (s120:Sl),Aa7 W108 s87 3 (Int.toNat i107) 0 [Sl.v s118,.bool b119,Sl.v s120]∧
    Aa1 Tryz.prog W0 M 21 [.agg ⟨[Sl.v s118,.bool b119,Sl.v s120]⟩,.agg ⟨[Sl.v s112,.bool b113,Sl.v s114]⟩] W108 fun v121 W122=>∃(s123:Sl) (b124:Bool) (s125:Sl),v121 = .agg ⟨[Sl.v s123,.bool b124,Sl.v s125]⟩∧Ext W108 W122∧
     Aa1 Tryz.prog W0 M 20 [.agg ⟨[Sl.v s115,.bool b116,Sl.v s117]⟩,.agg ⟨[Sl.v s123,.bool b124,Sl.v s125]⟩] W122 fun v126 W127=>∃i128:Int,v126 = .int IntKind.i64 i128∧(i128≠0→∀(W129:PW),Ext W127 W129→Value.bool false = .bool true∧True)∧(¬i128≠0→I64 (i107+1)∧stp F105 F106 [PL.val (.int IntKind.i64 (i107+1))] W127 [PL.val (.int IntKind.i64 i107)] W108))∧
   (¬((s98.2:Nat):Int)=((s87.2:Nat):Int)→inB s94 i107∧∃(s130:Sl) (b131:Bool) (s132:Sl),Aa7 W108 s94 3 (Int.toNat i107) 0 [Sl.v s130,.bool b131,Sl.v s132]∧inB s87 i107∧∃(s133:Sl) (b134:Bool) (s135:Sl),Aa7 W108 s87 3 (Int.toNat i107) 0 [Sl.v s133,.bool b134,Sl.v s135]∧
    Aa1 Tryz.prog W0 M 21 [.agg ⟨[Sl.v s133,.bool b134,Sl.v s135]⟩,.agg ⟨[Sl.v s109,.bool b110,Sl.v s111]⟩] W108 fun v136 W137=>∃(s138:Sl) (b139:Bool) (s140:Sl),v136 = .agg ⟨[Sl.v s138,.bool b139,Sl.v s140]⟩∧Ext W108 W137∧
     Aa1 Tryz.prog W0 M 20 [.agg ⟨[Sl.v s130,.bool b131,Sl.v s132]⟩,.agg ⟨[Sl.v s138,.bool b139,Sl.v s140]⟩] W137 fun v141 W142=>∃i143:Int,v141 = .int IntKind.i64 i143∧(i143≠0→∀(W144:PW),Ext W142 W144→Value.bool false = .bool true∧True)∧(¬i143≠0→I64 (i107+1)∧stp F105 F106 [PL.val (.int IntKind.i64 (i107+1))] W142 [PL.val (.int IntKind.i64 i107)] W108)))∧
  (¬i107<↑s87.2→∀(W145:PW),Ext W108 W145→Value.bool true = .bool true∧True)
def adI (W0:PW) (n:Nat) (L:List PL) (W:PW):Prop:=match L with
 | [.val (.int .i64 z)]=>∃j:Nat,z=(j:Int)∧j≤n∧Ext W0 W
 | _=>False
theorem Jw3 {W0 W:PW} {M:Nat→Prop} {sc se sk:Sl} {N N' K:Nat} {Fc Fe Fk:Nat→Rat} (hc:Gv6 231 42 W sc N Fc) (he:Gv6 231 42 W se N Fe) (hk:Gv6 231 42 W sk N' Fk) (h0:0<N') (hN:N≤1000000)
  (hsum: ∀k,k<N→Fe k=Fc k+Fk (if N'=N then k else 0)) (zc: ∀k,k<N→Sz K (Fc k)) (zk: ∀k,k<N'→Sz K (Fk k)) (hK:K≤100000000):Jx6 W0 M sc se sk W:=by
 have n1:=hc.n
 have n2:=he.n
 have n3:=hk.n
 refine⟨adI W N,Iv2 N,⟨0,rfl,Nat.zero_le _,Ext.refl _⟩,?_⟩
 rintro i W1 ⟨j,rfl,hj,hE⟩
 refine⟨fun hlt=>?_,fun hge W145 _=>⟨rfl,trivial⟩⟩
 have hjN:j<N:=by omega
 obtain⟨s109,b110,s111,e109,g109⟩:=(hk.ext hE).at h0
 have hs:=hsum j hjN
 have hmu:N-Int.toNat ((j:Int)+1)<N-Int.toNat (j:Int):=by omega
 obtain⟨s115,b116,s117,e115,g115⟩:=(he.ext hE).at hjN
 obtain⟨s118,b119,s120,e118,g118⟩:=(hc.ext hE).at hjN
 refine⟨(hk.ext hE).inB (by omega) (by omega),s109,b110,s111,e109,fun heq=>?_,fun hne=>?_⟩
 ·have e:N'=N:=by have:((sk.n:Nat):Int)=((sc.n:Nat):Int):=heq;omega
  rw[if_pos e] at hs
  obtain⟨s112,b113,s114,e112,g112⟩:=(hk.ext hE).at (show j<N' by omega)
  refine⟨(hk.ext hE).inB (by omega) (by omega),s112,b113,s114,e112,(he.ext hE).inB (by omega) (by omega),s115,b116,s117,e115,(hc.ext hE).inB (by omega) (by omega),s118,b119,s120,e118,?_⟩
  have z1:=zc j hjN
  have z2:=zk j (by omega)
  refine At2 g118 g112 z1 z2 (by omega) (by omega) fun s123 b124 s125 W122 hE122 h122=>⟨s123,b124,s125,rfl,hE122,?_⟩
  rw[hs] at g115
  exact Aj2 (g115.ext hE122) h122 (z1.add z2) (z1.add z2) (by omega) (by omega) fun W127 hE127 _=>⟨_,rfl,fun e=>absurd (Hv6.2 rfl) e,fun _=>⟨by unfold I64;omega,⟨j+1,by push_cast;rfl,by omega,hE.trans (hE122.trans hE127)⟩,hmu⟩⟩
 ·have e:N'≠N:=fun e=>hne (show((sk.n:Nat):Int)=((sc.n:Nat):Int) by omega)
  rw[if_neg e] at hs
  refine⟨(he.ext hE).inB (by omega) (by omega),s115,b116,s117,e115,(hc.ext hE).inB (by omega) (by omega),s118,b119,s120,e118,?_⟩
  have z1:=zc j hjN
  have z2:=zk 0 h0
  refine At2 g118 g109 z1 z2 (by omega) (by omega) fun s123 b124 s125 W122 hE122 h122=>⟨s123,b124,s125,rfl,hE122,?_⟩
  rw[hs] at g115
  exact Aj2 (g115.ext hE122) h122 (z1.add z2) (z1.add z2) (by omega) (by omega) fun W127 hE127 _=>⟨_,rfl,fun e=>absurd (Hv6.2 rfl) e,fun _=>⟨by unfold I64;omega,⟨j+1,by push_cast;rfl,by omega,hE.trans (hE122.trans hE127)⟩,hmu⟩⟩
def Jx3 (p q z:List Tm) (i:Nat):Prop:=∀j:Nat,j<i→Fd0 (Fv8 (j:Int)) 0 p=Fd0 (Fv8 (j:Int)) 0 q∧Fd0 (Fv8 (j:Int)) 0 z=Fd0 (Fv8 (j:Int)) 0 p
open Classical in
def lkI (W0:PW) (p q z:List Tm) (L:List PL) (W:PW):Prop:=match L with
 | [.val (.bool b),.val (.int .i64 i)]=>∃j:Nat,i=(j:Int)∧j≤3∧Ext W0 W∧(b=true↔Jx3 p q z j)
 | _=>False
theorem Ju9 {p q z:List Tm} {j:Nat} :Jx3 p q z (j+1)↔Jx3 p q z j∧Fd0 (Fv8 (j:Int)) 0 p=Fd0 (Fv8 (j:Int)) 0 q∧Fd0 (Fv8 (j:Int)) 0 z=Fd0 (Fv8 (j:Int)) 0 p:=by
 constructor
 ·intro h
  exact⟨fun i hi=>h i (by omega),h j (by omega)⟩
 ·rintro⟨h1,h2⟩ i hi
  by_cases e:i=j
  ·subst e;exact h2
  ·exact h1 i (by omega)
def Jx7 (n:Nat) (L:List PL) (_:PW):Nat:=match L with
 | [_,.val (.int .i64 z)]=>n-z.toNat
 | _=>0
theorem Jw1 {p q:List Tm} {n:Int} (h1:Fd0 Cx8 0 p≤n) (h2:Fd0 Cx8 0 q≤n):Fd0 Cx8 0 (Ag2 (p ++ q))≤n:=by
 have:=Hx1 (w:=Cx8) (n:=0) (p:=p) (q:=q)
 have h3:mx (Fd0 Cx8 0 p) (Fd0 Cx8 0 q)≤n:=by unfold mx;split<;>omega
 omega
theorem Jv9 {W0:PW} {M:Nat→Prop} {s sd sb:Sl} {L Ld:List (Mon×ByteArray)} {Lt:List (ByteArray×ByteArray)} {r:ByteArray} (hT:Ac6 W0) (h:Af3 W0 s L) (hd:Af3 W0 sd Ld) (hb:Bs7 W0 sb Lt) (hl:L.length≤1099511627776) (hz: ∀t∈L,t.2.size≤1099511627776) (hld:Ld.length≤1099511627776) (hzd: ∀t∈Ld,t.2.size≤1099511627776) (hl2:Lt.length≤1099511627776) (hz2: ∀t∈Lt,t.1.size≤1099511627776∧t.2.size≤1099511627776) (hr:r.size≤1099511627776):
  Aa0 Tryz.prog 3 [s.v,sd.v,sb.v,.string r] W0 M fun v W'=>v = .bool true∧True:=by
 apply Jv0
 have alv: ∀{W:PW},Ac6 W→Aa1 Tryz.prog W0 M 13 [] W fun v11 W12=>∃b13:Bool,v11 = .bool b13∧∀(W14:PW),Ext W12 W14→Value.bool b13 = .bool true∧True:=fun hT=>Ii9 hT fun W12 _ _=>⟨true,rfl,fun W14 _=>⟨rfl,trivial⟩⟩
 refine Dn6 h hl hz fun s3 s4 b5 W2 hE2 hp=>⟨s3,s4,b5,rfl,?_⟩
 refine Dn6 (hd.ext hE2) hld hzd fun s8 s9 b10 W7 hE7 hq=>⟨s8,s9,b10,rfl,?_⟩
 refine Gb4 (hT.ext (hE2.trans hE7)) (hb.ext (hE2.trans hE7)) hl2 hz2 fun s13 s14 b15 W12 hE12 hbx=>⟨s13,s14,b15,rfl,?_⟩
 refine Go0 hr fun s18 b19 s20 b21 s22 s23 W17 hE17 ⟨v1,_⟩=>⟨s18,b19,s20,b21,s22,s23,_,rfl,?_⟩
 have T17:=hT.ext (hE2.trans (hE7.trans (hE12.trans hE17)))
 refine⟨fun _=>alv T17,fun h5=>⟨fun _=>alv T17,fun h10=>⟨fun _=>alv T17,fun h15=>⟨fun _=>alv T17,fun h24=>Ii9 T17 fun W42 hE42 _=>⟨true,rfl,fun e=>(by cases e),fun _=>?_⟩⟩⟩⟩⟩
 obtain⟨p,op,q1,r1⟩:=hp (by simpa using h5)
 obtain⟨q,oq,q2,r2⟩:=hq (by simpa using h10)
 obtain⟨bs,x1,_,hBox,hk⟩:=hbx (by simpa using h15)
 obtain⟨v,hv⟩: ∃v,Gp3 r=some v:=Option.isSome_iff_exists.1 (by simpa using h24)
 rw[hv] at v1
 have v1:Ab3 231 W17 s18 b19 s20 v:=v1
 have zv:=Jw7 hv
 have T42:=T17.ext hE42
 have q1:=q1.ext (hE7.trans (hE12.trans (hE17.trans hE42)))
 have r1:=r1.ext (hE7.trans (hE12.trans (hE17.trans hE42)))
 have q2:=q2.ext (hE12.trans (hE17.trans hE42))
 have r2:=r2.ext (hE12.trans (hE17.trans hE42))
 have x1:=x1.ext (hE17.trans hE42)
 have v1:=v1.ext hE42
 have l1:=op.len
 have l2:=oq.len
 have hn:=x1.n
 have hbl:=hBox.1
 have o1:=q1.ok
 have o2:=q2.ok
 have g1:=op.1.Aq3
 have g2:=oq.1.Aq3
 have b1:Bd 4100 p:=(bd4 op).mono (by omega)
 have b2:Bd 4100 q:=(bd4 oq).mono (by omega)
 refine Co3 q1 (by omega) fun W49 hE49 _=>⟨_,rfl,fun _=>alv (T42.ext hE49),fun hv1=>?_⟩
 refine Co3 (q2.ext hE49) (by omega) fun W56 hE56 _=>⟨_,rfl,fun _=>alv (T42.ext (hE49.trans hE56)),fun hv2=>?_⟩
 have E56:=hE49.trans hE56
 refine Jv3 (r1.ext E56) (r2.ext E56) g1 b1 b2 (by omega) (by omega) (by omega) fun s64 W63 hE63 r3=>⟨s64,rfl,?_⟩
 have E63:=E56.trans hE63
 have l3:=El2 (p ++ q)
 rw[List.length_append] at l3
 refine⟨lkI W63 p q (Ag2 (p ++ q)),Jx7 3,⟨0,rfl,by omega,Ext.refl _,⟨fun _ i hi=>absurd hi (Nat.not_lt_zero _),fun _=>rfl⟩⟩,?_⟩
 rintro b67 i68 W69 ⟨j,rfl,hj,hE69,hiff⟩
 have E69:=E63.trans hE69
 have hmu:3-Int.toNat ((j:Int)+1)<3-Int.toNat (j:Int)∨¬(j:Int)<3:=by omega
 refine⟨fun hlt=>⟨fun hb=>?_,fun hb=>?_⟩,fun hge=>?_⟩
 ·have hmu:=hmu.resolve_right fun h=>h hlt
  refine Jg6 (r1.ext E69) (by omega) fun W71 hE71 _=>⟨_,rfl,Jg6 (r2.ext (E69.trans hE71)) (by omega) fun W74 hE74 _=>⟨_,rfl,fun heq=>?_,fun hne=>⟨by unfold I64;omega,⟨j+1,by push_cast;rfl,by omega,hE69.trans (hE71.trans hE74),⟨fun e=>(by cases e),fun e=>absurd (Ju9.1 e).2.1 hne⟩⟩,hmu⟩⟩⟩
  have E74:=hE71.trans hE74
  refine Jg6 (r3.ext (hE69.trans E74)) (by omega) fun W77 hE77 _=>⟨_,rfl,Jg6 (r1.ext (E69.trans (E74.trans hE77))) (by omega) fun W80 hE80 _=>⟨_,rfl,by unfold I64;omega,⟨j+1,by push_cast;rfl,by omega,hE69.trans (E74.trans (hE77.trans hE80)),⟨fun e=>Ju9.2 ⟨hiff.1 hb,heq,of_decide_eq_true e⟩,fun e=>decide_eq_true (Ju9.1 e).2.2⟩⟩,hmu⟩⟩
 ·have hmu:=hmu.resolve_right fun h=>h hlt
  exact⟨by unfold I64;omega,⟨j+1,by push_cast;rfl,by omega,hE69,⟨fun e=>(by cases e),fun e=>absurd (hiff.2 (Ju9.1 e).1) (by rw[hb];decide)⟩⟩,hmu⟩
 have hj3:j=3:=by omega
 subst hj3
 have cp:Ii7 p bs:=Jm4 op o1 (by omega) (by omega) hBox (by omega)
 have cq:Ii7 q bs:=Jm4 oq o2 (by omega) (by omega) hBox (by omega)
 have zp:BxN 4100 4 p bs:=⟨b1,hk,o1,by omega,by omega,by omega,by omega⟩
 have zq:BxN 4100 4 q bs:=⟨b2,hk,o2,by omega,by omega,by omega,by omega⟩
 refine⟨fun hno=>?_,fun hyes=>?_⟩
 ·refine Gf5 (v1.ext (hE49.trans (hE56.trans (hE63.trans hE69)))) zv (by omega) fun s84 W83 hE83 h83=>⟨s84,rfl,?_⟩
  have E83:=E69.trans hE83
  have oc:POk (Ag2 [((⟨0,0,0⟩:Mon),v)]):=h83.ok
  have bc:Bd 4100 (Ag2 [((⟨0,0,0⟩:Mon),v)]):=(Cq4 zv).norm.mono (by omega)
  have lc:=El2 [((⟨0,0,0⟩:Mon),v)]
  have hvc:=Jw9 v
  have pc:Gk4 4 (Ag2 [((⟨0,0,0⟩:Mon),v)]):=Gk4.norm fun t ht=>by rw[List.mem_singleton.1 ht];exact(by decide:(⟨0,0,0⟩:Mon).ok∧(0:Int)≤4∧(0:Int)≤4∧(0:Int)≤4)
  have ccst:Ii7 (Ag2 [((⟨0,0,0⟩:Mon),v)]) bs:=⟨⟨hBox,by omega⟩,Jp2 pc (by omega) (by omega) hBox⟩
  have os:POk (Ag2 (p ++ Ag2 [((⟨0,0,0⟩:Mon),v)])):=POk.norm (o1.append oc)
  have ht:Ie8 (Ag2 (p ++ Ag2 [((⟨0,0,0⟩:Mon),v)])) bs.length=Ie8 p bs.length:=Ju8 fun i _=>Jv2 g1 v i
  have cs:Ii7 (Ag2 (p ++ Ag2 [((⟨0,0,0⟩:Mon),v)])) bs:=⟨⟨hBox,Jw1 (by omega) (by omega)⟩,by rw[ht];exact cp.2⟩
  have ls:=El2 (p ++ Ag2 [((⟨0,0,0⟩:Mon),v)])
  rw[List.length_append] at ls
  have lc1:(Ag2 [((⟨0,0,0⟩:Mon),v)]).length≤1:=lc
  have zs:BxN 8201 4 (Ag2 (p ++ Ag2 [((⟨0,0,0⟩:Mon),v)])) bs:=⟨(b1.append bc).norm,hk,os,by omega,by omega,by omega,by omega⟩
  have zc:BxN 4100 4 (Ag2 [((⟨0,0,0⟩:Mon),v)]) bs:=⟨bc,hk,oc,by omega,by omega,by omega,by omega⟩
  refine Ik5 (q1.ext E83) (x1.ext E83) zp (by omega) fun s87 W86 hE86 h86=>⟨s87,_,rfl,?_⟩
  refine Cw8 (q1.ext (E83.trans hE86)) (h83.ext hE86) b1 bc (by omega) (by omega) (by omega) fun s91 W90 hE90 h90=>⟨s91,rfl,?_⟩
  refine Ik5 h90 (x1.ext (E83.trans (hE86.trans hE90))) zs (by omega) fun s94 W93 hE93 h93=>⟨s94,_,rfl,?_⟩
  refine Ik5 (h83.ext (hE86.trans (hE90.trans hE93))) (x1.ext (E83.trans (hE86.trans (hE90.trans hE93)))) zc (by omega) fun s98 W97 hE97 h97=>⟨s98,_,rfl,?_⟩
  rw[if_pos cp] at h86
  rw[if_pos cs] at h93
  rw[if_pos ccst,Jw5] at h97
  have h93:Gv6 231 42 W93 s94 (stN (Ie8 p bs.length) bs.length) (Jk3 (Ag2 (p ++ Ag2 [((⟨0,0,0⟩:Mon),v)])) bs):=by rw[←ht];exact h93
  have n87:=h86.n
  have n94:=h93.n
  have n98:=h97.n
  have few:=Jm7 cp
  have hs: ∀k,k<stN (Ie8 p bs.length) bs.length→Jk3 (Ag2 (p ++ Ag2 [((⟨0,0,0⟩:Mon),v)])) bs k=Jk3 p bs k+Jk3 (Ag2 [((⟨0,0,0⟩:Mon),v)]) bs (if 1=stN (Ie8 p bs.length) bs.length then k else 0):=fun k hk=>by
   have e:(if 1=stN (Ie8 p bs.length) bs.length then k else 0)=0:=by split<;>omega
   rw[e,Jx2 ccst]
   exact Jx1 g1 o1 cp cs hk
  have L:=Jw3 (W0:=W0) (M:=M) (K:=1300000) (h86.ext (hE90.trans (hE93.trans hE97))) (h93.ext hE97) h97 Nat.one_pos (by omega) hs (fun k hk=>(Jj3 zp cp hk).mono (by omega)) (fun k hk=>(Jj3 zc ccst (by rw[Jw5];exact hk)).mono (by omega)) (by omega)
  have d1:=decide_eq_true cp
  have d2:=decide_eq_true cs
  have d3:=decide_eq_true ccst
  exact⟨fun e=>absurd e (by rw[d1];decide),fun _=>⟨fun e=>absurd e (by rw[d2];decide),fun _=>⟨fun e=>absurd e (by rw[d3];decide),fun _=>⟨fun e=>absurd (show((s87.n:Nat):Int)=((s94.n:Nat):Int) by omega) e,fun _=>⟨fun _=>⟨fun e=>absurd (show((s98.n:Nat):Int)=1 by omega) e,fun _=>L⟩,fun _=>L⟩⟩⟩⟩⟩
 ·have hlike:=hiff.1 (by simpa using hyes)
  have tq:Ie8 q bs.length=Ie8 p bs.length:=Ju8 fun i hi=>((hlike i (by omega)).1).symm
  have ht:Ie8 (Ag2 (p ++ q)) bs.length=Ie8 p bs.length:=Ju8 fun i hi=>(hlike i (by omega)).2
  have os:POk (Ag2 (p ++ q)):=POk.norm (o1.append o2)
  have cs:Ii7 (Ag2 (p ++ q)) bs:=⟨⟨hBox,Jw1 (by omega) (by omega)⟩,by rw[ht];exact cp.2⟩
  have zs:BxN 8201 4 (Ag2 (p ++ q)) bs:=⟨(b1.append b2).norm,hk,os,by omega,by omega,by omega,by omega⟩
  refine Ik5 (q1.ext E69) (x1.ext E69) zp (by omega) fun s87 W86 hE86 h86=>⟨s87,_,rfl,?_⟩
  refine Cw8 (q1.ext (E69.trans hE86)) (q2.ext (E69.trans hE86)) b1 b2 (by omega) (by omega) (by omega) fun s91 W90 hE90 h90=>⟨s91,rfl,?_⟩
  refine Ik5 h90 (x1.ext (E69.trans (hE86.trans hE90))) zs (by omega) fun s94 W93 hE93 h93=>⟨s94,_,rfl,?_⟩
  refine Ik5 (q2.ext (E69.trans (hE86.trans (hE90.trans hE93)))) (x1.ext (E69.trans (hE86.trans (hE90.trans hE93)))) zq (by omega) fun s98 W97 hE97 h97=>⟨s98,_,rfl,?_⟩
  rw[if_pos cp] at h86
  rw[if_pos cs] at h93
  rw[if_pos cq] at h97
  have h93:Gv6 231 42 W93 s94 (stN (Ie8 p bs.length) bs.length) (Jk3 (Ag2 (p ++ q)) bs):=by rw[←ht];exact h93
  have h97:Gv6 231 42 W97 s98 (stN (Ie8 p bs.length) bs.length) (Jk3 q bs):=by rw[←tq];exact h97
  have n87:=h86.n
  have n94:=h93.n
  have n98:=h97.n
  have few:=Jm7 cp
  have hs: ∀k,k<stN (Ie8 p bs.length) bs.length→Jk3 (Ag2 (p ++ q)) bs k=Jk3 p bs k+Jk3 q bs (if stN (Ie8 p bs.length) bs.length=stN (Ie8 p bs.length) bs.length then k else 0):=fun k hk=>by
   rw[if_pos rfl]
   exact Jx4 g1 o1 g2 o2 cp cq cs ht tq hk
  have L:=Jw3 (W0:=W0) (M:=M) (K:=1300000) (h86.ext (hE90.trans (hE93.trans hE97))) (h93.ext hE97) h97 (Jk0 p bs) (by omega) hs (fun k hk=>(Jj3 zp cp hk).mono (by omega)) (fun k hk=>(Jj3 zq cq (by rw[tq];exact hk)).mono (by omega)) (by omega)
  have d1:=decide_eq_true cp
  have d2:=decide_eq_true cs
  have d3:=decide_eq_true cq
  exact⟨fun e=>absurd e (by rw[d1];decide),fun _=>⟨fun e=>absurd e (by rw[d2];decide),fun _=>⟨fun e=>absurd e (by rw[d3];decide),fun _=>⟨fun e=>absurd (show((s87.n:Nat):Int)=((s94.n:Nat):Int) by omega) e,fun _=>⟨fun hne=>absurd (show((s98.n:Nat):Int)=((s87.n:Nat):Int) by omega) hne,fun _=>L⟩⟩⟩⟩⟩
end Go.Proofs.YtokefihiadbkbaaGreatDoor
/- An argument that is a slice of terms with texts, opened. -/
namespace Go.Proofs.YtokefihiadbkbaaGreatDoor
open Go Go.SX Go.ChangeShapes Go.WideShapes Go.ChangeAt Go.RowKit Go.Deep
instance:Inhabited (Mon×ByteArray):=⟨(⟨0,0,0⟩,⟨#[]⟩)⟩
theorem Cd6:Tryz.prog.cellsOf 191=4:=by kernel_rfl
theorem Dv1:Tryz.prog.cellsOf 136=3:=by kernel_rfl
theorem Ew8:Tryz.prog.cellsOf 5=1:=by kernel_rfl
theorem Fg4 {n:Int} (h:(Lit.int .u8 n).wf=true):0≤n∧n≤255:=by
 simp[Lit.wf,IntKind.min,IntKind.max,IntKind.bits,IntKind.signed] at h
 omega
theorem Er8 {H:Type} {enc:TypeId×Value→H} {W:World} {fuel:Nat} {cs:List Value} {x:DataW H×List MemPlace} (h:DataW.trod enc Tryz.prog W 0 (fun _=>true) true fuel 191 cs=some x):
  ∃t:Mon×ByteArray,AT cs t∧t.2.size≤Rows.uptoBulk x.1:=by
 obtain⟨xs,k,rfl,rfl,hl,hxl,hf⟩:=DataW.trod_struct Tryz.underlying191 h
 rw[Cd6] at hl
 have g0:DataW.trod enc Tryz.prog W 0 (fun _=>true) true k 136 ((cs.drop 0).take (Tryz.prog.cellsOf 136))=xs[0]?:=hf 0 _ rfl
 have g1:DataW.trod enc Tryz.prog W 0 (fun _=>true) true k 9 ((cs.drop 3).take (Tryz.prog.cellsOf 9))=xs[1]?:=hf 1 _ rfl
 rw[Dv1] at g0
 rw[Ct5] at g1
 match cs,hl,xs,hxl with
 | [v0,v1,v2,v3],_,[y0,y1],_=>
  have g0:DataW.trod enc Tryz.prog W 0 (fun _=>true) true k 136 [v0,v1,v2]=some y0:=g0
  have g1:DataW.trod enc Tryz.prog W 0 (fun _=>true) true k 9 [v3]=some y1:=g1
  obtain⟨zs,m,rfl,rfl,_,hzl,hz⟩:=DataW.trod_array Tryz.underlying136 g0
  obtain⟨s,hs,rfl,hsz⟩:=DataW.trod_string Tryz.underlying9 g1
  have e0:=hz 0 (by omega)
  have e1:=hz 1 (by omega)
  have e2:=hz 2 (by omega)
  rw[Ew8] at e0 e1 e2
  match zs,hzl with
  | [w0,w1,w2],_=>
   have e0:DataW.trod enc Tryz.prog W 0 (fun _=>true) true m 5 [v0]=some w0:=e0
   have e1:DataW.trod enc Tryz.prog W 0 (fun _=>true) true m 5 [v1]=some w1:=e1
   have e2:DataW.trod enc Tryz.prog W 0 (fun _=>true) true m 5 [v2]=some w2:=e2
   obtain⟨n0,h0,_,k0⟩:=DataW.trod_int Tryz.underlying5 e0
   obtain⟨n1,h1,_,k1⟩:=DataW.trod_int Tryz.underlying5 e1
   obtain⟨n2,h2,_,k2⟩:=DataW.trod_int Tryz.underlying5 e2
   have hs: [v3] = [Value.string s]:=hs
   have h0: [v0] = [Value.int .u8 n0]:=h0
   have h1: [v1] = [Value.int .u8 n1]:=h1
   have h2: [v2] = [Value.int .u8 n2]:=h2
   simp only[List.cons.injEq,and_true] at hs h0 h1 h2
   subst hs h0 h1 h2
   refine⟨(⟨n0,n1,n2⟩,s),⟨⟨Fg4 k0,Fg4 k1,Fg4 k2⟩,rfl⟩,?_⟩
   have e:s.data.toList.length=s.size:=by rw[Array.length_toList];rfl
   simp only[List.map_cons,List.map_nil,Rows.uptoBulk,Rows.uptoBulkAll]
   omega
theorem Et3 {n:Nat} {V:Nat→List Value} {y:Nat→Mon×ByteArray} (h: ∀i,i<n→AT (V i) (y i)):An5 AT ((List.range n).map V) ((List.range n).map y):=by
 induction n with
 | zero=>trivial
 | succ n ih=>
  rw[List.range_succ,List.map_append,List.map_append]
  exact(ih fun i hi=>h i (by omega)).append ⟨h n (by omega),trivial⟩
theorem Dt5 {H:Type} {enc:TypeId×Value→H} {W:World} {fuel:Nat} {v:Value} {d:DataW H} {p:List MemPlace} (h:DataW.trod enc Tryz.prog W 0 (fun _=>true) true fuel 22 [v]=some (d,p)):
  ∃(s:Sl) (L:List (Mon×ByteArray)),v=s.v∧Af3 ⟨W,fun _=>False⟩ s L∧L.length≤Rows.uptoBulk d∧∀t∈L,t.2.size≤Rows.uptoBulk d:=by
 rcases open_slice Tryz.underlying22 h with⟨hcs,hx⟩ | ⟨a,len,cap,m,n,D,Pl,hcs,_,hl,hm,hmm,hx,hcell⟩
 ·have hv:v = .slice none 0 0:=by simpa using hcs
  subst hv
  exact⟨⟨none,0,0⟩,[],rfl,⟨[],⟨0,rfl,Nat.le_refl _,Nat.zero_le _,fun x h=>by simp at h,.inl rfl⟩,trivial⟩,Nat.zero_le _,fun l h=>by simp at h⟩
 ·have hv:v = .slice (some a) len cap:=by simpa using hcs
  subst hv
  simp only[if_true] at hmm
  subst hmm
  simp only[Prod.mk.injEq] at hx
  obtain⟨rfl,_⟩:=hx
  rw[Cd6] at hcell
  obtain⟨q,hq⟩: ∃q:Nat→List Value×(Mon×ByteArray),∀i,i<m→W.cells? 0 (a.add (i*4)) 4=some (q i).1∧AT (q i).1 (q i).2∧(q i).2.2.size≤Rows.uptoBulk (D i):=choose_lt (α:=List Value×(Mon×ByteArray)) (p:=fun i q=>W.cells? 0 (a.add (i*4)) 4=some q.1∧AT q.1 q.2∧q.2.2.size≤Rows.uptoBulk (D i)) fun i hi=>by
   obtain⟨cs',h1,h2⟩:=hcell i hi
   obtain⟨t,h3,h4⟩:=Er8 h2
   exact⟨(cs',t),h1,h3,h4⟩
  have hr:=Bz7 (W:=W) (a:=a) (n:=len) (c:=m) (sz:=4) (V:=fun i=>(q i).1) (fun j hj i v hv=>by
   obtain⟨_,hlen,hc⟩:=World.cells?_some (hq j (by omega)).1
   have hi:i<4:=by have:=(List.getElem?_eq_some_iff.1 hv).1;omega
   have:=hc i hi
   rw[add_add] at this
   rw[this];exact hv) (fun j hj=>(World.cells?_some (hq j (by omega)).1).2.1) (by omega) hl hm (fun j hj u hu=>by
   rw[(hq j (by omega)).2.1.2] at hu
   simp only[List.mem_cons,List.not_mem_nil,or_false] at hu
   rcases hu with rfl | rfl | rfl | rfl<;>rfl)
  have hbulk: ∀i,i<len→Rows.uptoBulk (D i)≤Rows.uptoBulkAll ((List.range len).map D):=fun i hi=>Eo6 (List.mem_map.2 ⟨i,List.mem_range.2 hi,rfl⟩)
  have hlen:=Dj1 ((List.range len).map D)
  simp only[List.length_map,List.length_range] at hlen
  refine⟨⟨some a,len,m⟩,(List.range len).map fun i=>(q i).2,rfl,⟨_,hr,Et3 fun i hi=>(hq i (by omega)).2.1⟩,?_,fun t ht=>?_⟩
  ·simp only[List.length_map,List.length_range,Rows.uptoBulk]
   omega
  ·obtain⟨j,hj,rfl⟩:=List.mem_map.1 ht
   have hj':=List.mem_range.1 hj
   have h1:=hbulk j hj'
   have h2:=(hq j (by omega)).2.2
   simp only[Rows.uptoBulk]
   omega
end Go.Proofs.YtokefihiadbkbaaGreatDoor
/- cincturelaw10.BernAdds answers true for every input whose bulk is at most 1048576 (the second form), and its arguments read behind the call as they did ahead of it. -/
namespace Go.Proofs.YtokefihiadbkbaaGreatDoor
open Go Go.SX Go.ChangeShapes Go.WideShapes Go.ChangeAt Go.RowKit Go.Deep
theorem Fs9:Tryz.prog.globalNamed "math/bits.deBruijn32tab" = some 1:=by kernel_rfl
theorem Ew9:(Tryz.prog.globals[1]?).map (·.type)=some 301:=by kernel_rfl
theorem Ev1:Tryz.prog.cellsOf 301=32:=by kernel_rfl
theorem Fh1:Tryz.prog.cellsOf 5=1:=by kernel_rfl
theorem Fr5 {W:World} (h:laidMetH Tryz.prog Rows.bernAddsUptoRow.laid W):Ac6 ⟨W,fun _=>False⟩:=by
 have ht:Go.Lib.TabIs Tryz.prog W "math/bits.deBruijn32tab" .u8 (Go.Lib.deBruijn32tab.map fun n:Nat=>(n:Int)):=Go.Lib.tabIs_of_head (rest:=[]) Fs9 Ew9 Tryz.underlying301 Tryz.underlying5 Fh1 Ev1 h
 have hc: ∀j,j<32→W.cell? ⟨1,j,none⟩=some (.int .u8 ((Go.Lib.deBruijn32tab.getD j 0:Nat):Int)):=fun j hj=>by
  rw[ht.cell Fs9 j (by simpa[Go.Lib.deBruijn32tab] using hj)]
  have hall: ∀j,j<32→(Go.Lib.deBruijn32tab.map fun n:Nat=>(n:Int)).getD j 0=((Go.Lib.deBruijn32tab.getD j 0:Nat):Int):=by decide
  rw[hall j hj]
 refine⟨hc,?_,fun h=>h⟩
 have:=hc 0 (by omega)
 unfold World.cell? at this
 split at this
 ·rename_i e
  exact(Array.getElem?_eq_some_iff.1 e).1
 ·cases this
theorem Fa3 (H:Type) (enc:TypeId×Value→H) (W:World) (base:Nat) (args:Array Value) (ds gs:List (DataW H)) (before:List MemPlace)
  (hval: ∀(j:Nat) t v,Tryz.f3.params[j]?=some t→args[j]?=some v→Value.okWide Tryz.prog W .any base t v)
  (hW:DataW.Whole enc Tryz.prog Tryz.f3.params.toList Rows.bernAddsSpec.vars false W args.toList ds gs before) (hk:Rows.uptoSmall H (ds ++ gs)=true) (hL:laidMetH Tryz.prog Rows.bernAddsUptoRow.laid W):
  Calls Tryz.prog 3 args W fun e W'=>∃v,e = .returned v∧Rows.bernAddsSpec.post enc Tryz.prog Tryz.f3 false true false false W args v W':=by
 have hW':=hW
 obtain⟨p,q,hA0,hV,rfl,hfz,hnd⟩:=hW
 have hA:DataW.TrodAll enc Tryz.prog W 0 (fun _=>true) true Tryz.f3.params.toList args.toList ds p:=hA0
 rw[Tryz.params3] at hA hval
 obtain⟨v0,vs0,d0,ds0,p0,q0,hargs,rfl,rfl,h0,r0⟩:=trodAll_cons hA
 obtain⟨v1,vs1,d1,ds1,p1,q1,rfl,rfl,rfl,h1,r1⟩:=trodAll_cons r0
 obtain⟨v2,vs2,d2,ds2,p2,q2,rfl,rfl,rfl,h2,r2⟩:=trodAll_cons r1
 obtain⟨v3,vs3,d3,ds3,p3,q3,rfl,rfl,rfl,h3,r3⟩:=trodAll_cons r2
 obtain⟨rfl,rfl,rfl⟩:=trodAll_nil r3
 obtain rfl:args = #[v0,v1,v2,v3]:=by cases args;simp_all
 obtain⟨rfl,rfl⟩:=trodVars_none hV
 obtain⟨a0,n0,c0,rfl⟩:=okWide_slice Tryz.underlying22 (hval 0 22 v0 rfl rfl)
 obtain⟨a1,n1,c1,rfl⟩:=okWide_slice Tryz.underlying22 (hval 1 22 v1 rfl rfl)
 obtain⟨a2,n2,c2,rfl⟩:=okWide_slice Tryz.underlying23 (hval 2 23 v2 rfl rfl)
 obtain⟨t3,rfl⟩:=okWide_string Tryz.underlying9 (hval 3 9 v3 rfl rfl)
 clear hA0
 simp only[List.append_nil] at hW' hk
 have hlt: ∀x∈p0 ++ (p1 ++ (p2 ++ p3)),x.block<W.heap.size:=fun x hx=>by simpa using hW'.lt x (by simpa using hx)
 have hbulk:Rows.uptoBulkAll [d0,d1,d2,d3]≤1048576:=of_decide_eq_true hk
 simp only[Rows.uptoBulkAll] at hbulk
 have h0k:=h0
 obtain⟨fuel0,hf0⟩:=h0
 have hf0':DataW.trod enc Tryz.prog W 0 (fun _=>true) true fuel0 22 [.slice a0 n0 c0]=some (d0,p0):=by simpa[Value.cells] using hf0
 obtain⟨s0,L0,hs0,hL0,hb0,hc0⟩:=Dt5 hf0'
 have h1k:=h1
 obtain⟨fuel1,hf1⟩:=h1
 have hf1':DataW.trod enc Tryz.prog W 0 (fun _=>true) true fuel1 22 [.slice a1 n1 c1]=some (d1,p1):=by simpa[Value.cells] using hf1
 obtain⟨s1,L1,hs1,hL1,hb1,hc1⟩:=Dt5 hf1'
 have h2k:=h2
 obtain⟨fuel2,hf2⟩:=h2
 have hf2':DataW.trod enc Tryz.prog W 0 (fun _=>true) true fuel2 23 [.slice a2 n2 c2]=some (d2,p2):=by simpa[Value.cells] using hf2
 obtain⟨s2,L2,hs2,hL2,hb2,hc2⟩:=Gc9 hf2'
 have h3k:=h3
 obtain⟨fuel3,hf3⟩:=h3
 have hf3':DataW.trod enc Tryz.prog W 0 (fun _=>true) true fuel3 9 [.string t3]=some (d3,p3):=by simpa[Value.cells] using hf3
 have hb3:t3.size≤Rows.uptoBulk d3:=by
  obtain⟨s,hs,hx,_⟩:=DataW.trod_string Tryz.underlying9 hf3'
  simp only[List.cons.injEq,Value.string.injEq,and_true] at hs
  simp only[Prod.mk.injEq] at hx
  rw[hx.1,hs]
  have e:s.data.toList.length=s.size:=by rw[Array.length_toList];rfl
  simp only[Rows.uptoBulk]
  omega
 have hc:=Jv9 (M:=fun _=>False) (r:=t3) (Fr5 hL) hL0 hL1 hL2 (by omega) (fun t ht=>by have:=hc0 t ht;omega) (by omega) (fun t ht=>by have:=hc1 t ht;omega) (by omega) (fun t ht=>by have:=hc2 t ht;omega) (by omega)
 have hcall:=hc.2 (fun b h=>h.elim)
 rw[hs0,hs1,hs2]
 refine hcall.mono fun e W' ⟨v,he,hkeep,hv,_⟩=>⟨v,he,?_⟩
 subst hv
 have hbel:=hkeep.below
 refine⟨[d0,d1,d2,d3],[],_,[],p0 ++ (p1 ++ (p2 ++ p3)),[],(by rw[←hs0,←hs1,←hs2];simpa using hW'),trodAll_mk1 (shut_bool Tryz.underlying4 _),(by rw[←hs0,←hs1,←hs2];exact trodAll_cons_mk (Below.trod laidOut (by kernel_rfl) (of_decide_eq_true (by kernel_rfl)) h0k hbel fun x hx=>hlt x (by simp[hx])) (trodAll_mk3 (Below.trod laidOut (by kernel_rfl) (of_decide_eq_true (by kernel_rfl)) h1k hbel fun x hx=>hlt x (by simp[hx])) (Below.trod laidOut (by kernel_rfl) (of_decide_eq_true (by kernel_rfl)) h2k hbel fun x hx=>hlt x (by simp[hx])) (Below.trod laidOut (by kernel_rfl) (of_decide_eq_true (by kernel_rfl)) h3k hbel fun x hx=>hlt x (by simp[hx])))),rfl,hbel.frame _,fun h=>by cases h⟩
noncomputable def Bu8 (os:Os):World:=
 {World.holding Tryz.prog os ⟨#[],#[],[]⟩ with heap:=(World.holding Tryz.prog os ⟨#[],#[],[]⟩).heap.modify 1 fun
   | .cells _ t frozen=>.cells #[.int .u8 0,.int .u8 1,.int .u8 28,.int .u8 2,.int .u8 29,.int .u8 14,.int .u8 24,.int .u8 3,.int .u8 30,.int .u8 22,.int .u8 20,.int .u8 15,.int .u8 25,.int .u8 17,.int .u8 4,.int .u8 8,.int .u8 31,.int .u8 27,.int .u8 13,.int .u8 23,.int .u8 21,.int .u8 19,.int .u8 16,.int .u8 7,.int .u8 26,.int .u8 12,.int .u8 18,.int .u8 6,.int .u8 11,.int .u8 5,.int .u8 10,.int .u8 9] t frozen
   | o=>o }
theorem Fa2 (os:Os):laidMet Tryz.prog Rows.bernAddsUptoRow.laid ((Bu8 os).forCall (fun _ _=>0) ⟨#[],#[.slice none 0 0,.slice none 0 0,.slice none 0 0,.string ⟨#[]⟩],[]⟩).memory:=
 laidMet_of_run' 8 (by kernel_rfl) (by kernel_rfl)
theorem reads (os:Os) {H:Type} (enc:TypeId×Value→H): ∃places,DataW.whole enc Tryz.prog ((Bu8 os).forCall (fun _ _=>0) ⟨#[],#[.slice none 0 0,.slice none 0 0,.slice none 0 0,.string ⟨#[]⟩],[]⟩).memory Tryz.f3.params.toList Rows.bernAddsSpec.vars false (#[.slice none 0 0,.slice none 0 0,.slice none 0 0,.string ⟨#[]⟩]:Array Value).toList 8=some ([.nil,.nil,.nil,.lit (.string [])],[],places):=
 ⟨[],by kernel_rfl⟩
theorem lifted (os:Os) (started:os.Started) (H:Type) (enc:TypeId×Value→H) (F:Stop.Interp):
  ReturnsInHanded {} Tryz.checked os 3 .any ((Rows.OpenSpec.upto Rows.bernAddsSpec).preRow enc Tryz.prog Tryz.f3 Rows.bernAddsUptoRow.domain false Rows.bernAddsUptoRow.laid) (((Rows.OpenSpec.upto Rows.bernAddsSpec).at F).post enc Tryz.prog Tryz.f3 false true false false):=by
 obtain⟨places,hx⟩:=reads os enc
 refine returnsInHanded_of_row (C:=Tryz.checked) (s:=Rows.OpenSpec.upto Rows.bernAddsSpec) Cp9 started (by kernel_rfl) Tryz.func3
  (witness_row_at (enc:=enc) (C:=Tryz.checked) false (Bu8 os) #[.slice none 0 0,.slice none 0 0,.slice none 0 0,.string ⟨#[]⟩] rfl (by kernel_rfl) (by kernel_rfl) (by kernel_rfl)
   (OpenSpec.preRow_of_cond 8 hx (by kernel_rfl) (fun k hk=>by cases hk;kernel_rfl) (by kernel_rfl) (Fa2 os))) ?_
 intro W base args ds gs before hval hW _ hcond _ hL _ _
 exact Fa3 H enc W base args ds gs before hval hW (hcond _ rfl) hL
theorem Fj9:Fc7 Tryz.checked.prog 3 Tryz.f3 (Rows.OpenSpec.upto Rows.bernAddsSpec).bare Rows.bernAddsUptoRow=true:=by kernel_rfl
theorem Fl9:Fd9 Tryz.checked.prog 3 Tryz.f3 (Rows.OpenSpec.upto Rows.bernAddsSpec).bare Rows.bernAddsUptoRow=true:=by kernel_rfl
theorem Fl2:Fe1 Tryz.checked.prog 3 Tryz.f3 (Rows.OpenSpec.upto Rows.bernAddsSpec).bare Rows.bernAddsUptoRow=true:=by kernel_rfl
theorem Fn7:Fd2 Tryz.checked.prog 3 Tryz.f3 (Rows.OpenSpec.upto Rows.bernAddsSpec).bare Rows.bernAddsUptoRow=true:=by kernel_rfl
theorem Fj6:Fd4 Tryz.checked.prog 3 Tryz.f3 (Rows.OpenSpec.upto Rows.bernAddsSpec).bare Rows.bernAddsUptoRow=true:=by kernel_rfl
theorem Et8:Rows.BernAddsUptoSaid:=
 OpenClaim.holds_of_cond 3 Tryz.f3 rfl rfl rfl rfl rfl rfl rfl ⟨rfl,rfl,rfl,rfl,rfl⟩ rfl rfl rfl rfl rfl (by kernel_rfl) Tryz.func3 (Eo7 Fj9 Fl9 Fl2 Fn7 Fj6)
  (of_decide_eq_true (by kernel_rfl)) (by unfold Func.isWrapper;first | (rw[if_pos (by decide +kernel)];kernel_rfl) | (rw[if_neg (by decide +kernel)];exact⟨rfl,rfl⟩))
  (fun os started H enc _ F=>by rw[OpenClaim.pre_eq_preRow];exact lifted os started H enc F)
theorem plain (f:FuncId) (fn:Func) (hf:Tryz.pinned.checked.prog.funcNamed "cincture/cincturelaw10.BernAdds" = some f) (hfn:Tryz.pinned.checked.prog.funcs[f]?=some fn):
  false=Tryz.pinned.checked.prog.looks []∧∀(j:Nat) t,fn.params[j]?=some t→Tryz.pinned.checked.prog.wantsStandIn t=false:=by
 obtain rfl:f=3:=Option.some.inj ((show Tryz.prog.funcNamed "cincture/cincturelaw10.BernAdds" = some 3 by kernel_rfl).symm.trans hf) |>.symm
 obtain rfl:fn=Tryz.f3:=(Option.some.inj (Tryz.func3.symm.trans hfn)).symm
 refine⟨by kernel_rfl,fun j t ht=>?_⟩
 rw[Tryz.params3] at ht
 have hm:t∈[22,22,23,9]:=by simpa using Array.mem_of_getElem? ht
 have hall:([22,22,23,9].all fun u=>!Tryz.prog.wantsStandIn u)=true:=by kernel_rfl
 exact(show Tryz.prog.wantsStandIn t=false by simpa using List.all_eq_true.1 hall t hm)
theorem bernAdds_card:Rows.BernAddsUptoCardSaid:=
 Claim7.holds_tied_plain_at .later [] _ _ _ _ Et8 (fun _ h=>by cases h) (by kernel_rfl) (fun _ h=>by cases h) bernAddsUpto_row_tie rfl ⟨rfl,rfl⟩ (by kernel_rfl) rfl plain (by kernel_rfl)
#print axioms bernAdds_card
end Go.Proofs.YtokefihiadbkbaaGreatDoor
