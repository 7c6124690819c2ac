/- box.Right, gram.side, gram.Sum, and the reference's. -/
import Derived.Test.YtjkkidjbppphpaaGreatDoorW15
import Derived.Test.YtjkkidjbppphpaaGreatDoorW16
import Derived.Test.YtjkkidjbppphpaaGreatDoorLib4
import Derived.Test.YtjkkidjbppphpaaGreatDoorR15
import Derived.Test.YtjkkidjbppphpaaGreatDoorW13
import Derived.Test.YtjkkidjbppphpaaGreatDoorR10
set_option linter.unusedVariables false
set_option linter.unusedSimpArgs false
set_option maxRecDepth 100000
namespace Go.Proofs.YtjkkidjbppphpaaGreatDoor
open Go Go.SX
def brI (W0:PW) (bs:List Iv) (L:List PL) (W:PW):Prop:=match L with
 | [.val (.int .i64 i)]=>∃j:Nat,i=(j:Int)∧j≤bs.length∧Ext W0 W∧∀x∈bs.take j,x.1<x.2
 | _=>False
theorem Ey3 {bs:List Iv} {j:Nat} (hj:j<bs.length) (h: ∀x∈bs.take j,x.1<x.2) (h2:bs[j].1<bs[j].2): ∀x∈bs.take (j+1),x.1<x.2:=fun x hx=>by
 rw[List.take_succ_eq_append_getElem hj,List.mem_append,List.mem_singleton] at hx
 rcases hx with hx | rfl
 ·exact h x hx
 ·exact h2
theorem Dk1 {W0:PW} {M:Nat→Prop} {s:Sl} {bs:List Iv} {k:Nat} (h:Bc3 284 W0 s bs) (hk: ∀x∈bs,IvS k x) (hk2:k≤1048576) (hl:bs.length≤1048576):
  Aa0 Tryz.prog 98 [s.v] W0 M fun v W'=>v = .bool (decide (Cn7 bs))∧True:=by
 apply Ck4
 have hn:=h.n
 refine⟨brI W0 bs,cn1 bs.length,⟨0,rfl,Nat.zero_le _,Ext.refl _,fun x hx=>(by cases hx)⟩,?_⟩
 rintro i3 W4 ⟨j,rfl,hj,hE4,hall⟩
 have h4:=Bc3.ext h hE4
 refine⟨fun hlt=>?_,fun hge=>?_⟩
 ·have hjl:j<bs.length:=by omega
  obtain⟨x,hx,hel⟩:=h4.at hjl
  obtain⟨s5,b6,s7,s8,b9,s10,rfl,q1,q2⟩:=hx
  have hz:=hk _ (List.getElem_mem hjl)
  refine⟨h4.inB (by omega) (by omega),s5,b6,s7,s8,b9,s10,hel 0 rfl,Aj2 q1 q2 hz.1 hz.2 (by omega) (by omega) fun W12 hE12 _=>⟨_,rfl,fun h0 W14 _=>⟨?_,trivial⟩,fun h0=>⟨by unfold I64;omega,⟨j+1,by push_cast;rfl,by omega,hE4.trans hE12,Ey3 hjl hall (At6.1 (by omega))⟩,?_⟩⟩⟩
  ·rw[decide_eq_false fun e=>Rat.not_lt.2 (El9.1 h0) (e.2 _ (List.getElem_mem hjl))]
  ·show bs.length-Int.toNat ((j:Int)+1)<bs.length-Int.toNat (j:Int)
   omega
 ·have:j=bs.length:=by omega
  subst this
  rw[List.take_length] at hall
  refine⟨fun h1 W15 _=>⟨?_,trivial⟩,fun h1 W16 _=>⟨?_,trivial⟩⟩
  ·congr 1
   rw[decide_eq_decide]
   exact⟨fun h=>⟨⟨by omega,by omega⟩,hall⟩,fun h=>by have:=h.1.2;omega⟩
  ·rw[decide_eq_false fun e=>by have:=e.1.1;omega]
theorem Cm2 {W0 W:PW} {M:Nat→Prop} {s:Sl} {bs:List Iv} {k:Nat} {K:Value→PW→Prop} (h:Bc3 284 W s bs) (hk: ∀x∈bs,IvS k x) (hk2:k≤1048576) (hl:bs.length≤1048576) (kont: ∀(W':PW),Ext W W'→(True)→K (.bool (decide (Cn7 bs))) W'):
  Aa1 Tryz.prog W0 M 98 [s.v] W K:=
 Aa2 (fun W' hE=>Dk1 (M:=fun _=>False) (h.ext hE) hk hk2 hl) (fun W' v W'' hE hE' hP=>by
  obtain⟨rfl,h⟩:=hP
  exact kont W'' (hE.trans hE') h)
def Fj5 (l:List SqP) (bs:List Iv):Prop:=Cn7 bs∧∀s∈l,0≤s.g∧s.g≤(bs.length:Int)
instance (l:List SqP) (bs:List Iv):Decidable (Fj5 l bs):=by unfold Fj5;infer_instance
end Go.Proofs.YtjkkidjbppphpaaGreatDoor
/- poly.Diff, cinctureref1.Diff; cincturelaw8.PolyDiffs. -/
namespace Go.Proofs.YtjkkidjbppphpaaGreatDoor
open Go Go.SX
def Hj5 (m:Mon) (k:Nat):Mon:=if k=0 then⟨m.x-1,m.y,m.z⟩ else if k=1 then⟨m.x,m.y-1,m.z⟩ else⟨m.x,m.y,m.z-1⟩
def Hc2 (k:Nat) (t:Tm):List Tm:=if 0<An6 t.1 k then[(Hj5 t.1 k,t.2*((An6 t.1 k:Int):Rat))] else[]
def Hc1 (p:List Tm) (k:Nat):List Tm:=p.flatMap (Hc2 k)
def Hc3 (p:List Tm) (i:Int):List Tm:=if 0≤i∧i<3 then Ag2 (Hc1 p i.toNat) else[]
theorem Hc4 {p:List Tm} {j:Nat} (hj:j<p.length) (k:Nat):Hc1 (p.take (j+1)) k=Hc1 (p.take j) k ++ Hc2 k p[j]:=by
 rw[Ce0 hj]
 unfold Hc1
 rw[List.flatMap_append]
 rw[show List.flatMap (Hc2 k) [p[j]]=Hc2 k p[j] from by simp[List.flatMap]]
theorem Ho7 (k:Nat) (t:Tm):(Hc2 k t).length≤1:=by
 unfold Hc2
 split<;>simp
theorem Hd4 (p:List Tm) (k:Nat):(Hc1 p k).length≤p.length:=by
 induction p with
 | nil=>simp[Hc1]
 | cons t r ih=>
  have e:Hc1 (t :: r) k=Hc2 k t ++ Hc1 r k:=rfl
  have:=Ho7 k t
  rw[e]
  simp only[List.length_append,List.length_cons]
  omega
theorem Hl4 {m:Mon} {k:Nat} (h:m.ok) (hk:k<3) (hp:0<An6 m k):(Hj5 m k).ok:=by
 unfold Mon.ok at h
 unfold An6 at hp
 unfold Hj5
 rcases(by omega:k=0∨k=1∨k=2) with rfl | rfl | rfl
 ·simp at hp;exact⟨⟨by show 0≤m.x-1;omega,by show m.x-1≤255;omega⟩,h.2.1,h.2.2⟩
 ·simp at hp;exact⟨h.1,⟨by show 0≤m.y-1;omega,by show m.y-1≤255;omega⟩,h.2.2⟩
 ·simp at hp;exact⟨h.1,h.2.1,by show 0≤m.z-1;omega,by show m.z-1≤255;omega⟩
theorem Hg5 {l:Nat} {p:List Tm} (h:Bd l p) (ho:POk p) (k:Nat):Bd (l+1) (Hc1 p k):=by
 obtain⟨D,N,h1,h2,h3,h4⟩:=h
 have key: ∀{p:List Tm} {N:Nat},Fit D N p→POk p→Fit D (N*255) (Hc1 p k):=by
  intro p
  induction p with
  | nil=>intro N _ _;trivial
  | cons t r ih=>
   rintro N ⟨a,b,g1,g2,g3⟩ ho
   have e:Hc1 (t :: r) k=Hc2 k t ++ Hc1 r k:=rfl
   rw[e]
   have hr:=ih g3 fun x hx=>ho x (by simp[hx])
   have ht:Fit D (a*255) (Hc2 k t):=by
    unfold Hc2
    split
    ·have hk:=Dg9 (ho t (by simp)) k
     have h5:Ak3 1 255 ((An6 t.1 k:Int):Rat):=(Ak3.int (An6 t.1 k)).mono (by omega)
     have h6:=g2.mul h5
     rw[Nat.mul_one] at h6
     exact⟨a*255,0,by omega,h6,trivial⟩
    ·trivial
   have:=ht.append hr
   rw[←Nat.add_mul] at this
   exact this.mono (Nat.mul_le_mul_right _ g1)
 have h5:=Ae5 N 255
 have h6:nl 255≤1:=Bc6 (by decide)
 exact⟨D,N*255,key h1 ho,h2,by omega,by omega⟩
theorem Hq5 (m:Mon) {k:Nat} (hk:k<3) (r:List Value):As9 (.int .u8 m.x :: .int .u8 m.y :: .int .u8 m.z :: r) (0+Int.toNat (k:Int)*1+0) [.int .u8 (An6 m k)]:=by
 rcases(by omega:k=0∨k=1∨k=2) with rfl | rfl | rfl<;>exact⟨by simp,rfl⟩
theorem Hl0 {W0:PW} {M:Nat→Prop} {s:Sl} {p:List Tm} {i:Int} {l:Nat} (h:Ab0 284 165 W0 s p) (hB:Bd l p) (hl:l≤268435456) (hp:p.length≤1073741824):
  Aa0 Tryz.prog 128 [.agg ⟨[s.v]⟩,.int .i64 i] W0 M fun v W'=>∃(s':Sl),v = .agg ⟨[Sl.v s']⟩∧Ab0 284 165 W' s' (Hc3 p i):=by
 apply Hh0
 have hn:=h.n
 refine⟨fun h0 W1 _=>⟨⟨none,0,0⟩,rfl,?_⟩,fun h0=>⟨fun h3 W2 _=>⟨⟨none,0,0⟩,rfl,?_⟩,fun h3=>?_⟩⟩
 ·unfold Hc3;rw[if_neg (by omega)];exact Ab0.nil W1
 ·unfold Hc3;rw[if_neg (by omega)];exact Ab0.nil W2
 obtain⟨k,rfl⟩:=Int.eq_ofNat_of_zero_le (by omega:0≤i)
 have hk3:k<3:=by omega
 have hkr:(0:Int)≤(k:Int)∧(k:Int)<3:=⟨by omega,by omega⟩
 refine⟨fun L W=>match L with
  | [.row xs,.val (.int .i64 i)]=>∃j:Nat,i=(j:Int)∧j≤p.length∧Ext W0 W∧An5 (PT 284 W) xs (Hc1 (p.take j) k)
  | _=>False,cnL p.length,⟨0,rfl,by omega,Ext.refl _,trivial⟩,?_⟩
 rintro l5 i6 W7 ⟨j,rfl,hj,hE7,ha⟩
 have hal:=ha.len
 have hdl:=Hd4 (p.take j) k
 rw[List.length_take] at hdl
 refine⟨fun hlt=>?_,fun hge s46 W47 hE47 hO _=>?_⟩
 ·have hjl:j<p.length:=by omega
  have hP:=h.ext hE7
  obtain⟨h0',s1,b1,s2,e1,_,_,hr⟩:=hP.at (List.getElem?_eq_getElem hjl)
  have hek:=Dg9 h0' k
  have hmu:p.length-Int.toNat ((j:Int)+1)<p.length-Int.toNat (j:Int):=by omega
  have hbx:=Hq5 p[j].1 hk3 [s1.v,.bool b1,s2.v]
  have hw:IntKind.wrap .u8 (An6 p[j].1 k-1)=An6 p[j].1 k-1∨¬0<An6 p[j].1 k:=by
   by_cases h:0<An6 p[j].1 k
   ·exact .inl (Du1 (by omega) (by omega))
   ·exact .inr h
  refine⟨hP.inB (by omega) (by omega),_,_,_,s1,b1,s2,e1,hkr,_,hbx,fun hpos=>⟨hkr,_,hbx,hkr,by omega,⟨⟨trivial,fun e=>?_⟩,fun e=>?_⟩,fun e=>?_⟩,fun hz=>⟨by unfold I64;omega,⟨j+1,by push_cast;rfl,by omega,hE7,?_⟩,hmu⟩⟩
  case refine_4=>
   rw[Hc4 hjl]
   unfold Hc2
   rw[if_neg hz,List.append_nil]
   exact ha
  all_goals
   have hw':IntKind.wrap .u8 (An6 p[j].1 k-1)=An6 p[j].1 k-1:=hw.resolve_right (fun h=>h hpos)
   have hok:=Hl4 h0' hk3 hpos
   have hdt:Hc2 k p[j] = [(Hj5 p[j].1 k,p[j].2*((An6 p[j].1 k:Int):Rat))]:=by unfold Hc2;rw[if_pos hpos]
   have e':k=_:=e
   subst e'
   refine⟨by unfold I64;omega,Ay8 (z:=An6 p[j].1 _) (by unfold I64;omega) fun s18 b19 s20 W17 hE17 h17=>⟨s18,b19,s20,rfl,Ak9 (hr.ext hE17) h17 (hB.sz _ (List.getElem_mem hjl)) ((Ak3.int _).sz (by decide) (k:=l+1) (by rw[Ax0];omega) (Nat.le_trans (Ad1 (by omega:_≤255)) (Nat.le_trans (Bc6 (by decide:255<B^1)) (by omega)))) (by omega) (by omega) fun s23 b24 s25 W22 hE22 h22=>⟨s23,b24,s25,rfl,by simp;omega,by unfold I64;omega,⟨j+1,by push_cast;rfl,by omega,hE7.trans (hE17.trans hE22),?_⟩,hmu⟩⟩⟩
   rw[Hc4 hjl,hdt]
   refine(ha.mono fun _ _ h=>h.ext (hE17.trans hE22)).snoc ⟨hok,s23,b24,s25,?_,h22⟩
   rw[hw']
   rfl
 ·have:j=p.length:=by omega
  subst this
  rw[List.take_length] at ha
  have hdl:=Hd4 p k
  refine An2 (Bf5 hO.row (ha.mono fun _ _ h=>h.ext hE47)) (Hg5 hB h.ok k) (by omega) (by omega) fun s' W49 hE49 hp'=>⟨s',rfl,fun W51 hE51=>⟨s',rfl,?_⟩⟩
  unfold Hc3
  rw[if_pos hkr]
  exact hp'.ext hE51
theorem Hg6 {W0 W:PW} {M:Nat→Prop} {s:Sl} {p:List Tm} {i:Int} {l:Nat} {K:Value→PW→Prop} (h:Ab0 284 165 W s p) (hB:Bd l p) (hl:l≤268435456) (hp:p.length≤1073741824) (kont: ∀(s':Sl) (W':PW),Ext W W'→(Ab0 284 165 W' s' (Hc3 p i))→K (.agg ⟨[Sl.v s']⟩) W'):
  Aa1 Tryz.prog W0 M 128 [.agg ⟨[s.v]⟩,.int .i64 i] W K:=
 Aa2 (fun W' hE=>Hl0 (M:=fun _=>False) (h.ext hE) hB hl hp) (fun W' v W'' hE hE' hP=>by
  obtain⟨s',rfl,h⟩:=hP
  exact kont s' W'' (hE.trans hE') h)
theorem Hg1 {l:Nat} {p:List Tm} (h:Bd l p) (ho:POk p) (i:Int):Bd (l+1) (Hc3 p i):=by
 unfold Hc3
 split
 ·exact(Hg5 h ho _).norm
 ·obtain⟨D,N,h1,h2,h3,h4⟩:=h
  exact⟨1,0,trivial,by decide,by rw[Ax0];omega,by rw[Ag9];omega⟩
theorem Hj1 (p:List Tm) (i:Int):(Hc3 p i).length≤p.length:=by
 unfold Hc3
 split
 ·exact Nat.le_trans (El2 _) (Hd4 p _)
 ·simp
theorem Hp7 {p:List Tm} (h:POk p) {k:Nat} (hk:k<3):POk (Hc1 p k):=fun t ht=>by
 obtain⟨u,hu,hm⟩:=List.mem_flatMap.1 ht
 unfold Hc2 at hm
 split at hm
 ·rename_i hp
  simp only[List.mem_singleton] at hm
  subst hm
  exact Hl4 (h u hu) hk hp
 ·simp at hm
theorem Hh5 {p:List Tm} (h:POk p) (i:Int):POk (Hc3 p i):=by
 unfold Hc3
 split
 ·exact POk.norm (Hp7 h (by omega))
 ·intro t ht;simp at ht
end Go.Proofs.YtjkkidjbppphpaaGreatDoor
