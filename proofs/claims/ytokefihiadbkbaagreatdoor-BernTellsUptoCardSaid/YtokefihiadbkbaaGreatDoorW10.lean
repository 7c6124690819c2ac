/- bound.Over, cinctureref1.Over. -/
import Derived.Test.YtokefihiadbkbaaGreatDoorW9
import Derived.Test.YtokefihiadbkbaaGreatDoorW8
import Derived.Test.YtokefihiadbkbaaGreatDoorR14
import Derived.Test.YtokefihiadbkbaaGreatDoorLib4
import Derived.Test.YtokefihiadbkbaaGreatDoorW2
import Derived.Test.YtokefihiadbkbaaGreatDoorW6
import Derived.Test.YtokefihiadbkbaaGreatDoorW7
import Derived.Test.YtokefihiadbkbaaGreatDoorR11
import Derived.Test.YtokefihiadbkbaaGreatDoorLib5
import Derived.Test.YtokefihiadbkbaaGreatDoorR16
set_option linter.unusedVariables false
set_option linter.unusedSimpArgs false
set_option maxRecDepth 100000
namespace Go.Proofs.YtokefihiadbkbaaGreatDoor
open Go Go.SX
end Go.Proofs.YtokefihiadbkbaaGreatDoor
/- box.Right, gram.side, gram.Sum, and the reference's. -/
namespace Go.Proofs.YtokefihiadbkbaaGreatDoor
open Go Go.SX
def brI (W0:PW) (bs:List Iv) (L:List PL) (W:PW):Prop:=match L with
 | [.val (.int .i64 i)]=>∃j:Nat,i=(j:Int)∧j≤bs.length∧Ext W0 W∧∀x∈bs.take j,x.1<x.2
 | _=>False
theorem Ey3 {bs:List Iv} {j:Nat} (hj:j<bs.length) (h: ∀x∈bs.take j,x.1<x.2) (h2:bs[j].1<bs[j].2): ∀x∈bs.take (j+1),x.1<x.2:=fun x hx=>by
 rw[List.take_succ_eq_append_getElem hj,List.mem_append,List.mem_singleton] at hx
 rcases hx with hx | rfl
 ·exact h x hx
 ·exact h2
theorem Dk1 {W0:PW} {M:Nat→Prop} {s:Sl} {bs:List Iv} {k:Nat} (h:Bc3 231 W0 s bs) (hk: ∀x∈bs,IvS k x) (hk2:k≤1048576) (hl:bs.length≤1048576):
  Aa0 Tryz.prog 108 [s.v] W0 M fun v W'=>v = .bool (decide (Cn7 bs))∧True:=by
 apply Ck4
 have hn:=h.n
 refine⟨brI W0 bs,cn1 bs.length,⟨0,rfl,Nat.zero_le _,Ext.refl _,fun x hx=>(by cases hx)⟩,?_⟩
 rintro i3 W4 ⟨j,rfl,hj,hE4,hall⟩
 have h4:=Bc3.ext h hE4
 refine⟨fun hlt=>?_,fun hge=>?_⟩
 ·have hjl:j<bs.length:=by omega
  obtain⟨x,hx,hel⟩:=h4.at hjl
  obtain⟨s5,b6,s7,s8,b9,s10,rfl,q1,q2⟩:=hx
  have hz:=hk _ (List.getElem_mem hjl)
  refine⟨h4.inB (by omega) (by omega),s5,b6,s7,s8,b9,s10,hel 0 rfl,Aj2 q1 q2 hz.1 hz.2 (by omega) (by omega) fun W12 hE12 _=>⟨_,rfl,fun h0 W14 _=>⟨?_,trivial⟩,fun h0=>⟨by unfold I64;omega,⟨j+1,by push_cast;rfl,by omega,hE4.trans hE12,Ey3 hjl hall (At6.1 (by omega))⟩,?_⟩⟩⟩
  ·rw[decide_eq_false fun e=>Rat.not_lt.2 (El9.1 h0) (e.2 _ (List.getElem_mem hjl))]
  ·show bs.length-Int.toNat ((j:Int)+1)<bs.length-Int.toNat (j:Int)
   omega
 ·have:j=bs.length:=by omega
  subst this
  rw[List.take_length] at hall
  refine⟨fun h1 W15 _=>⟨?_,trivial⟩,fun h1 W16 _=>⟨?_,trivial⟩⟩
  ·congr 1
   rw[decide_eq_decide]
   exact⟨fun h=>⟨⟨by omega,by omega⟩,hall⟩,fun h=>by have:=h.1.2;omega⟩
  ·rw[decide_eq_false fun e=>by have:=e.1.1;omega]
theorem Cm2 {W0 W:PW} {M:Nat→Prop} {s:Sl} {bs:List Iv} {k:Nat} {K:Value→PW→Prop} (h:Bc3 231 W s bs) (hk: ∀x∈bs,IvS k x) (hk2:k≤1048576) (hl:bs.length≤1048576) (kont: ∀(W':PW),Ext W W'→(True)→K (.bool (decide (Cn7 bs))) W'):
  Aa1 Tryz.prog W0 M 108 [s.v] W K:=
 Aa2 (fun W' hE=>Dk1 (M:=fun _=>False) (h.ext hE) hk hk2 hl) (fun W' v W'' hE hE' hP=>by
  obtain⟨rfl,h⟩:=hP
  exact kont W'' (hE.trans hE') h)
theorem Hf7 {W0:PW} {M:Nat→Prop} {s:Sl} {bs:List Iv} {k:Nat} (h:Fx4 231 W0 s bs) (hk: ∀x∈bs,IvS k x) (hk2:k≤1048576) (hl:bs.length≤1048576):
  Aa0 Tryz.prog 149 [s.v] W0 M fun v W'=>v = .bool (decide (Cn7 bs))∧True:=by
 apply Hd6
 have hn:=h.n
 refine⟨fun h1 W1 _=>⟨by rw[decide_eq_false fun e=>by have:=e.1.1;omega],trivial⟩,fun h1=>⟨fun h3 W2 _=>⟨by rw[decide_eq_false fun e=>by have:=e.1.2;omega],trivial⟩,fun h3=>?_⟩⟩
 refine⟨brI W0 bs,cn1 bs.length,⟨0,rfl,Nat.zero_le _,Ext.refl _,fun x hx=>(by cases hx)⟩,?_⟩
 rintro i3 W4 ⟨j,rfl,hj,hE4,hall⟩
 have h4:=Fx4.ext h hE4
 refine⟨fun hlt=>?_,fun hge W17 _=>⟨?_,trivial⟩⟩
 ·have hjl:j<bs.length:=by omega
  obtain⟨x,hx,hel⟩:=h4.at hjl
  obtain⟨b7,s8,s9,b10,s11,s12,rfl,q1,q2⟩:=hx
  have hz:=hk _ (List.getElem_mem hjl)
  have hib:=h4.inB (i:=(j:Int)) (by omega) (by omega)
  refine⟨hib,b7,s8,s9,hel 0 rfl,hib,b10,s11,s12,hel 3 rfl,Ar1 q1 q2 hz.1 hz.2 (by omega) (by omega) fun W12 hE12 _=>⟨_,rfl,fun h0 W14 _=>⟨?_,trivial⟩,fun h0=>⟨by unfold I64;omega,⟨j+1,by push_cast;rfl,by omega,hE4.trans hE12,Ey3 hjl hall (At6.1 (by omega))⟩,?_⟩⟩⟩
  ·rw[decide_eq_false fun e=>Rat.not_lt.2 (El9.1 h0) (e.2 _ (List.getElem_mem hjl))]
  ·show bs.length-Int.toNat ((j:Int)+1)<bs.length-Int.toNat (j:Int)
   omega
 ·have:j=bs.length:=by omega
  subst this
  rw[List.take_length] at hall
  rw[decide_eq_true ⟨⟨by omega,by omega⟩,hall⟩]
theorem He1 {W0 W:PW} {M:Nat→Prop} {s:Sl} {bs:List Iv} {k:Nat} {K:Value→PW→Prop} (h:Fx4 231 W s bs) (hk: ∀x∈bs,IvS k x) (hk2:k≤1048576) (hl:bs.length≤1048576) (kont: ∀(W':PW),Ext W W'→(True)→K (.bool (decide (Cn7 bs))) W'):
  Aa1 Tryz.prog W0 M 149 [s.v] W K:=
 Aa2 (fun W' hE=>Hf7 (M:=fun _=>False) (h.ext hE) hk hk2 hl) (fun W' v W'' hE hE' hP=>by
  obtain⟨rfl,h⟩:=hP
  exact kont W'' (hE.trans hE') h)
def Fj5 (l:List SqP) (bs:List Iv):Prop:=Cn7 bs∧∀s∈l,0≤s.g∧s.g≤(bs.length:Int)
instance (l:List SqP) (bs:List Iv):Decidable (Fj5 l bs):=by unfold Fj5;infer_instance
end Go.Proofs.YtokefihiadbkbaaGreatDoor
/- poly.Diff, cinctureref1.Diff; cincturelaw8.PolyDiffs. -/
namespace Go.Proofs.YtokefihiadbkbaaGreatDoor
open Go Go.SX
theorem Hq5 (m:Mon) {k:Nat} (hk:k<3) (r:List Value):As9 (.int .u8 m.x :: .int .u8 m.y :: .int .u8 m.z :: r) (0+Int.toNat (k:Int)*1+0) [.int .u8 (An6 m k)]:=by
 rcases(by omega:k=0∨k=1∨k=2) with rfl | rfl | rfl<;>exact⟨by simp,rfl⟩
end Go.Proofs.YtokefihiadbkbaaGreatDoor
/- slices.Backward of bytes; mono.Vars. -/
namespace Go.Proofs.YtokefihiadbkbaaGreatDoor
open Go Go.SX Go.RowKit Go.Shelf
attribute [local go_sem] Oper.semAt_some
def Fk6 (Bs:Nat) (v:Value) (b off:Nat) (zs:List Nat) (pre:List (Nat×Nat)) (W:World):Prop:=W.cell? ⟨Bs,0,none⟩=some v∧∀j,j<zs.length-pre.length→W.cell? ⟨b,off+j,none⟩=some (.int .u8 ((zs[j]?.getD 0:Nat):Int))
def Cy9 (x:Nat×Nat):Array Value:=#[.int .i64 (x.1:Int),.int .u8 (x.2:Int)]
set_option maxRecDepth 100000 in
set_option maxHeartbeats 2000000 in
theorem Ee1 (n:Nat) (hn:1≤n) (Bs b off cap:Nat) (zs:List Nat) (hreach:zs.length≤1099511627776):
  Bv9 Fence.wide n Tryz.prog 190 #[.pointer (some ⟨Bs,0,none⟩)] Cy9 (Fk6 Bs (.slice (some ⟨b,off,none⟩) zs.length cap) b off zs) (Fi6 zs) (fun xs=>xs=bks zs zs.length) (fun pre=>∃k,k<zs.length∧pre=bks zs (k+1)):=by
 intro l J Jx W hJ hY h0
 refine callsIn_of_wp Tryz.func190 rfl trivial ?_ rfl
 simp only[Tryz.ntmps190,List.size_toArray,List.length_cons,List.length_nil,Nat.reduceAdd,Nat.reduceSub,Array.replicate_succ,Array.replicate_zero,List.push_toArray,List.append_toArray,List.nil_append,List.cons_append]
 have hbox:W.cell? ⟨Bs,0,none⟩=some (.slice (some ⟨b,off,none⟩) zs.length cap):=(hJ _ _ h0).1
 gi_wp2
 gi_loopw [3,7,8,9,10,11,12,13,14,15,16,17,18] (fun i _ _ _ _ _ _ _ _ _ _ _ _ wr=>∃m:Nat,m≤zs.length∧i = .int .i64 ((m:Int)-1)∧J (bks zs (zs.length-m)) wr)
  (fun i _ _ _ _ _ _ _ _ _ _ _ _ _=>(intOf i+1).toNat)
 case atStart=>exact⟨zs.length,Nat.le_refl _,rfl,by simpa[bks] using h0⟩
 case round=>
  obtain⟨m,hm,rfl,hJs⟩:=hrel
  obtain⟨hbx,hmem⟩:=hJ _ _ hJs
  cases m with
  | zero=>
   gi_wp2
   go_end0
   exact⟨⟨_,rfl⟩,.inl ⟨_,rfl,by simpa using hJs⟩⟩
  | succ k=>
   have hk:k<zs.length:=by omega
   have hcx:wr.cell? ⟨b,off+k,none⟩=some (.int .u8 ((zs[k]?.getD 0:Nat):Int)):=hmem k (by rw[Ah8];omega)
   have e1:((k+1:Nat):Int)-1=(k:Int):=by omega
   have hx:bk zs (zs.length-(k+1))=(k,zs[k]?.getD 0):=by simp only[bk];rw[show zs.length-1-(zs.length-(k+1))=k by omega]
   obtain⟨fn,tmps,assign,body,hy,hR⟩:=hY _ (bk zs (zs.length-(k+1))) wr hJs ⟨by rw[Ah8];omega,by rw[Ah8],by rw[Ah8]⟩
   obtain⟨d,hd⟩: ∃d,zs[k]?.getD 0=d:=⟨_,rfl⟩
   rw[hd] at hcx hx
   rw[hx] at hy hR
   rw[e1]
   dsimp only[Cy9] at hy
   have hpre:bks zs (zs.length-(k+1)) ++ [(k,d)]=bks zs (zs.length-(k+1)+1):=by rw[Bo8,hx]
   gi_wp2
   refine hR.mono ?_
   rintro e W3 (⟨rfl,hJ3⟩ | ⟨rfl,hJx3⟩)
   ·rw[hpre,show zs.length-(k+1)+1=zs.length-k by omega] at hJ3
    gi_wp2
    go_roundw
    case rel=>exact⟨k,by omega,rfl,hJ3⟩
    case measure=>simp[intOf]
   ·rw[hpre] at hJx3
    gi_wp2
    refine bodyPost_ret (results_none rfl _ _ _) rfl ?_
    exact⟨⟨_,rfl⟩,.inr ⟨_,⟨_,by omega,rfl⟩,hJx3⟩⟩
set_option maxRecDepth 100000 in
set_option maxHeartbeats 2000000 in
theorem Cm4 (n:Nat) (hn:1≤n) (Bs:Nat) (A:Option Addr) (cap:Nat) (Mem:List (Nat×Nat)→World→Prop) (hMem: ∀pre W,Mem pre W→W.cell? ⟨Bs,0,none⟩=some (.slice A 0 cap)):
  Bv9 Fence.wide n Tryz.prog 190 #[.pointer (some ⟨Bs,0,none⟩)] Cy9 Mem (Fi6 []) (fun xs=>xs=bks [] 0) (fun pre=>∃k,k<0∧pre=bks [] (k+1)):=by
 intro l J Jx W hJ hY h0
 refine callsIn_of_wp Tryz.func190 rfl trivial ?_ rfl
 simp only[Tryz.ntmps190,List.size_toArray,List.length_cons,List.length_nil,Nat.reduceAdd,Nat.reduceSub,Array.replicate_succ,Array.replicate_zero,List.push_toArray,List.append_toArray,List.nil_append,List.cons_append]
 have hbox:W.cell? ⟨Bs,0,none⟩=some (.slice A 0 cap):=hMem _ _ (hJ _ _ h0)
 gi_wp2
 gi_loopw [3,7,8] (fun i _ _ wr=>i = .int .i64 (-1)∧J [] wr) (fun _ _ _ _=>0)
 case atStart=>exact⟨by simp,h0⟩
 case round=>
  obtain⟨rfl,hJs⟩:=hrel
  gi_wp2
  go_end0
  exact⟨⟨_,rfl⟩,.inl ⟨_,rfl,hJs⟩⟩
def Fw0 (Bs:Nat) (A:Option Addr) (cap:Nat) (zs:List Nat) (pre:List (Nat×Nat)) (W:World):Prop:=W.cell? ⟨Bs,0,none⟩=some (.slice A zs.length cap)∧∀b off,A=some ⟨b,off,none⟩→∀j,j<zs.length-pre.length→W.cell? ⟨b,off+j,none⟩=some (.int .u8 ((zs[j]?.getD 0:Nat):Int))
theorem Fb7 (n:Nat) (hn:1≤n) (Bs:Nat) (A:Option Addr) (cap:Nat) (zs:List Nat) (hreach:zs.length≤1099511627776) (hA:zs = []∨∃b off,A=some ⟨b,off,none⟩):
  Bv9 Fence.wide n Tryz.prog 190 #[.pointer (some ⟨Bs,0,none⟩)] Cy9 (Fw0 Bs A cap zs) (Fi6 zs) (fun xs=>xs=bks zs zs.length) (fun pre=>∃k,k<zs.length∧pre=bks zs (k+1)):=by
 rcases hA with rfl | ⟨b,off,rfl⟩
 ·exact Cm4 n hn Bs A cap _ fun pre W h=>h.1
 ·intro l J Jx W hJ hY h0
  exact Ee1 n hn Bs b off cap zs hreach l J Jx W (fun pre W' h=>⟨(hJ pre W' h).1,(hJ pre W' h).2 b off rfl⟩) hY h0
set_option maxHeartbeats 1000000 in
theorem Cz7 (n:Nat) (a:Option Addr) (len cap:Nat) (w:World):
  CallsIn Fence.wide n Tryz.prog 136 #[.slice a len cap] w fun e w'=>e = .returned (.func (.func 190) #[] #[.pointer (some ⟨w.heap.size,0,none⟩)])∧w'=w.alloc (.cells #[.slice a len cap] 222):=by
 refine callsIn_of_wp Tryz.func136 rfl trivial ?_ rfl
 simp only[Tryz.ntmps136,List.size_toArray,List.length_cons,List.length_nil,Nat.reduceAdd,Nat.reduceSub,Array.replicate_succ,Array.replicate_zero,List.push_toArray,List.append_toArray,List.nil_append,List.cons_append]
 gi_wp2
 go_ret
 exact⟨rfl,rfl⟩
def Dn7 (zs:List Nat):Nat:=if 0<zs[2]?.getD 0 then 3 else if 0<zs[1]?.getD 0 then 2 else if 0<zs[0]?.getD 0 then 1 else 0
set_option maxRecDepth 100000 in
set_option maxHeartbeats 4000000 in
theorem Ff2 (n:Nat) (hn:3≤n) (x y z:Nat) (w:World):
  CallsIn Fence.wide n Tryz.prog 61 #[.agg #[.int .u8 (x:Int),.int .u8 (y:Int),.int .u8 (z:Int)]] w fun e W'=>e = .returned (.int .i64 (Dn7 [x,y,z]:Nat))∧An0 w W':=by
 refine callsIn_of_wp_marks Tryz.func61 rfl trivial ?_ rfl
 simp only[Tryz.ntmps61,List.size_toArray,List.length_cons,List.length_nil,Nat.reduceAdd,Nat.reduceSub,Array.replicate_succ,Array.replicate_zero,List.push_toArray,List.append_toArray,List.nil_append,List.cons_append]
 gi_wp2
 refine⟨trivial,fun _=>by omega,(Cz7 (n-1) _ _ _ _).mono ?_⟩
 rintro e w' ⟨rfl,rfl⟩
 gi_wp2
 obtain⟨W4,hW4⟩: ∃W4,(((w.alloc (.cells #[.int .u8 (x:Int),.int .u8 (y:Int),.int .u8 (z:Int)] 136)).alloc (.cells #[.int .i64 0] 3)).alloc (.cells #[.slice (some ⟨w.heap.size,0,none⟩) 3 3] 222))=W4:=⟨_,rfl⟩
 have hsz:W4.heap.size=w.heap.size+1+1+1:=by rw[←hW4];simp
 have hB4:An0 w W4:=by rw[←hW4];exact⟨((((Below.refl _ w).alloc (Nat.le_refl _) _).alloc (by simp) _).alloc (by simp;omega) _),Nat.le_refl _⟩
 have bL:Boxed W4 (w.heap.size+1+1) 222 (.slice (some ⟨w.heap.size,0,none⟩) 3 3):=by
  rw[←hW4]
  have:=Boxed.new ((w.alloc (.cells #[.int .u8 (x:Int),.int .u8 (y:Int),.int .u8 (z:Int)] 136)).alloc (.cells #[.int .i64 0] 3)) 222 (.slice (some ⟨w.heap.size,0,none⟩) 3 3)
  simpa using this
 have bR:Boxed W4 (w.heap.size+1) 3 (.int .i64 0):=by
  rw[←hW4]
  have:=Boxed.new (w.alloc (.cells #[.int .u8 (x:Int),.int .u8 (y:Int),.int .u8 (z:Int)] 136)) 3 (.int .i64 0)
  simpa using this.alloc (.cells #[.slice (some ⟨w.heap.size,0,none⟩) 3 3] 222)
 have hX0:W4.heap[w.heap.size]?=some (.cells #[.int .u8 (x:Int),.int .u8 (y:Int),.int .u8 (z:Int)] 136):=by
  rw[←hW4]
  rw[Below.heap_alloc _ _ _ (by simp;omega),Below.heap_alloc _ _ _ (by simp)]
  exact World.alloc_heap_new w _
 have hX: ∀j,j<3→W4.cell? ⟨w.heap.size,0+j,none⟩=some (.int .u8 ((([x,y,z]:List Nat)[j]?.getD 0:Nat):Int)):=fun j hj=>by
  simp only[World.cell?,hX0]
  rcases(by omega:j=0∨j=1∨j=2) with rfl | rfl | rfl<;>rfl
 rw[hW4]
 refine As7 (α:=Nat×Nat) (n:=n) rfl (by omega) (gf:=190) (lb:=#[.pointer (some ⟨w.heap.size+1+1,0,none⟩)]) rfl trivial (enters_of Tryz.func190 (by kernel_rfl) rfl)
  (Fb7 (n-1) (by omega) (w.heap.size+1+1) (some ⟨w.heap.size,0,none⟩) 3 [x,y,z] (by simp) (.inr ⟨_,_,rfl⟩)) (fun _=>rfl)
  (fun pre W=>((∀p∈pre,p.2=0)∧W.cell? ⟨w.heap.size+1,0,none⟩=some (.int .i64 0)∧W.frozen? ⟨w.heap.size+1,0,none⟩=false∧(∀j,j<3→W.cell? ⟨w.heap.size,0+j,none⟩=some (.int .u8 ((([x,y,z]:List Nat)[j]?.getD 0:Nat):Int)))∧W.cell? ⟨w.heap.size+1+1,0,none⟩=some (.slice (some ⟨w.heap.size,0,none⟩) 3 3))∧An0 w W)
  (fun c pre W=>(c = .ret∧∃ini last,pre=ini ++ [last]∧(∀p∈ini,p.2=0)∧0<last.2∧W.cell? ⟨w.heap.size+1,0,none⟩=some (.int .i64 ((last.1:Int)+1)))∧An0 w W)
  ?_ ?_ ?_ ?_
  (fun v=>{tmps:=#[.agg #[.int .u8 (x:Int),.int .u8 (y:Int),.int .u8 (z:Int)],.pointer (some ⟨w.heap.size,0,none⟩),.pointer (some ⟨w.heap.size+1,0,none⟩),.int .i64 (v.1:Int),.int .u8 (v.2:Int),.slice (some ⟨w.heap.size,0,none⟩) 3 3,
    .func (.func 190) #[] #[.pointer (some ⟨w.heap.size+1+1,0,none⟩)],.int .i64 (v.1:Int),.int .u8 (v.2:Int),undef,undef,undef,undef],defers:=[] }) ?assign ?body ?done ?stop
 case assign=>
  intro l p W K hK
  simp only[Cy9]
  gi_wp2
  exact hK
 case body=>
  rintro l pre p W ⟨⟨hp,hcr,hfr,hcy,hcl⟩,hB⟩ ⟨hlen,hpre,hpx⟩
  have hi:p.1<3:=by rw[hpx];simp only[bk];simp;omega
  obtain⟨i,v⟩:=p
  dsimp only at *
  gi_wp2
  ·have hlt:0<v:=by first | assumption | omega
   exact⟨(KeepsOthers.setCell _ _ _).from _,⟨rfl,pre,(i,v),rfl,hp,hlt,World.cell?_setCell_same' _ _ _ (by rw[hcr];rfl)⟩,hB.setCell (p:=⟨w.heap.size+1,0,none⟩) (by show w.heap.size≤w.heap.size+1;omega) _⟩
  ·have h0:v=0:=by omega
   refine⟨KeepsFrom.refl _ _,trivial,⟨fun p hp'=>?_,hcr,hfr,hcy,hcl⟩,hB⟩
   rcases List.mem_append.1 hp' with h | h
   ·exact hp p h
   ·simp at h;subst h;exact h0
 case done=>
  rintro D ps W hD rfl ⟨⟨hne,hcr,hfr,hcy,hcl⟩,hB⟩ hK
  gi_wp2
  have hK':=(KeepsOthers.setCell W ⟨w.heap.size+1,0,none⟩ (.int .i64 0)).same D _ hK rfl
  refine⟨by simp,.inl ⟨_,_,rfl,run_takeDeferred hK',?_⟩⟩
  have hc5:=cell_kept (World.cell?_setCell_same' W ⟨w.heap.size+1,0,none⟩ (.int .i64 0) (by rw[hcr];rfl)) (grownBy_putObj' _ D (.deferred none)) (fun r e=>by cases e;exact⟨_,hK',rfl⟩)
  refine⟨.int .i64 0,?_,?_,(hB.setCell (p:=⟨w.heap.size+1,0,none⟩) (by show w.heap.size≤w.heap.size+1;omega) _).put (by omega) hK' rfl rfl⟩
  ·simp[results,Tryz.f61,go_sem,hc5]
  ·have hz: ∀k,k<3→([x,y,z]:List Nat)[3-1-k]?.getD 0=0:=fun k hk=>hne (bk [x,y,z] k) (List.mem_map.2 ⟨k,List.mem_range.2 (by simpa using hk),rfl⟩)
   have h0:=hz 0 (by omega)
   have h1:=hz 1 (by omega)
   have h2:=hz 2 (by omega)
   simp at h0 h1 h2
   simp[Dn7,h0,h1,h2]
 case stop=>
  rintro D c pre W hD ⟨k,hk,rfl⟩ ⟨⟨rfl,ini,last,e1,e2,e3,hcr⟩,hB⟩ hK
  gi_wp2
  refine⟨by simp,.inl ⟨_,_,rfl,run_takeDeferred hK,?_⟩⟩
  rw[Bo8] at e1
  obtain⟨rfl,e5⟩:=List.append_inj' e1 rfl
  have e6:last=bk [x,y,z] k:=by simpa using e5.symm
  subst e6
  have hBD:=hB.put (o':=.deferred none) (by omega) hK rfl rfl
  have hc5:=cell_kept hcr (grownBy_putObj' _ D (.deferred none)) (fun r e=>by cases e;exact⟨_,hK,rfl⟩)
  have hz: ∀j,j<k→([x,y,z]:List Nat)[3-1-j]?.getD 0=0:=fun j hj=>e2 (bk [x,y,z] j) (List.mem_map.2 ⟨j,List.mem_range.2 hj,rfl⟩)
  refine⟨.int .i64 (((bk [x,y,z] k).1:Int)+1),by simp[results,Tryz.f61,go_sem,hc5],?_,hBD⟩
  have hk3:k<3:=by simpa using hk
  rcases(by omega:k=0∨k=1∨k=2) with rfl | rfl | rfl
  ·have e3:0<z:=e3
   simp[Dn7,bk,e3]
  ·have h0:=hz 0 (by omega)
   have e3:0<y:=e3
   simp at h0
   simp[Dn7,bk,e3,h0]
  ·have h0:=hz 0 (by omega)
   have h1:=hz 1 (by omega)
   have e3:0<x:=e3
   simp at h0 h1
   simp[Dn7,bk,e3,h0,h1]
 ·exact Af7.and (Own.Ey9 (fun s A B row hs hg hr=>⟨hs.1,cell_kept hs.2.1 hg hr,(frozen_kept hs.2.1 hg hr).trans hs.2.2.1,fun j hj=>cell_kept (hs.2.2.2.1 j hj) hg hr,cell_kept hs.2.2.2.2 hg hr⟩) _) (Am0 (by omega))
 ·exact fun c=>Af7.and (Own.Ey9 (fun s A B row hs hg hr=>by
   obtain⟨hc,ini,last,e1,e2,e3,e4⟩:=hs
   exact⟨hc,ini,last,e1,e2,e3,cell_kept e4 hg hr⟩) _) (Am0 (by omega))
 ·rintro pre W ⟨⟨_,_,_,hcy,hcl⟩,hB⟩
  refine⟨hcl,fun b off hA j hj=>?_⟩
  cases hA
  exact hcy j (by simp at hj;omega)
 ·exact⟨⟨by simp,bR.cell,bR.frozen,hX,bL.cell⟩,hB4⟩
def Cx8 (m:Mon):Int:=if 0<m.z then 3 else if 0<m.y then 2 else if 0<m.x then 1 else 0
theorem Dj6 {W0:PW} {M:Nat→Prop} {m:Mon} (hm:m.ok):
  Aa0 Tryz.prog 61 [.agg ⟨[.int .u8 m.x,.int .u8 m.y,.int .u8 m.z]⟩] W0 M fun v W'=>v = .int .i64 (Cx8 m)∧True:=by
 refine⟨⟨_,Tryz.func61,rfl,rfl⟩,fun _=>?_⟩
 obtain⟨⟨x0,_⟩,⟨y0,_⟩,z0,_⟩:=hm
 obtain⟨mx,my,mz⟩:=m
 obtain⟨x,rfl⟩:=Int.eq_ofNat_of_zero_le x0
 obtain⟨y,rfl⟩:=Int.eq_ofNat_of_zero_le y0
 obtain⟨z,rfl⟩:=Int.eq_ofNat_of_zero_le z0
 have:=callsIn_wide.1 (Ff2 5 (by omega) x y z W0.w)
 have e:((Dn7 [x,y,z]:Nat):Int)=Cx8 ⟨x,y,z⟩:=by
  simp only[Dn7,Cx8]
  show((if 0<z then 3 else if 0<y then 2 else if 0<x then 1 else 0:Nat):Int)=_
  (repeat' split)<;>omega
 rw[e] at this
 exact Calls.mono this fun e w' ⟨he,hB⟩=>⟨_,he,Bd7 hB,rfl,trivial⟩
theorem Cj8 {W0 W:PW} {M:Nat→Prop} {m:Mon} {K:Value→PW→Prop} (hm:m.ok) (kont: ∀(W':PW),Ext W W'→(True)→K (.int .i64 (Cx8 m)) W'):
  Aa1 Tryz.prog W0 M 61 [.agg ⟨[.int .u8 m.x,.int .u8 m.y,.int .u8 m.z]⟩] W K:=
 Aa2 (fun W' hE=>Dj6 (M:=fun _=>False) hm) (fun W' v W'' hE hE' hP=>by
  obtain⟨rfl,h⟩:=hP
  exact kont W'' (hE.trans hE') h)
end Go.Proofs.YtokefihiadbkbaaGreatDoor
/- poly.Degree, poly.Top. -/
namespace Go.Proofs.YtokefihiadbkbaaGreatDoor
open Go Go.SX
def Fv8 (i:Int) (m:Mon):Int:=if 0≤i∧i<3 then An6 m i.toNat else 0
def Fw5 (W0:PW) (p:List Tm) (i:Int) (L:List PL) (W:PW):Prop:=match L with
 | [.val (.int .i64 a),.val (.int .i64 k)]=>∃j:Nat,k=(j:Int)∧j≤p.length∧Ext W0 W∧a=Fd0 (Fv8 i) 0 (p.take j)
 | _=>False
def Fv5 (p:List Tm) (L:List PL) (_:PW):Nat:=match L with
 | [_,.val (.int .i64 k)]=>p.length-k.toNat
 | _=>0
theorem Iu5 {W0:PW} {M:Nat→Prop} {s:Sl} {p:List Tm} {i:Int} (h:Ab0 231 138 W0 s p) (hl:p.length≤1099511627776):
  Aa0 Tryz.prog 30 [.agg ⟨[s.v]⟩,.int .i64 i] W0 M fun v W'=>v = .int .i64 (Fd0 (Fv8 i) 0 p)∧True:=by
 apply Io0
 have hn:=h.n
 refine⟨Fw5 W0 p i,Fv5 p,⟨0,rfl,by omega,Ext.refl _,rfl⟩,?_⟩
 rintro i3 i4 W5 ⟨j,rfl,hj,hE,rfl⟩
 refine⟨fun hlt=>?_,fun hge W13 _=>⟨?_,trivial⟩⟩
 ·have hjl:j<p.length:=by omega
  have hP:=h.ext hE
  obtain⟨k0,c1,d1,c2,e1,_,_,hr⟩:=hP.at (List.getElem?_eq_getElem hjl)
  have hmu:p.length-Int.toNat ((j:Int)+1)<p.length-Int.toNat (j:Int):=by omega
  have next: ∀z,z=Fv8 i p[j].1→stp (Fw5 W0 p i) (Fv5 p) [.val (.int .i64 (mx (Fd0 (Fv8 i) 0 (p.take j)) z)),.val (.int .i64 ((j:Int)+1))] W5 [.val (.int .i64 (Fd0 (Fv8 i) 0 (p.take j))),.val (.int .i64 (j:Int))] W5:=by
   rintro z rfl
   exact⟨⟨j+1,by push_cast;rfl,by omega,hE,by rw[Ce0 hjl,Em4]⟩,hmu⟩
  have h0:=(Hv3 (w:=Fv8 i) (n:=0) (p:=p.take j)).1
  have same:Fv8 i p[j].1=0→stp (Fw5 W0 p i) (Fv5 p) [.val (.int .i64 (Fd0 (Fv8 i) 0 (p.take j))),.val (.int .i64 ((j:Int)+1))] W5 [.val (.int .i64 (Fd0 (Fv8 i) 0 (p.take j))),.val (.int .i64 (j:Int))] W5:=fun e=>by
   have:=next 0 e.symm
   rwa [show mx (Fd0 (Fv8 i) 0 (p.take j)) 0=Fd0 (Fv8 i) 0 (p.take j) by unfold mx;rw[if_neg (by omega)]] at this
  have hI:I64 ((j:Int)+1):=by unfold I64;omega
  refine⟨hP.inB (by omega) (by omega),_,_,_,c1,d1,c2,e1,fun hi0=>⟨fun hi3=>?_,fun hi3=>⟨hI,same (by unfold Fv8;rw[if_neg (by omega)])⟩⟩,fun hi0=>⟨hI,same (by unfold Fv8;rw[if_neg (by omega)])⟩⟩
  obtain⟨m,rfl⟩:=Int.eq_ofNat_of_zero_le hi0
  have hm3:m<3:=by omega
  have hb:=Hq5 p[j].1 hm3 [c1.v,.bool d1,c2.v]
  have he:=Dg9 k0 m
  refine⟨⟨hi0,hi3⟩,_,hb,by unfold I64;omega,hI,next _ ?_⟩
  unfold Fv8
  rw[if_pos ⟨hi0,hi3⟩,Int.toNat_natCast]
 ·have:j=p.length:=by omega
  subst this
  rw[List.take_length]
theorem In7 {W0 W:PW} {M:Nat→Prop} {s:Sl} {p:List Tm} {i:Int} {K:Value→PW→Prop} (h:Ab0 231 138 W s p) (hl:p.length≤1099511627776) (kont: ∀(W':PW),Ext W W'→(True)→K (.int .i64 (Fd0 (Fv8 i) 0 p)) W'):
  Aa1 Tryz.prog W0 M 30 [.agg ⟨[s.v]⟩,.int .i64 i] W K:=
 Aa2 (fun W' hE=>Iu5 (M:=fun _=>False) (h.ext hE) hl) (fun W' v W'' hE hE' hP=>by
  obtain⟨rfl,h⟩:=hP
  exact kont W'' (hE.trans hE') h)
def Fw1 (W0:PW) (p:List Tm) (L:List PL) (W:PW):Prop:=match L with
 | [.val (.int .i64 a),.val (.int .i64 k)]=>∃j:Nat,k=(j:Int)∧j≤p.length∧Ext W0 W∧a=Fd0 Cx8 0 (p.take j)
 | _=>False
theorem Dd3 {W0:PW} {M:Nat→Prop} {s:Sl} {p:List Tm} (h:Ab0 231 138 W0 s p) (hl:p.length≤1099511627776):
  Aa0 Tryz.prog 14 [.agg ⟨[s.v]⟩] W0 M fun v W'=>v = .int .i64 (Fd0 Cx8 0 p)∧True:=by
 apply Cn0
 have hn:=h.n
 refine⟨Fw1 W0 p,Fv5 p,⟨0,rfl,by omega,Ext.refl _,rfl⟩,?_⟩
 rintro i3 i4 W5 ⟨j,rfl,hj,hE,rfl⟩
 refine⟨fun hlt=>?_,fun hge W13 _=>⟨?_,trivial⟩⟩
 ·have hjl:j<p.length:=by omega
  have hP:=h.ext hE
  obtain⟨k0,c1,d1,c2,e1,_,_,hr⟩:=hP.at (List.getElem?_eq_getElem hjl)
  have hmu:p.length-Int.toNat ((j:Int)+1)<p.length-Int.toNat (j:Int):=by omega
  refine⟨hP.inB (by omega) (by omega),_,_,_,c1,d1,c2,e1,Cj8 k0 fun W13 hE13 _=>⟨_,rfl,by unfold I64;omega,⟨j+1,by push_cast;rfl,by omega,hE.trans hE13,by rw[Ce0 hjl,Em4]⟩,hmu⟩⟩
 ·have:j=p.length:=by omega
  subst this
  rw[List.take_length]
theorem Co3 {W0 W:PW} {M:Nat→Prop} {s:Sl} {p:List Tm} {K:Value→PW→Prop} (h:Ab0 231 138 W s p) (hl:p.length≤1099511627776) (kont: ∀(W':PW),Ext W W'→(True)→K (.int .i64 (Fd0 Cx8 0 p)) W'):
  Aa1 Tryz.prog W0 M 14 [.agg ⟨[s.v]⟩] W K:=
 Aa2 (fun W' hE=>Dd3 (M:=fun _=>False) (h.ext hE) hl) (fun W' v W'' hE hE' hP=>by
  obtain⟨rfl,h⟩:=hP
  exact kont W'' (hE.trans hE') h)
end Go.Proofs.YtokefihiadbkbaaGreatDoor
/- What a polynomial comes to at a point is in what its terms come to on intervals around it: plain law. -/
namespace Go.Proofs.YtokefihiadbkbaaGreatDoor
open Go Go.SX
end Go.Proofs.YtokefihiadbkbaaGreatDoor
/- A polynomial's value is that at another point, and slopes times how far they are apart: plain law. -/
namespace Go.Proofs.YtokefihiadbkbaaGreatDoor
open Go Go.SX
end Go.Proofs.YtokefihiadbkbaaGreatDoor
/- span.Sub, Mid, Within, Same, Meet; box.Mid; bound.Sides, three, Natural, Mean, Best. -/
namespace Go.Proofs.YtokefihiadbkbaaGreatDoor
open Go Go.SX
instance (x y:Iv):Decidable (Ft1 x y):=by unfold Ft1;infer_instance
theorem Hv6 {a b:Rat} :Co4 a b=0↔a=b:=by
 constructor
 ·intro h
  have h1:=Dn3.1 (show Co4 a b≤0 by omega)
  have h2:=El9.1 (show 0≤Co4 a b by omega)
  grind
 ·rintro rfl
  have h1:=Dn3.2 (Rat.le_refl (a:=a))
  have h2:=El9.2 (Rat.le_refl (a:=a))
  omega
theorem Hp0 {k:Nat} {a b:Rat} (ha:Sz k a) (hb:Sz k b):Sz k (Az9 a b):=by rcases Dj0 a b with e | e<;>rw[e]<;>assumption
theorem Hp2 {k:Nat} {a b:Rat} (ha:Sz k a) (hb:Sz k b):Sz k (Au7 a b):=by rcases Dj7 a b with e | e<;>rw[e]<;>assumption
def An3 (p:List Tm) (bs:List Iv):Prop:=Cn7 bs∧Fd0 Cx8 0 p≤(bs.length:Int)
instance (p:List Tm) (bs:List Iv):Decidable (An3 p bs):=by unfold An3;infer_instance
theorem Cm8 {W0:PW} {M:Nat→Prop} {s sb:Sl} {p:List Tm} {bs:List Iv} {k:Nat} (h:Ab0 231 138 W0 s p) (hb:Bc3 231 W0 sb bs) (hk: ∀x∈bs,IvS k x) (hk2:k≤1048576) (hl:bs.length≤1048576) (hp:p.length≤1099511627776):
  Aa0 Tryz.prog 64 [.agg ⟨[s.v]⟩,sb.v] W0 M fun v W'=>v = .bool (decide (An3 p bs))∧True:=by
 apply Bw2
 have hn:=hb.n
 refine Cm2 hb hk hk2 hl fun W2 hE2 _=>⟨_,rfl,fun hr=>Co3 (h.ext hE2) hp fun W5 hE5 _=>⟨_,rfl,fun W7 _=>⟨?_,trivial⟩⟩,fun hr W8 _=>⟨?_,trivial⟩⟩
 ·have hr:=of_decide_eq_true hr
  congr 1
  rw[decide_eq_decide,hn]
  exact⟨fun e=>⟨hr,e⟩,fun e=>e.2⟩
 ·have hr:=of_decide_eq_false hr
  rw[decide_eq_false (p:=An3 p bs) fun e=>hr e.1]
theorem Bv2 {W0 W:PW} {M:Nat→Prop} {s sb:Sl} {p:List Tm} {bs:List Iv} {k:Nat} {K:Value→PW→Prop} (h:Ab0 231 138 W s p) (hb:Bc3 231 W sb bs) (hk: ∀x∈bs,IvS k x) (hk2:k≤1048576) (hl:bs.length≤1048576) (hp:p.length≤1099511627776) (kont: ∀(W':PW),Ext W W'→(True)→K (.bool (decide (An3 p bs))) W'):
  Aa1 Tryz.prog W0 M 64 [.agg ⟨[s.v]⟩,sb.v] W K:=
 Aa2 (fun W' hE=>Cm8 (M:=fun _=>False) (h.ext hE) (hb.ext hE) hk hk2 hl hp) (fun W' v W'' hE hE' hP=>by
  obtain⟨rfl,h⟩:=hP
  exact kont W'' (hE.trans hE') h)
structure BxN (k m:Nat) (p:List Tm) (bs:List Iv):Prop where
 bd:Bd k p
 sd: ∀x∈bs,IvS m x
 ok:POk p
 len:p.length≤1000000
 k1:k≤100000000
 m1:m≤100
 bl:bs.length≤1000
theorem BxN.side {k m:Nat} {p:List Tm} {bs:List Iv} (h:BxN k m p bs) (i:Nat):BdI (2*m+1) (Bm3 bs i):=Ep8 h.sd i
end Go.Proofs.YtokefihiadbkbaaGreatDoor
