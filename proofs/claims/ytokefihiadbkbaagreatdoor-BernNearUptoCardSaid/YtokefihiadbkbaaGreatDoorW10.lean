/- slices.Backward of bytes; mono.Vars. -/
import Derived.Test.YtokefihiadbkbaaGreatDoorW2
import Derived.Test.YtokefihiadbkbaaGreatDoorW6
import Derived.Test.YtokefihiadbkbaaGreatDoorW7
import Derived.Test.YtokefihiadbkbaaGreatDoorR11
import Derived.Test.YtokefihiadbkbaaGreatDoorW9
import Derived.Test.YtokefihiadbkbaaGreatDoorLib4
import Derived.Test.YtokefihiadbkbaaGreatDoorW8
import Derived.Test.YtokefihiadbkbaaGreatDoorLib5
import Derived.Test.YtokefihiadbkbaaGreatDoorR16
import Derived.Test.YtokefihiadbkbaaGreatDoorLib6
import Derived.Test.YtokefihiadbkbaaGreatDoorR18
set_option linter.unusedVariables false
set_option linter.unusedSimpArgs false
namespace Go.Proofs.YtokefihiadbkbaaGreatDoor
open Go Go.SX Go.RowKit Go.Shelf
attribute [local go_sem] Oper.semAt_some
def Fk6 (Bs:Nat) (v:Value) (b off:Nat) (zs:List Nat) (pre:List (Nat×Nat)) (W:World):Prop:=W.cell? ⟨Bs,0,none⟩=some v∧∀j,j<zs.length-pre.length→W.cell? ⟨b,off+j,none⟩=some (.int .u8 ((zs[j]?.getD 0:Nat):Int))
def Cy9 (x:Nat×Nat):Array Value:=#[.int .i64 (x.1:Int),.int .u8 (x.2:Int)]
set_option maxRecDepth 100000 in
set_option maxHeartbeats 2000000 in
theorem Ee1 (n:Nat) (hn:1≤n) (Bs b off cap:Nat) (zs:List Nat) (hreach:zs.length≤1099511627776):
  Bv9 Fence.wide n Tryz.prog 190 #[.pointer (some ⟨Bs,0,none⟩)] Cy9 (Fk6 Bs (.slice (some ⟨b,off,none⟩) zs.length cap) b off zs) (Fi6 zs) (fun xs=>xs=bks zs zs.length) (fun pre=>∃k,k<zs.length∧pre=bks zs (k+1)):=by
 intro l J Jx W hJ hY h0
 refine callsIn_of_wp Tryz.func190 rfl trivial ?_ rfl
 simp only[Tryz.ntmps190,List.size_toArray,List.length_cons,List.length_nil,Nat.reduceAdd,Nat.reduceSub,Array.replicate_succ,Array.replicate_zero,List.push_toArray,List.append_toArray,List.nil_append,List.cons_append]
 have hbox:W.cell? ⟨Bs,0,none⟩=some (.slice (some ⟨b,off,none⟩) zs.length cap):=(hJ _ _ h0).1
 gi_wp2
 gi_loopw [3,7,8,9,10,11,12,13,14,15,16,17,18] (fun i _ _ _ _ _ _ _ _ _ _ _ _ wr=>∃m:Nat,m≤zs.length∧i = .int .i64 ((m:Int)-1)∧J (bks zs (zs.length-m)) wr)
  (fun i _ _ _ _ _ _ _ _ _ _ _ _ _=>(intOf i+1).toNat)
 case atStart=>exact⟨zs.length,Nat.le_refl _,rfl,by simpa[bks] using h0⟩
 case round=>
  obtain⟨m,hm,rfl,hJs⟩:=hrel
  obtain⟨hbx,hmem⟩:=hJ _ _ hJs
  cases m with
  | zero=>
   gi_wp2
   go_end0
   exact⟨⟨_,rfl⟩,.inl ⟨_,rfl,by simpa using hJs⟩⟩
  | succ k=>
   have hk:k<zs.length:=by omega
   have hcx:wr.cell? ⟨b,off+k,none⟩=some (.int .u8 ((zs[k]?.getD 0:Nat):Int)):=hmem k (by rw[Ah8];omega)
   have e1:((k+1:Nat):Int)-1=(k:Int):=by omega
   have hx:bk zs (zs.length-(k+1))=(k,zs[k]?.getD 0):=by simp only[bk];rw[show zs.length-1-(zs.length-(k+1))=k by omega]
   obtain⟨fn,tmps,assign,body,hy,hR⟩:=hY _ (bk zs (zs.length-(k+1))) wr hJs ⟨by rw[Ah8];omega,by rw[Ah8],by rw[Ah8]⟩
   obtain⟨d,hd⟩: ∃d,zs[k]?.getD 0=d:=⟨_,rfl⟩
   rw[hd] at hcx hx
   rw[hx] at hy hR
   rw[e1]
   dsimp only[Cy9] at hy
   have hpre:bks zs (zs.length-(k+1)) ++ [(k,d)]=bks zs (zs.length-(k+1)+1):=by rw[Bo8,hx]
   gi_wp2
   refine hR.mono ?_
   rintro e W3 (⟨rfl,hJ3⟩ | ⟨rfl,hJx3⟩)
   ·rw[hpre,show zs.length-(k+1)+1=zs.length-k by omega] at hJ3
    gi_wp2
    go_roundw
    case rel=>exact⟨k,by omega,rfl,hJ3⟩
    case measure=>simp[intOf]
   ·rw[hpre] at hJx3
    gi_wp2
    refine bodyPost_ret (results_none rfl _ _ _) rfl ?_
    exact⟨⟨_,rfl⟩,.inr ⟨_,⟨_,by omega,rfl⟩,hJx3⟩⟩
set_option maxRecDepth 100000 in
set_option maxHeartbeats 2000000 in
theorem Cm4 (n:Nat) (hn:1≤n) (Bs:Nat) (A:Option Addr) (cap:Nat) (Mem:List (Nat×Nat)→World→Prop) (hMem: ∀pre W,Mem pre W→W.cell? ⟨Bs,0,none⟩=some (.slice A 0 cap)):
  Bv9 Fence.wide n Tryz.prog 190 #[.pointer (some ⟨Bs,0,none⟩)] Cy9 Mem (Fi6 []) (fun xs=>xs=bks [] 0) (fun pre=>∃k,k<0∧pre=bks [] (k+1)):=by
 intro l J Jx W hJ hY h0
 refine callsIn_of_wp Tryz.func190 rfl trivial ?_ rfl
 simp only[Tryz.ntmps190,List.size_toArray,List.length_cons,List.length_nil,Nat.reduceAdd,Nat.reduceSub,Array.replicate_succ,Array.replicate_zero,List.push_toArray,List.append_toArray,List.nil_append,List.cons_append]
 have hbox:W.cell? ⟨Bs,0,none⟩=some (.slice A 0 cap):=hMem _ _ (hJ _ _ h0)
 gi_wp2
 gi_loopw [3,7,8] (fun i _ _ wr=>i = .int .i64 (-1)∧J [] wr) (fun _ _ _ _=>0)
 case atStart=>exact⟨by simp,h0⟩
 case round=>
  obtain⟨rfl,hJs⟩:=hrel
  gi_wp2
  go_end0
  exact⟨⟨_,rfl⟩,.inl ⟨_,rfl,hJs⟩⟩
def Fw0 (Bs:Nat) (A:Option Addr) (cap:Nat) (zs:List Nat) (pre:List (Nat×Nat)) (W:World):Prop:=W.cell? ⟨Bs,0,none⟩=some (.slice A zs.length cap)∧∀b off,A=some ⟨b,off,none⟩→∀j,j<zs.length-pre.length→W.cell? ⟨b,off+j,none⟩=some (.int .u8 ((zs[j]?.getD 0:Nat):Int))
theorem Fb7 (n:Nat) (hn:1≤n) (Bs:Nat) (A:Option Addr) (cap:Nat) (zs:List Nat) (hreach:zs.length≤1099511627776) (hA:zs = []∨∃b off,A=some ⟨b,off,none⟩):
  Bv9 Fence.wide n Tryz.prog 190 #[.pointer (some ⟨Bs,0,none⟩)] Cy9 (Fw0 Bs A cap zs) (Fi6 zs) (fun xs=>xs=bks zs zs.length) (fun pre=>∃k,k<zs.length∧pre=bks zs (k+1)):=by
 rcases hA with rfl | ⟨b,off,rfl⟩
 ·exact Cm4 n hn Bs A cap _ fun pre W h=>h.1
 ·intro l J Jx W hJ hY h0
  exact Ee1 n hn Bs b off cap zs hreach l J Jx W (fun pre W' h=>⟨(hJ pre W' h).1,(hJ pre W' h).2 b off rfl⟩) hY h0
set_option maxHeartbeats 1000000 in
theorem Cz7 (n:Nat) (a:Option Addr) (len cap:Nat) (w:World):
  CallsIn Fence.wide n Tryz.prog 136 #[.slice a len cap] w fun e w'=>e = .returned (.func (.func 190) #[] #[.pointer (some ⟨w.heap.size,0,none⟩)])∧w'=w.alloc (.cells #[.slice a len cap] 222):=by
 refine callsIn_of_wp Tryz.func136 rfl trivial ?_ rfl
 simp only[Tryz.ntmps136,List.size_toArray,List.length_cons,List.length_nil,Nat.reduceAdd,Nat.reduceSub,Array.replicate_succ,Array.replicate_zero,List.push_toArray,List.append_toArray,List.nil_append,List.cons_append]
 gi_wp2
 go_ret
 exact⟨rfl,rfl⟩
def Dn7 (zs:List Nat):Nat:=if 0<zs[2]?.getD 0 then 3 else if 0<zs[1]?.getD 0 then 2 else if 0<zs[0]?.getD 0 then 1 else 0
set_option maxRecDepth 100000 in
set_option maxHeartbeats 4000000 in
theorem Ff2 (n:Nat) (hn:3≤n) (x y z:Nat) (w:World):
  CallsIn Fence.wide n Tryz.prog 61 #[.agg #[.int .u8 (x:Int),.int .u8 (y:Int),.int .u8 (z:Int)]] w fun e W'=>e = .returned (.int .i64 (Dn7 [x,y,z]:Nat))∧An0 w W':=by
 refine callsIn_of_wp_marks Tryz.func61 rfl trivial ?_ rfl
 simp only[Tryz.ntmps61,List.size_toArray,List.length_cons,List.length_nil,Nat.reduceAdd,Nat.reduceSub,Array.replicate_succ,Array.replicate_zero,List.push_toArray,List.append_toArray,List.nil_append,List.cons_append]
 gi_wp2
 refine⟨trivial,fun _=>by omega,(Cz7 (n-1) _ _ _ _).mono ?_⟩
 rintro e w' ⟨rfl,rfl⟩
 gi_wp2
 obtain⟨W4,hW4⟩: ∃W4,(((w.alloc (.cells #[.int .u8 (x:Int),.int .u8 (y:Int),.int .u8 (z:Int)] 136)).alloc (.cells #[.int .i64 0] 3)).alloc (.cells #[.slice (some ⟨w.heap.size,0,none⟩) 3 3] 222))=W4:=⟨_,rfl⟩
 have hsz:W4.heap.size=w.heap.size+1+1+1:=by rw[←hW4];simp
 have hB4:An0 w W4:=by rw[←hW4];exact⟨((((Below.refl _ w).alloc (Nat.le_refl _) _).alloc (by simp) _).alloc (by simp;omega) _),Nat.le_refl _⟩
 have bL:Boxed W4 (w.heap.size+1+1) 222 (.slice (some ⟨w.heap.size,0,none⟩) 3 3):=by
  rw[←hW4]
  have:=Boxed.new ((w.alloc (.cells #[.int .u8 (x:Int),.int .u8 (y:Int),.int .u8 (z:Int)] 136)).alloc (.cells #[.int .i64 0] 3)) 222 (.slice (some ⟨w.heap.size,0,none⟩) 3 3)
  simpa using this
 have bR:Boxed W4 (w.heap.size+1) 3 (.int .i64 0):=by
  rw[←hW4]
  have:=Boxed.new (w.alloc (.cells #[.int .u8 (x:Int),.int .u8 (y:Int),.int .u8 (z:Int)] 136)) 3 (.int .i64 0)
  simpa using this.alloc (.cells #[.slice (some ⟨w.heap.size,0,none⟩) 3 3] 222)
 have hX0:W4.heap[w.heap.size]?=some (.cells #[.int .u8 (x:Int),.int .u8 (y:Int),.int .u8 (z:Int)] 136):=by
  rw[←hW4]
  rw[Below.heap_alloc _ _ _ (by simp;omega),Below.heap_alloc _ _ _ (by simp)]
  exact World.alloc_heap_new w _
 have hX: ∀j,j<3→W4.cell? ⟨w.heap.size,0+j,none⟩=some (.int .u8 ((([x,y,z]:List Nat)[j]?.getD 0:Nat):Int)):=fun j hj=>by
  simp only[World.cell?,hX0]
  rcases(by omega:j=0∨j=1∨j=2) with rfl | rfl | rfl<;>rfl
 rw[hW4]
 refine As7 (α:=Nat×Nat) (n:=n) rfl (by omega) (gf:=190) (lb:=#[.pointer (some ⟨w.heap.size+1+1,0,none⟩)]) rfl trivial (enters_of Tryz.func190 (by kernel_rfl) rfl)
  (Fb7 (n-1) (by omega) (w.heap.size+1+1) (some ⟨w.heap.size,0,none⟩) 3 [x,y,z] (by simp) (.inr ⟨_,_,rfl⟩)) (fun _=>rfl)
  (fun pre W=>((∀p∈pre,p.2=0)∧W.cell? ⟨w.heap.size+1,0,none⟩=some (.int .i64 0)∧W.frozen? ⟨w.heap.size+1,0,none⟩=false∧(∀j,j<3→W.cell? ⟨w.heap.size,0+j,none⟩=some (.int .u8 ((([x,y,z]:List Nat)[j]?.getD 0:Nat):Int)))∧W.cell? ⟨w.heap.size+1+1,0,none⟩=some (.slice (some ⟨w.heap.size,0,none⟩) 3 3))∧An0 w W)
  (fun c pre W=>(c = .ret∧∃ini last,pre=ini ++ [last]∧(∀p∈ini,p.2=0)∧0<last.2∧W.cell? ⟨w.heap.size+1,0,none⟩=some (.int .i64 ((last.1:Int)+1)))∧An0 w W)
  ?_ ?_ ?_ ?_
  (fun v=>{tmps:=#[.agg #[.int .u8 (x:Int),.int .u8 (y:Int),.int .u8 (z:Int)],.pointer (some ⟨w.heap.size,0,none⟩),.pointer (some ⟨w.heap.size+1,0,none⟩),.int .i64 (v.1:Int),.int .u8 (v.2:Int),.slice (some ⟨w.heap.size,0,none⟩) 3 3,
    .func (.func 190) #[] #[.pointer (some ⟨w.heap.size+1+1,0,none⟩)],.int .i64 (v.1:Int),.int .u8 (v.2:Int),undef,undef,undef,undef],defers:=[] }) ?assign ?body ?done ?stop
 case assign=>
  intro l p W K hK
  simp only[Cy9]
  gi_wp2
  exact hK
 case body=>
  rintro l pre p W ⟨⟨hp,hcr,hfr,hcy,hcl⟩,hB⟩ ⟨hlen,hpre,hpx⟩
  have hi:p.1<3:=by rw[hpx];simp only[bk];simp;omega
  obtain⟨i,v⟩:=p
  dsimp only at *
  gi_wp2
  ·have hlt:0<v:=by first | assumption | omega
   exact⟨(KeepsOthers.setCell _ _ _).from _,⟨rfl,pre,(i,v),rfl,hp,hlt,World.cell?_setCell_same' _ _ _ (by rw[hcr];rfl)⟩,hB.setCell (p:=⟨w.heap.size+1,0,none⟩) (by show w.heap.size≤w.heap.size+1;omega) _⟩
  ·have h0:v=0:=by omega
   refine⟨KeepsFrom.refl _ _,trivial,⟨fun p hp'=>?_,hcr,hfr,hcy,hcl⟩,hB⟩
   rcases List.mem_append.1 hp' with h | h
   ·exact hp p h
   ·simp at h;subst h;exact h0
 case done=>
  rintro D ps W hD rfl ⟨⟨hne,hcr,hfr,hcy,hcl⟩,hB⟩ hK
  gi_wp2
  have hK':=(KeepsOthers.setCell W ⟨w.heap.size+1,0,none⟩ (.int .i64 0)).same D _ hK rfl
  refine⟨by simp,.inl ⟨_,_,rfl,run_takeDeferred hK',?_⟩⟩
  have hc5:=cell_kept (World.cell?_setCell_same' W ⟨w.heap.size+1,0,none⟩ (.int .i64 0) (by rw[hcr];rfl)) (grownBy_putObj' _ D (.deferred none)) (fun r e=>by cases e;exact⟨_,hK',rfl⟩)
  refine⟨.int .i64 0,?_,?_,(hB.setCell (p:=⟨w.heap.size+1,0,none⟩) (by show w.heap.size≤w.heap.size+1;omega) _).put (by omega) hK' rfl rfl⟩
  ·simp[results,Tryz.f61,go_sem,hc5]
  ·have hz: ∀k,k<3→([x,y,z]:List Nat)[3-1-k]?.getD 0=0:=fun k hk=>hne (bk [x,y,z] k) (List.mem_map.2 ⟨k,List.mem_range.2 (by simpa using hk),rfl⟩)
   have h0:=hz 0 (by omega)
   have h1:=hz 1 (by omega)
   have h2:=hz 2 (by omega)
   simp at h0 h1 h2
   simp[Dn7,h0,h1,h2]
 case stop=>
  rintro D c pre W hD ⟨k,hk,rfl⟩ ⟨⟨rfl,ini,last,e1,e2,e3,hcr⟩,hB⟩ hK
  gi_wp2
  refine⟨by simp,.inl ⟨_,_,rfl,run_takeDeferred hK,?_⟩⟩
  rw[Bo8] at e1
  obtain⟨rfl,e5⟩:=List.append_inj' e1 rfl
  have e6:last=bk [x,y,z] k:=by simpa using e5.symm
  subst e6
  have hBD:=hB.put (o':=.deferred none) (by omega) hK rfl rfl
  have hc5:=cell_kept hcr (grownBy_putObj' _ D (.deferred none)) (fun r e=>by cases e;exact⟨_,hK,rfl⟩)
  have hz: ∀j,j<k→([x,y,z]:List Nat)[3-1-j]?.getD 0=0:=fun j hj=>e2 (bk [x,y,z] j) (List.mem_map.2 ⟨j,List.mem_range.2 hj,rfl⟩)
  refine⟨.int .i64 (((bk [x,y,z] k).1:Int)+1),by simp[results,Tryz.f61,go_sem,hc5],?_,hBD⟩
  have hk3:k<3:=by simpa using hk
  rcases(by omega:k=0∨k=1∨k=2) with rfl | rfl | rfl
  ·have e3:0<z:=e3
   simp[Dn7,bk,e3]
  ·have h0:=hz 0 (by omega)
   have e3:0<y:=e3
   simp at h0
   simp[Dn7,bk,e3,h0]
  ·have h0:=hz 0 (by omega)
   have h1:=hz 1 (by omega)
   have e3:0<x:=e3
   simp at h0 h1
   simp[Dn7,bk,e3,h0,h1]
 ·exact Af7.and (Own.Ey9 (fun s A B row hs hg hr=>⟨hs.1,cell_kept hs.2.1 hg hr,(frozen_kept hs.2.1 hg hr).trans hs.2.2.1,fun j hj=>cell_kept (hs.2.2.2.1 j hj) hg hr,cell_kept hs.2.2.2.2 hg hr⟩) _) (Am0 (by omega))
 ·exact fun c=>Af7.and (Own.Ey9 (fun s A B row hs hg hr=>by
   obtain⟨hc,ini,last,e1,e2,e3,e4⟩:=hs
   exact⟨hc,ini,last,e1,e2,e3,cell_kept e4 hg hr⟩) _) (Am0 (by omega))
 ·rintro pre W ⟨⟨_,_,_,hcy,hcl⟩,hB⟩
  refine⟨hcl,fun b off hA j hj=>?_⟩
  cases hA
  exact hcy j (by simp at hj;omega)
 ·exact⟨⟨by simp,bR.cell,bR.frozen,hX,bL.cell⟩,hB4⟩
def Cx8 (m:Mon):Int:=if 0<m.z then 3 else if 0<m.y then 2 else if 0<m.x then 1 else 0
theorem Dj6 {W0:PW} {M:Nat→Prop} {m:Mon} (hm:m.ok):
  Aa0 Tryz.prog 61 [.agg ⟨[.int .u8 m.x,.int .u8 m.y,.int .u8 m.z]⟩] W0 M fun v W'=>v = .int .i64 (Cx8 m)∧True:=by
 refine⟨⟨_,Tryz.func61,rfl,rfl⟩,fun _=>?_⟩
 obtain⟨⟨x0,_⟩,⟨y0,_⟩,z0,_⟩:=hm
 obtain⟨mx,my,mz⟩:=m
 obtain⟨x,rfl⟩:=Int.eq_ofNat_of_zero_le x0
 obtain⟨y,rfl⟩:=Int.eq_ofNat_of_zero_le y0
 obtain⟨z,rfl⟩:=Int.eq_ofNat_of_zero_le z0
 have:=callsIn_wide.1 (Ff2 5 (by omega) x y z W0.w)
 have e:((Dn7 [x,y,z]:Nat):Int)=Cx8 ⟨x,y,z⟩:=by
  simp only[Dn7,Cx8]
  show((if 0<z then 3 else if 0<y then 2 else if 0<x then 1 else 0:Nat):Int)=_
  (repeat' split)<;>omega
 rw[e] at this
 exact Calls.mono this fun e w' ⟨he,hB⟩=>⟨_,he,Bd7 hB,rfl,trivial⟩
theorem Cj8 {W0 W:PW} {M:Nat→Prop} {m:Mon} {K:Value→PW→Prop} (hm:m.ok) (kont: ∀(W':PW),Ext W W'→(True)→K (.int .i64 (Cx8 m)) W'):
  Aa1 Tryz.prog W0 M 61 [.agg ⟨[.int .u8 m.x,.int .u8 m.y,.int .u8 m.z]⟩] W K:=
 Aa2 (fun W' hE=>Dj6 (M:=fun _=>False) hm) (fun W' v W'' hE hE' hP=>by
  obtain⟨rfl,h⟩:=hP
  exact kont W'' (hE.trans hE') h)
end Go.Proofs.YtokefihiadbkbaaGreatDoor
/- poly.Degree, poly.Top. -/
set_option maxRecDepth 100000
namespace Go.Proofs.YtokefihiadbkbaaGreatDoor
open Go Go.SX
def Fv8 (i:Int) (m:Mon):Int:=if 0≤i∧i<3 then An6 m i.toNat else 0
def Fw5 (W0:PW) (p:List Tm) (i:Int) (L:List PL) (W:PW):Prop:=match L with
 | [.val (.int .i64 a),.val (.int .i64 k)]=>∃j:Nat,k=(j:Int)∧j≤p.length∧Ext W0 W∧a=Fd0 (Fv8 i) 0 (p.take j)
 | _=>False
def Fv5 (p:List Tm) (L:List PL) (_:PW):Nat:=match L with
 | [_,.val (.int .i64 k)]=>p.length-k.toNat
 | _=>0
theorem Iu5 {W0:PW} {M:Nat→Prop} {s:Sl} {p:List Tm} {i:Int} (h:Ab0 231 138 W0 s p) (hl:p.length≤1099511627776):
  Aa0 Tryz.prog 30 [.agg ⟨[s.v]⟩,.int .i64 i] W0 M fun v W'=>v = .int .i64 (Fd0 (Fv8 i) 0 p)∧True:=by
 apply Io0
 have hn:=h.n
 refine⟨Fw5 W0 p i,Fv5 p,⟨0,rfl,by omega,Ext.refl _,rfl⟩,?_⟩
 rintro i3 i4 W5 ⟨j,rfl,hj,hE,rfl⟩
 refine⟨fun hlt=>?_,fun hge W13 _=>⟨?_,trivial⟩⟩
 ·have hjl:j<p.length:=by omega
  have hP:=h.ext hE
  obtain⟨k0,c1,d1,c2,e1,_,_,hr⟩:=hP.at (List.getElem?_eq_getElem hjl)
  have hmu:p.length-Int.toNat ((j:Int)+1)<p.length-Int.toNat (j:Int):=by omega
  have next: ∀z,z=Fv8 i p[j].1→stp (Fw5 W0 p i) (Fv5 p) [.val (.int .i64 (mx (Fd0 (Fv8 i) 0 (p.take j)) z)),.val (.int .i64 ((j:Int)+1))] W5 [.val (.int .i64 (Fd0 (Fv8 i) 0 (p.take j))),.val (.int .i64 (j:Int))] W5:=by
   rintro z rfl
   exact⟨⟨j+1,by push_cast;rfl,by omega,hE,by rw[Ce0 hjl,Em4]⟩,hmu⟩
  have h0:=(Hv3 (w:=Fv8 i) (n:=0) (p:=p.take j)).1
  have same:Fv8 i p[j].1=0→stp (Fw5 W0 p i) (Fv5 p) [.val (.int .i64 (Fd0 (Fv8 i) 0 (p.take j))),.val (.int .i64 ((j:Int)+1))] W5 [.val (.int .i64 (Fd0 (Fv8 i) 0 (p.take j))),.val (.int .i64 (j:Int))] W5:=fun e=>by
   have:=next 0 e.symm
   rwa [show mx (Fd0 (Fv8 i) 0 (p.take j)) 0=Fd0 (Fv8 i) 0 (p.take j) by unfold mx;rw[if_neg (by omega)]] at this
  have hI:I64 ((j:Int)+1):=by unfold I64;omega
  refine⟨hP.inB (by omega) (by omega),_,_,_,c1,d1,c2,e1,fun hi0=>⟨fun hi3=>?_,fun hi3=>⟨hI,same (by unfold Fv8;rw[if_neg (by omega)])⟩⟩,fun hi0=>⟨hI,same (by unfold Fv8;rw[if_neg (by omega)])⟩⟩
  obtain⟨m,rfl⟩:=Int.eq_ofNat_of_zero_le hi0
  have hm3:m<3:=by omega
  have hb:=Hq5 p[j].1 hm3 [c1.v,.bool d1,c2.v]
  have he:=Dg9 k0 m
  refine⟨⟨hi0,hi3⟩,_,hb,by unfold I64;omega,hI,next _ ?_⟩
  unfold Fv8
  rw[if_pos ⟨hi0,hi3⟩,Int.toNat_natCast]
 ·have:j=p.length:=by omega
  subst this
  rw[List.take_length]
theorem In7 {W0 W:PW} {M:Nat→Prop} {s:Sl} {p:List Tm} {i:Int} {K:Value→PW→Prop} (h:Ab0 231 138 W s p) (hl:p.length≤1099511627776) (kont: ∀(W':PW),Ext W W'→(True)→K (.int .i64 (Fd0 (Fv8 i) 0 p)) W'):
  Aa1 Tryz.prog W0 M 30 [.agg ⟨[s.v]⟩,.int .i64 i] W K:=
 Aa2 (fun W' hE=>Iu5 (M:=fun _=>False) (h.ext hE) hl) (fun W' v W'' hE hE' hP=>by
  obtain⟨rfl,h⟩:=hP
  exact kont W'' (hE.trans hE') h)
def Fw1 (W0:PW) (p:List Tm) (L:List PL) (W:PW):Prop:=match L with
 | [.val (.int .i64 a),.val (.int .i64 k)]=>∃j:Nat,k=(j:Int)∧j≤p.length∧Ext W0 W∧a=Fd0 Cx8 0 (p.take j)
 | _=>False
theorem Dd3 {W0:PW} {M:Nat→Prop} {s:Sl} {p:List Tm} (h:Ab0 231 138 W0 s p) (hl:p.length≤1099511627776):
  Aa0 Tryz.prog 14 [.agg ⟨[s.v]⟩] W0 M fun v W'=>v = .int .i64 (Fd0 Cx8 0 p)∧True:=by
 apply Cn0
 have hn:=h.n
 refine⟨Fw1 W0 p,Fv5 p,⟨0,rfl,by omega,Ext.refl _,rfl⟩,?_⟩
 rintro i3 i4 W5 ⟨j,rfl,hj,hE,rfl⟩
 refine⟨fun hlt=>?_,fun hge W13 _=>⟨?_,trivial⟩⟩
 ·have hjl:j<p.length:=by omega
  have hP:=h.ext hE
  obtain⟨k0,c1,d1,c2,e1,_,_,hr⟩:=hP.at (List.getElem?_eq_getElem hjl)
  have hmu:p.length-Int.toNat ((j:Int)+1)<p.length-Int.toNat (j:Int):=by omega
  refine⟨hP.inB (by omega) (by omega),_,_,_,c1,d1,c2,e1,Cj8 k0 fun W13 hE13 _=>⟨_,rfl,by unfold I64;omega,⟨j+1,by push_cast;rfl,by omega,hE.trans hE13,by rw[Ce0 hjl,Em4]⟩,hmu⟩⟩
 ·have:j=p.length:=by omega
  subst this
  rw[List.take_length]
theorem Co3 {W0 W:PW} {M:Nat→Prop} {s:Sl} {p:List Tm} {K:Value→PW→Prop} (h:Ab0 231 138 W s p) (hl:p.length≤1099511627776) (kont: ∀(W':PW),Ext W W'→(True)→K (.int .i64 (Fd0 Cx8 0 p)) W'):
  Aa1 Tryz.prog W0 M 14 [.agg ⟨[s.v]⟩] W K:=
 Aa2 (fun W' hE=>Dd3 (M:=fun _=>False) (h.ext hE) hl) (fun W' v W'' hE hE' hP=>by
  obtain⟨rfl,h⟩:=hP
  exact kont W'' (hE.trans hE') h)
end Go.Proofs.YtokefihiadbkbaaGreatDoor
/- cinctureref1.times; poly.At, cinctureref1.At. -/
namespace Go.Proofs.YtokefihiadbkbaaGreatDoor
open Go Go.SX
structure Pt where
 x:Rat
 y:Rat
 z:Rat
def Pt.get (u:Pt) (k:Nat):Rat:=if k=0 then u.x else if k=1 then u.y else u.z
def ctm (t:Tm) (u:Pt):Nat→Rat
 | 0=>t.2
 | j+1=>ctm t u j*u.get j^(An6 t.1 j).toNat
def atQ (u:Pt) (p:List Tm):Rat:=p.foldl (fun a t=>a+ctm t u 3) 0
end Go.Proofs.YtokefihiadbkbaaGreatDoor
/- What a polynomial comes to at a point is in what its terms come to on intervals around it: plain law. -/
namespace Go.Proofs.YtokefihiadbkbaaGreatDoor
open Go Go.SX
def Ha3 (b:Nat→Iv) (u:Pt):Prop:=∀i,i<3→inI (b i) (u.get i)
theorem He6 (m:Mon) (i:Nat):mex m i=(An6 m i).toNat:=by
 unfold mex An6
 (repeat' split)<;>rfl
theorem Hr6 {b:Nat→Iv} {u:Pt} (h:Ha3 b u) (t:Tm): ∀j,j≤3→inI (Ci9 b t j) (ctm t u j)
 | 0,_=>⟨Rat.le_refl,Rat.le_refl⟩
 | j+1,hj=>by
  have ih:=Hr6 h t j (by omega)
  rw[Ci9,ctm,←He6]
  split
  ·exact Gc0 ih (Da5 (h j (by omega)) _)
  ·rename_i h0
   rw[show mex t.1 j=0 by omega,Rat.pow_zero,Rat.mul_one]
   exact ih
theorem Hq8 {b:Nat→Iv} {u:Pt} (h:Ha3 b u) (p:List Tm):inI (Aq8 b p) (atQ u p):=by
 have key: ∀(p:List Tm) (a:Iv) (v:Rat),inI a v→inI (p.foldl (fun a t=>Cb5 a (Ci9 b t 3)) a) (p.foldl (fun a t=>a+ctm t u 3) v):=by
  intro p
  induction p with
  | nil=>intro a v h;exact h
  | cons t r ih=>intro a v ha;exact ih _ _ (Hd8 ha (Hr6 h t 3 (Nat.le_refl _)))
 exact key p _ _ ⟨Rat.le_refl,Rat.le_refl⟩
end Go.Proofs.YtokefihiadbkbaaGreatDoor
/- A polynomial's value is that at another point, and slopes times how far they are apart: plain law. -/
namespace Go.Proofs.YtokefihiadbkbaaGreatDoor
open Go Go.SX
end Go.Proofs.YtokefihiadbkbaaGreatDoor
/- span.Sub, Mid, Within, Same, Meet; box.Mid; bound.Sides, three, Natural, Mean, Best. -/
namespace Go.Proofs.YtokefihiadbkbaaGreatDoor
open Go Go.SX
instance (x y:Iv):Decidable (Ft1 x y):=by unfold Ft1;infer_instance
theorem Hv6 {a b:Rat} :Co4 a b=0↔a=b:=by
 constructor
 ·intro h
  have h1:=Dn3.1 (show Co4 a b≤0 by omega)
  have h2:=El9.1 (show 0≤Co4 a b by omega)
  grind
 ·rintro rfl
  have h1:=Dn3.2 (Rat.le_refl (a:=a))
  have h2:=El9.2 (Rat.le_refl (a:=a))
  omega
theorem Hv8 {W0:PW} {M:Nat→Prop} {l1 l2:List Value} {x y:Iv} {k:Nat} (h1:SpV 231 W0 l1 x) (h2:SpV 231 W0 l2 y) (hx:IvS k x) (hy:IvS k y) (hk:k≤8589934592):
  Aa0 Tryz.prog 46 [.agg ⟨l1⟩,.agg ⟨l2⟩] W0 M fun v W'=>v = .bool (decide (x=y))∧True:=by
 obtain⟨s0,b0,t0,s1,b1,t1,rfl,h1,h1'⟩:=h1
 obtain⟨s2,b2,t2,s3,b3,t3,rfl,h2,h2'⟩:=h2
 apply Hu7
 refine Aj2 h1 h2 hx.1 hy.1 (by omega) (by omega) fun W2 hE2 _=>⟨_,rfl,fun h=>Aj2 (h1'.ext hE2) (h2'.ext hE2) hx.2 hy.2 (by omega) (by omega) fun W5 hE5 _=>⟨_,rfl,fun W7 hE7=>⟨?_,trivial⟩⟩,fun h W8 hE8=>⟨?_,trivial⟩⟩
 ·have h:=Hv6.1 h
  congr 1
  rw[decide_eq_decide,Hv6]
  exact⟨fun e=>Prod.ext h e,fun e=>by rw[e]⟩
 ·rw[decide_eq_false fun e=>h (Hv6.2 (by rw[e]))]
theorem Hu6 {W0 W:PW} {M:Nat→Prop} {l1 l2:List Value} {x y:Iv} {k:Nat} {K:Value→PW→Prop} (h1:SpV 231 W l1 x) (h2:SpV 231 W l2 y) (hx:IvS k x) (hy:IvS k y) (hk:k≤8589934592) (kont: ∀(W':PW),Ext W W'→(True)→K (.bool (decide (x=y))) W'):
  Aa1 Tryz.prog W0 M 46 [.agg ⟨l1⟩,.agg ⟨l2⟩] W K:=
 Aa2 (fun W' hE=>Hv8 (M:=fun _=>False) (h1.ext hE) (h2.ext hE) hx hy hk) (fun W' v W'' hE hE' hP=>by
  obtain⟨rfl,h⟩:=hP
  exact kont W'' (hE.trans hE') h)
theorem Hp0 {k:Nat} {a b:Rat} (ha:Sz k a) (hb:Sz k b):Sz k (Az9 a b):=by rcases Dj0 a b with e | e<;>rw[e]<;>assumption
theorem Hp2 {k:Nat} {a b:Rat} (ha:Sz k a) (hb:Sz k b):Sz k (Au7 a b):=by rcases Dj7 a b with e | e<;>rw[e]<;>assumption
def An3 (p:List Tm) (bs:List Iv):Prop:=Cn7 bs∧Fd0 Cx8 0 p≤(bs.length:Int)
instance (p:List Tm) (bs:List Iv):Decidable (An3 p bs):=by unfold An3;infer_instance
theorem Cm8 {W0:PW} {M:Nat→Prop} {s sb:Sl} {p:List Tm} {bs:List Iv} {k:Nat} (h:Ab0 231 138 W0 s p) (hb:Bc3 231 W0 sb bs) (hk: ∀x∈bs,IvS k x) (hk2:k≤1048576) (hl:bs.length≤1048576) (hp:p.length≤1099511627776):
  Aa0 Tryz.prog 64 [.agg ⟨[s.v]⟩,sb.v] W0 M fun v W'=>v = .bool (decide (An3 p bs))∧True:=by
 apply Bw2
 have hn:=hb.n
 refine Cm2 hb hk hk2 hl fun W2 hE2 _=>⟨_,rfl,fun hr=>Co3 (h.ext hE2) hp fun W5 hE5 _=>⟨_,rfl,fun W7 _=>⟨?_,trivial⟩⟩,fun hr W8 _=>⟨?_,trivial⟩⟩
 ·have hr:=of_decide_eq_true hr
  congr 1
  rw[decide_eq_decide,hn]
  exact⟨fun e=>⟨hr,e⟩,fun e=>e.2⟩
 ·have hr:=of_decide_eq_false hr
  rw[decide_eq_false (p:=An3 p bs) fun e=>hr e.1]
theorem Bv2 {W0 W:PW} {M:Nat→Prop} {s sb:Sl} {p:List Tm} {bs:List Iv} {k:Nat} {K:Value→PW→Prop} (h:Ab0 231 138 W s p) (hb:Bc3 231 W sb bs) (hk: ∀x∈bs,IvS k x) (hk2:k≤1048576) (hl:bs.length≤1048576) (hp:p.length≤1099511627776) (kont: ∀(W':PW),Ext W W'→(True)→K (.bool (decide (An3 p bs))) W'):
  Aa1 Tryz.prog W0 M 64 [.agg ⟨[s.v]⟩,sb.v] W K:=
 Aa2 (fun W' hE=>Cm8 (M:=fun _=>False) (h.ext hE) (hb.ext hE) hk hk2 hl hp) (fun W' v W'' hE hE' hP=>by
  obtain⟨rfl,h⟩:=hP
  exact kont W'' (hE.trans hE') h)
theorem Cj1 {W0:PW} {M:Nat→Prop} {sb:Sl} {bs:List Iv} (hb:Bc3 231 W0 sb bs):
  Aa0 Tryz.prog 112 [sb.v] W0 M fun v W'=>∃(l:List Value),v = .agg ⟨l⟩∧DmV 231 W' l (Bm3 bs):=by
 apply Bx9
 obtain⟨ys,hr,ha⟩:=hb
 have hd:=Br4 ha
 refine⟨ys,hr,hd.shp,fun s2 b3 s4 s5 b6 s7 s8 b9 s10 s11 b12 s13 s14 b15 s16 s17 b18 s19 he W20 hE20=>⟨_,rfl,?_⟩⟩
 rw[he]
 exact hd.ext hE20
theorem Bu1 {W0 W:PW} {M:Nat→Prop} {sb:Sl} {bs:List Iv} {K:Value→PW→Prop} (hb:Bc3 231 W sb bs) (kont: ∀(l:List Value) (W':PW),Ext W W'→(DmV 231 W' l (Bm3 bs))→K (.agg ⟨l⟩) W'):
  Aa1 Tryz.prog W0 M 112 [sb.v] W K:=
 Aa2 (fun W' hE=>Cj1 (M:=fun _=>False) (hb.ext hE)) (fun W' v W'' hE hE' hP=>by
  obtain⟨l,rfl,h⟩:=hP
  exact kont l W'' (hE.trans hE') h)
structure BxN (k m:Nat) (p:List Tm) (bs:List Iv):Prop where
 bd:Bd k p
 sd: ∀x∈bs,IvS m x
 ok:POk p
 len:p.length≤1000000
 k1:k≤100000000
 m1:m≤100
 bl:bs.length≤1000
theorem BxN.side {k m:Nat} {p:List Tm} {bs:List Iv} (h:BxN k m p bs) (i:Nat):BdI (2*m+1) (Bm3 bs i):=Ep8 h.sd i
theorem Cl1 {p:List Tm} (h:POk p): ∀t∈p,∀i,mex t.1 i≤255:=fun t ht i=>by
 have:=h t ht
 unfold Mon.ok at this
 unfold SX.mex
 (repeat' split)<;>omega
theorem BxN.over {k m:Nat} {p:List Tm} {bs:List Iv} (h:BxN k m p bs):BdI (k+3*((2*m+1+1)*255+1)) (Aq8 (Bm3 bs) p):=Cv6 h.bd h.side (Cl1 h.ok)
theorem Bs5 {W0:PW} {M:Nat→Prop} {s sb:Sl} {p:List Tm} {bs:List Iv} {k m:Nat} (h:Ab0 231 138 W0 s p) (hb:Bc3 231 W0 sb bs) (hz:BxN k m p bs):
  Aa0 Tryz.prog 45 [.agg ⟨[s.v]⟩,sb.v] W0 M fun v W'=>∃(l:List Value),v = .tuple ⟨[.agg ⟨l⟩,.bool (decide (An3 p bs))]⟩∧SpV 231 W' l (if An3 p bs then Aq8 (Bm3 bs) p else(0,0)):=by
 apply Bh7
 have z1:=hz.m1
 have z2:=hz.len
 have z3:=hz.k1
 have z4:=hz.bl
 refine Bv2 h hb hz.sd (by omega) (by omega) (by omega) fun W2 hE2 _=>⟨_,rfl,fun hno W4 hE4=>?_,fun hyes=>?_⟩
 ·have hno:¬An3 p bs:=by simpa using hno
  rw[if_neg hno,decide_eq_false hno]
  exact⟨_,rfl,SpV.zero W4⟩
 ·have hyes:An3 p bs:=by simpa using hyes
  rw[if_pos hyes,decide_eq_true hyes]
  refine Bu1 (hb.ext hE2) fun l W6 hE6 hd=>?_
  obtain⟨s7,b8,s9,s10,b11,s12,s13,b14,s15,s16,b17,s18,s19,b20,s21,s22,b23,s24,rfl,hd'⟩:=id hd
  refine⟨s7,b8,s9,s10,b11,s12,s13,b14,s15,s16,b17,s18,s19,b20,s21,s22,b23,s24,rfl,?_⟩
  exact Az5 (h.ext (hE2.trans hE6)) hd hz.bd hz.side (Cl1 hz.ok) (Nat.le_refl 255) (by omega) (by omega) (by omega) fun r W26 hE26 h26=>h26.out fun s27 b28 s29 s30 b31 s32 h26 W33 hE33=>⟨_,rfl,h26.ext hE33⟩
theorem Bi4 {W0 W:PW} {M:Nat→Prop} {s sb:Sl} {p:List Tm} {bs:List Iv} {k m:Nat} {K:Value→PW→Prop} (h:Ab0 231 138 W s p) (hb:Bc3 231 W sb bs) (hz:BxN k m p bs) (kont: ∀(l:List Value) (W':PW),Ext W W'→(SpV 231 W' l (if An3 p bs then Aq8 (Bm3 bs) p else(0,0)))→K (.tuple ⟨[.agg ⟨l⟩,.bool (decide (An3 p bs))]⟩) W'):
  Aa1 Tryz.prog W0 M 45 [.agg ⟨[s.v]⟩,sb.v] W K:=
 Aa2 (fun W' hE=>Bs5 (M:=fun _=>False) (h.ext hE) (hb.ext hE) hz) (fun W' v W'' hE hE' hP=>by
  obtain⟨l,rfl,h⟩:=hP
  exact kont l W'' (hE.trans hE') h)
end Go.Proofs.YtokefihiadbkbaaGreatDoor
/- bern.choose, bern.moved, bern.based, what is done to a line for the coefficients. -/
namespace Go.Proofs.YtokefihiadbkbaaGreatDoor
open Go Go.SX
def chI (W0:PW) (n k:Nat) (L:List PL) (W:PW):Prop:=match L with
 | [.val (.int .i64 y),.val (.int .i64 z)]=>∃j:Nat,z=(j:Int)∧j≤k∧Ext W0 W∧y=((ch n j:Nat):Int)
 | _=>False
theorem In1 {W0:PW} {M:Nat→Prop} {n k:Nat} (hn:n≤16) (hk:k≤n):
  Aa0 Tryz.prog 138 [.int .i64 (n:Int),.int .i64 (k:Int)] W0 M fun v W'=>∃(s:Sl),∃(b:Bool),∃(t:Sl),v = .agg ⟨[Sl.v s,.bool b,Sl.v t]⟩∧Ab3 231 W' s b t ((ch n k:Nat):Rat):=by
 apply Ii8
 refine⟨chI W0 n k,Jd7 k,⟨0,rfl,Nat.zero_le _,Ext.refl _,by rw[If2];rfl⟩,?_⟩
 rintro i3 i4 W5 ⟨j,rfl,hj,hE5,rfl⟩
 have hc:=Iq6 hn j
 refine⟨fun hlt=>?_,fun hge=>?_⟩
 ·have hjk:j<k:=by omega
  have hc1:=Iq6 hn (j+1)
  have hb:ch n j*(n-j)≤65536*16:=Nat.mul_le_mul hc (by omega)
  have e0:((ch n j:Nat):Int)*((n:Int)-(j:Int))=((ch n j*(n-j):Nat):Int):=by rw[←Int.ofNat_sub (by omega)];push_cast;rfl
  have e1:Int.tdiv ((ch n j*(n-j):Nat):Int) ((j:Int)+1)=((ch n (j+1):Nat):Int):=by rw[←Jc6];exact(Int.ofNat_tdiv _ (j+1)).symm
  rw[e0,e1,wrap_i64 (by unfold I64;omega)]
  exact⟨by unfold I64;omega,by unfold I64;omega,by unfold I64;omega,by omega,by unfold I64;omega,⟨j+1,by push_cast;rfl,by omega,hE5,rfl⟩,by show k-Int.toNat ((j:Int)+1)<k-Int.toNat (j:Int);omega⟩
 ·have:j=k:=by omega
  subst this
  exact Ay8 (z:=((ch n j:Nat):Int)) (by unfold I64;omega) fun s8 b9 s10 W7 hE7 h7=>⟨s8,b9,s10,rfl,fun W11 hE11=>⟨s8,b9,s10,rfl,h7.ext hE11⟩⟩
theorem Ie9 {W0 W:PW} {M:Nat→Prop} {n k:Nat} {K:Value→PW→Prop} (hn:n≤16) (hk:k≤n) (kont: ∀(s:Sl) (b:Bool) (t:Sl) (W':PW),Ext W W'→(Ab3 231 W' s b t ((ch n k:Nat):Rat))→K (.agg ⟨[Sl.v s,.bool b,Sl.v t]⟩) W'):
  Aa1 Tryz.prog W0 M 138 [.int .i64 (n:Int),.int .i64 (k:Int)] W K:=
 Aa2 (fun W' hE=>In1 (M:=fun _=>False) hn hk) (fun W' v W'' hE hE' hP=>by
  obtain⟨s,b,t,rfl,h⟩:=hP
  exact kont s b t W'' (hE.trans hE') h)
abbrev Two (W:PW) (s1:Sl) (b1:Bool) (t1 s2:Sl) (b2:Bool) (t2:Sl) (lo hi:Rat):Prop:=Ab3 231 W s1 b1 t1 lo∧Ab3 231 W s2 b2 t2 hi
def Je9 (s:Sl) (n:Nat) (f:Nat→Rat) (s1:Sl) (b1:Bool) (t1 s2:Sl) (b2:Bool) (t2:Sl) (lo hi:Rat) (L:List PL) (W:PW):Prop:=match L with
 | [.val (.int .i64 z)]=>∃k:Nat,z=(k:Int)∧k≤n∧VQ W s n (mv lo n f k)∧Two W s1 b1 t1 s2 b2 t2 lo hi
 | _=>False
def Jf2 (s:Sl) (n k:Nat) (f:Nat→Rat) (s1:Sl) (b1:Bool) (t1 s2:Sl) (b2:Bool) (t2:Sl) (lo hi:Rat) (L:List PL) (W:PW):Prop:=match L with
 | [.val (.int .i64 z)]=>∃e:Nat,z=(e:Int)-1∧k≤e∧e<n∧VQ W s n (mvS lo n f k e)∧Two W s1 b1 t1 s2 b2 t2 lo hi
 | _=>False
def Jf0 (s:Sl) (n:Nat) (g:Nat→Rat) (s1:Sl) (b1:Bool) (t1 s2:Sl) (b2:Bool) (t2:Sl) (lo hi:Rat) (L:List PL) (W:PW):Prop:=match L with
 | [.val (.int .i64 z),.cells l]=>∃(p:Nat) (s3:Sl) (b3:Bool) (t3:Sl),z=(p:Int)∧l = [s3.v,.bool b3,t3.v]∧p≤n∧VQ W s n (Ix4 (hi-lo) g p)∧Two W s1 b1 t1 s2 b2 t2 lo hi∧Ab3 231 W s3 b3 t3 ((hi-lo)^p)
 | _=>False
def Je1 (L:List PL) (_:PW):Nat:=match L with
 | [.val (.int .i64 z)]=>(z+1).toNat
 | _=>0
def Jd8 (n:Nat) (L:List PL) (_:PW):Nat:=match L with
 | [.val (.int .i64 z),_]=>n-z.toNat
 | _=>0
theorem Iw9 {D N n k l a e i:Nat} {lo:Rat} {f:Nat→Rat} (hf:Id9 n D N f) (hD:D≠0) (k1:nl D≤k) (k2:nl N≤k) (hl:Sz l lo) (hn:n≤17) (ha:a<n) (hi:i<n):Sz (k+(((l+1)*17+1)*17+1)) (mvS lo n f a e i):=by
 have e0:nl (lo.den+lo.num.natAbs)≤l+1:=Cw6 hl.2 hl.1
 have e1:=Ae5 D ((lo.den^n)^(a+1))
 have e2:=Ae5 N (((lo.den+lo.num.natAbs)^n)^(a+1))
 have e3:=Ie6 (E:=lo.den) (n:=n) (k:=a+1) (l:=l+1) (by have:=hl.2;omega) hn (by omega)
 have e4:=Ie6 (E:=lo.den+lo.num.natAbs) (n:=n) (k:=a+1) (l:=l+1) e0 hn (by omega)
 exact(Jb1 (e:=e) hf (Ak3.den lo) i hi).sz (Nat.mul_ne_zero hD (Ch9 (Ch9 lo.den_nz n) _)) (by omega) (by omega)
theorem Io6 {W0:PW} {s s1 t1 s2 t2:Sl} {b1 b2:Bool} {n D N k l:Nat} {f:Nat→Rat} {lo hi:Rat} (h:VQ W0 s n f) (h2:Two W0 s1 b1 t1 s2 b2 t2 lo hi) (hf:Id9 n D N f) (hD:D≠0) (k1:nl D≤k) (k2:nl N≤k) (hl:Sz l lo) (hh:Sz l hi) (hn:n≤17) (hn0:0<n) (hk:k≤1000000) (hl2:l≤1000):
  Aa0 Tryz.prog 69 [s.v,.agg ⟨[s1.v,.bool b1,t1.v,s2.v,.bool b2,t2.v]⟩] W0 (fun g=>s.v.ownBlock=some g) fun v W'=>v = .tuple ⟨[]⟩∧VQ W' s n (Jb7 lo (hi-lo) n f):=by
 apply Ij9
 have hs:=h.n
 have hw:Sz (2*l+1) (hi-lo):=(hh.sub hl).mono (by omega)
 have hwp: ∀p,p≤17→Sz ((2*l+1)*17+1) ((hi-lo)^p):=fun p hp=>(hw.Fe7 p).mono (by have:(2*l+1)*p≤(2*l+1)*17:=Nat.mul_le_mul_left _ hp;omega)
 have hM: ∀g,s.v.ownBlock=some g→may W0 (fun g=>s.v.ownBlock=some g) g:=fun g hg=>.inl hg
 refine⟨Je9 s n f s1 b1 t1 s2 b2 t2 lo hi,Iv2 n,⟨0,rfl,Nat.zero_le _,h,h2⟩,?_⟩
 rintro i3 W4 ⟨a,rfl,han,hO,hB⟩
 refine⟨fun hlt=>?_,fun hge=>?_⟩
 ·have hlt:a<n:=by omega
  refine⟨by unfold I64;omega,Jf2 s n a f s1 b1 t1 s2 b2 t2 lo hi,Je1,⟨n-1,by omega,by omega,by omega,hO.congr fun i hi=>(Iy5 hi).symm,hB⟩,?_⟩
  rintro i7 W8 ⟨e,rfl,hae,hen,hO8,hB8⟩
  refine⟨fun hlt2=>?_,fun hge2=>?_⟩
  ·obtain⟨z,rfl⟩: ∃z,e=z+1:=⟨e-1,by omega⟩
   have ez:((z+1:Nat):Int)-1=(z:Int):=by omega
   rw[ez] at hlt2⊢
   obtain⟨s9,b10,s11,e9,g9⟩:=hO8.at (i:=z) (by omega)
   obtain⟨s12,b13,s14,e12,g12⟩:=hO8.at (i:=z+1) (by omega)
   have ec:((z:Int)+1).toNat=z+1:=by omega
   have za:=Iw9 (a:=a) (e:=z+1) (i:=z) hf hD k1 k2 hl hn hlt (by omega)
   have zb:=Iw9 (a:=a) (e:=z+1) (i:=z+1) hf hD k1 k2 hl hn hlt (by omega)
   refine⟨hO8.inB (by omega) (by omega),s9,b10,s11,e9,by unfold I64;omega,hO8.inB (by omega) (by omega),s12,b13,s14,by rw[ec];exact e12,?_⟩
   refine Ak9 hB8.1 g12 hl zb (by omega) (by omega) fun s17 b18 s19 W16 hE16 h16=>⟨s17,b18,s19,rfl,hE16,?_⟩
   refine At2 (g9.ext hE16) h16 za (hl.mul zb) (by omega) (by omega) fun s22 b23 s24 W21 hE21 h21=>⟨s22,b23,s24,rfl,(hO8.ext (hE16.trans hE21)).inB (by omega) (by omega),?_⟩
   have E:=hE16.trans hE21
   refine(hO8.ext E).store (j:=z) (by omega) h21 (by decide) hM fun W25 hp hO25=>⟨by unfold I64;omega,⟨z,rfl,by omega,by omega,?_,hp.rat (hB8.1.ext E) (by decide),hp.rat (hB8.2.ext E) (by decide)⟩,by show((z:Int)-1+1).toNat<((z:Int)+1).toNat;omega⟩
   rw[Ix9 (by omega)]
   exact hO25
  ·have:e=a:=by omega
   subst this
   rw[Iw8] at hO8
   exact⟨by unfold I64;omega,⟨e+1,by push_cast;rfl,by omega,hO8,hB8⟩,by show n-Int.toNat ((e:Int)+1)<n-Int.toNat (e:Int);omega⟩
 ·have:a=n:=by omega
  subst this
  have hmz: ∀i,i<a→Sz (k+(((l+1)*17+1)*17+1)) (mv lo a f a i):=fun i hi=>by
   have e1:mv lo a f a=mvS lo a f (a-1) (a-1):=by rw[Iw8,show a-1+1=a by omega]
   rw[e1]
   exact Iw9 hf hD k1 k2 hl hn (by omega) hi
  have zS: ∀p,p<a→Sz (k+(((l+1)*17+1)*17+1)) (Ix4 (hi-lo) (mv lo a f a) p p):=fun p hp=>by unfold Ix4;rw[if_neg (by omega)];exact hmz p hp
  refine Ay8 (z:=1) (by unfold I64;omega) fun s28 b29 s30 W27 hE27 h27=>⟨s28,b29,s30,rfl,?_⟩
  refine⟨Jf0 s a (mv lo a f a) s1 b1 t1 s2 b2 t2 lo hi,Jd8 a,⟨0,s28,b29,s30,rfl,rfl,Nat.zero_le _,by rw[Iv4];exact hO.ext hE27,⟨hB.1.ext hE27,hB.2.ext hE27⟩,by rw[Rat.pow_zero];exact h27⟩,?_⟩
  rintro s33 b34 s35 i36 W37 ⟨p,s3,b3,t3,rfl,el,hp,hO7,hB7,hw7⟩
  simp only[List.cons.injEq,Value.bool.injEq,and_true] at el
  obtain⟨q1,rfl,q3⟩:=el
  obtain rfl:=Sl.Ck0 q1
  obtain rfl:=Sl.Ck0 q3
  refine⟨fun hlt=>?_,fun hge2 W57 hE57=>⟨rfl,(hO7.ext hE57).congr fun i hi=>?_⟩⟩
  ·have hpa:p<a:=by omega
   obtain⟨s38,b39,s40,e38,g38⟩:=hO7.at hpa
   refine⟨hO7.inB (by omega) (by omega),s38,b39,s40,e38,?_⟩
   refine Ak9 g38 hw7 (zS p hpa) (hwp p (by omega)) (by omega) (by omega) fun s43 b44 s45 W42 hE42 h42=>⟨s43,b44,s45,rfl,(hO7.ext hE42).inB (by omega) (by omega),?_⟩
   refine(hO7.ext hE42).store (j:=p) hpa h42 (by decide) hM fun W46 hpu hO46=>?_
   have B46:Two W46 s1 b1 t1 s2 b2 t2 lo hi:=⟨hpu.rat (hB7.1.ext hE42) (by decide),hpu.rat (hB7.2.ext hE42) (by decide)⟩
   refine Gj9 (x:=(lo,hi)) (SpV.mk B46.1 B46.2) ⟨hl,hh⟩ (by omega) fun s49 b50 s51 W48 hE48 h48=>⟨s49,b50,s51,rfl,?_⟩
   refine Ak9 ((hpu.rat (hw7.ext hE42) (by decide)).ext hE48) h48 (hwp p (by omega)) hw (by omega) (by omega) fun s54 b55 s56 W53 hE53 h53=>⟨s54,b55,s56,rfl,by unfold I64;omega,⟨p+1,s54,b55,s56,by push_cast;rfl,rfl,by omega,?_,⟨(B46.1.ext hE48).ext hE53,(B46.2.ext hE48).ext hE53⟩,by rw[Rat.pow_succ];exact h53⟩,by show a-Int.toNat ((p:Int)+1)<a-Int.toNat (p:Int);omega⟩
   rw[Ix0]
   exact(hO46.ext hE48).ext hE53
  ·have:p=a:=by omega
   subst this
   unfold Ix4 Jb7
   rw[if_pos hi]
end Go.Proofs.YtokefihiadbkbaaGreatDoor
