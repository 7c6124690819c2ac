/- slices.Backward of bytes; mono.Vars. -/
import Derived.Test.YtjkkidjbppphpaaGreatDoorW3
import Derived.Test.YtjkkidjbppphpaaGreatDoorW11
import Derived.Test.YtjkkidjbppphpaaGreatDoorW12
import Derived.Test.YtjkkidjbppphpaaGreatDoorR12
import Derived.Test.YtjkkidjbppphpaaGreatDoorW17
import Derived.Test.YtjkkidjbppphpaaGreatDoorLib4
import Derived.Test.YtjkkidjbppphpaaGreatDoorW14
import Derived.Test.YtjkkidjbppphpaaGreatDoorW13
import Derived.Test.YtjkkidjbppphpaaGreatDoorR11
import Derived.Test.YtjkkidjbppphpaaGreatDoorLib5
set_option linter.unusedVariables false
set_option linter.unusedSimpArgs false
namespace Go.Proofs.YtjkkidjbppphpaaGreatDoor
open Go Go.SX Go.RowKit Go.Shelf
attribute [local go_sem] Oper.semAt_some
def Fk6 (Bs:Nat) (v:Value) (b off:Nat) (zs:List Nat) (pre:List (Nat×Nat)) (W:World):Prop:=W.cell? ⟨Bs,0,none⟩=some v∧∀j,j<zs.length-pre.length→W.cell? ⟨b,off+j,none⟩=some (.int .u8 ((zs[j]?.getD 0:Nat):Int))
def Cy9 (x:Nat×Nat):Array Value:=#[.int .i64 (x.1:Int),.int .u8 (x.2:Int)]
set_option maxRecDepth 100000 in
set_option maxHeartbeats 2000000 in
theorem Ee1 (n:Nat) (hn:1≤n) (Bs b off cap:Nat) (zs:List Nat) (hreach:zs.length≤1099511627776):
  Bv9 Fence.wide n Tryz.prog 228 #[.pointer (some ⟨Bs,0,none⟩)] Cy9 (Fk6 Bs (.slice (some ⟨b,off,none⟩) zs.length cap) b off zs) (Fi6 zs) (fun xs=>xs=bks zs zs.length) (fun pre=>∃k,k<zs.length∧pre=bks zs (k+1)):=by
 intro l J Jx W hJ hY h0
 refine callsIn_of_wp Tryz.func228 rfl trivial ?_ rfl
 simp only[Tryz.ntmps228,List.size_toArray,List.length_cons,List.length_nil,Nat.reduceAdd,Nat.reduceSub,Array.replicate_succ,Array.replicate_zero,List.push_toArray,List.append_toArray,List.nil_append,List.cons_append]
 have hbox:W.cell? ⟨Bs,0,none⟩=some (.slice (some ⟨b,off,none⟩) zs.length cap):=(hJ _ _ h0).1
 gi_wp2
 gi_loopw [3,7,8,9,10,11,12,13,14,15,16,17,18] (fun i _ _ _ _ _ _ _ _ _ _ _ _ wr=>∃m:Nat,m≤zs.length∧i = .int .i64 ((m:Int)-1)∧J (bks zs (zs.length-m)) wr)
  (fun i _ _ _ _ _ _ _ _ _ _ _ _ _=>(intOf i+1).toNat)
 case atStart=>exact⟨zs.length,Nat.le_refl _,rfl,by simpa[bks] using h0⟩
 case round=>
  obtain⟨m,hm,rfl,hJs⟩:=hrel
  obtain⟨hbx,hmem⟩:=hJ _ _ hJs
  cases m with
  | zero=>
   gi_wp2
   go_end0
   exact⟨⟨_,rfl⟩,.inl ⟨_,rfl,by simpa using hJs⟩⟩
  | succ k=>
   have hk:k<zs.length:=by omega
   have hcx:wr.cell? ⟨b,off+k,none⟩=some (.int .u8 ((zs[k]?.getD 0:Nat):Int)):=hmem k (by rw[Ah8];omega)
   have e1:((k+1:Nat):Int)-1=(k:Int):=by omega
   have hx:bk zs (zs.length-(k+1))=(k,zs[k]?.getD 0):=by simp only[bk];rw[show zs.length-1-(zs.length-(k+1))=k by omega]
   obtain⟨fn,tmps,assign,body,hy,hR⟩:=hY _ (bk zs (zs.length-(k+1))) wr hJs ⟨by rw[Ah8];omega,by rw[Ah8],by rw[Ah8]⟩
   obtain⟨d,hd⟩: ∃d,zs[k]?.getD 0=d:=⟨_,rfl⟩
   rw[hd] at hcx hx
   rw[hx] at hy hR
   rw[e1]
   dsimp only[Cy9] at hy
   have hpre:bks zs (zs.length-(k+1)) ++ [(k,d)]=bks zs (zs.length-(k+1)+1):=by rw[Bo8,hx]
   gi_wp2
   refine hR.mono ?_
   rintro e W3 (⟨rfl,hJ3⟩ | ⟨rfl,hJx3⟩)
   ·rw[hpre,show zs.length-(k+1)+1=zs.length-k by omega] at hJ3
    gi_wp2
    go_roundw
    case rel=>exact⟨k,by omega,rfl,hJ3⟩
    case measure=>simp[intOf]
   ·rw[hpre] at hJx3
    gi_wp2
    refine bodyPost_ret (results_none rfl _ _ _) rfl ?_
    exact⟨⟨_,rfl⟩,.inr ⟨_,⟨_,by omega,rfl⟩,hJx3⟩⟩
set_option maxRecDepth 100000 in
set_option maxHeartbeats 2000000 in
theorem Cm4 (n:Nat) (hn:1≤n) (Bs:Nat) (A:Option Addr) (cap:Nat) (Mem:List (Nat×Nat)→World→Prop) (hMem: ∀pre W,Mem pre W→W.cell? ⟨Bs,0,none⟩=some (.slice A 0 cap)):
  Bv9 Fence.wide n Tryz.prog 228 #[.pointer (some ⟨Bs,0,none⟩)] Cy9 Mem (Fi6 []) (fun xs=>xs=bks [] 0) (fun pre=>∃k,k<0∧pre=bks [] (k+1)):=by
 intro l J Jx W hJ hY h0
 refine callsIn_of_wp Tryz.func228 rfl trivial ?_ rfl
 simp only[Tryz.ntmps228,List.size_toArray,List.length_cons,List.length_nil,Nat.reduceAdd,Nat.reduceSub,Array.replicate_succ,Array.replicate_zero,List.push_toArray,List.append_toArray,List.nil_append,List.cons_append]
 have hbox:W.cell? ⟨Bs,0,none⟩=some (.slice A 0 cap):=hMem _ _ (hJ _ _ h0)
 gi_wp2
 gi_loopw [3,7,8] (fun i _ _ wr=>i = .int .i64 (-1)∧J [] wr) (fun _ _ _ _=>0)
 case atStart=>exact⟨by simp,h0⟩
 case round=>
  obtain⟨rfl,hJs⟩:=hrel
  gi_wp2
  go_end0
  exact⟨⟨_,rfl⟩,.inl ⟨_,rfl,hJs⟩⟩
def Fw0 (Bs:Nat) (A:Option Addr) (cap:Nat) (zs:List Nat) (pre:List (Nat×Nat)) (W:World):Prop:=W.cell? ⟨Bs,0,none⟩=some (.slice A zs.length cap)∧∀b off,A=some ⟨b,off,none⟩→∀j,j<zs.length-pre.length→W.cell? ⟨b,off+j,none⟩=some (.int .u8 ((zs[j]?.getD 0:Nat):Int))
theorem Fb7 (n:Nat) (hn:1≤n) (Bs:Nat) (A:Option Addr) (cap:Nat) (zs:List Nat) (hreach:zs.length≤1099511627776) (hA:zs = []∨∃b off,A=some ⟨b,off,none⟩):
  Bv9 Fence.wide n Tryz.prog 228 #[.pointer (some ⟨Bs,0,none⟩)] Cy9 (Fw0 Bs A cap zs) (Fi6 zs) (fun xs=>xs=bks zs zs.length) (fun pre=>∃k,k<zs.length∧pre=bks zs (k+1)):=by
 rcases hA with rfl | ⟨b,off,rfl⟩
 ·exact Cm4 n hn Bs A cap _ fun pre W h=>h.1
 ·intro l J Jx W hJ hY h0
  exact Ee1 n hn Bs b off cap zs hreach l J Jx W (fun pre W' h=>⟨(hJ pre W' h).1,(hJ pre W' h).2 b off rfl⟩) hY h0
set_option maxHeartbeats 1000000 in
theorem Cz7 (n:Nat) (a:Option Addr) (len cap:Nat) (w:World):
  CallsIn Fence.wide n Tryz.prog 172 #[.slice a len cap] w fun e w'=>e = .returned (.func (.func 228) #[] #[.pointer (some ⟨w.heap.size,0,none⟩)])∧w'=w.alloc (.cells #[.slice a len cap] 257):=by
 refine callsIn_of_wp Tryz.func172 rfl trivial ?_ rfl
 simp only[Tryz.ntmps172,List.size_toArray,List.length_cons,List.length_nil,Nat.reduceAdd,Nat.reduceSub,Array.replicate_succ,Array.replicate_zero,List.push_toArray,List.append_toArray,List.nil_append,List.cons_append]
 gi_wp2
 go_ret
 exact⟨rfl,rfl⟩
def Dn7 (zs:List Nat):Nat:=if 0<zs[2]?.getD 0 then 3 else if 0<zs[1]?.getD 0 then 2 else if 0<zs[0]?.getD 0 then 1 else 0
set_option maxRecDepth 100000 in
set_option maxHeartbeats 4000000 in
theorem Ff2 (n:Nat) (hn:3≤n) (x y z:Nat) (w:World):
  CallsIn Fence.wide n Tryz.prog 92 #[.agg #[.int .u8 (x:Int),.int .u8 (y:Int),.int .u8 (z:Int)]] w fun e W'=>e = .returned (.int .i64 (Dn7 [x,y,z]:Nat))∧An0 w W':=by
 refine callsIn_of_wp_marks Tryz.func92 rfl trivial ?_ rfl
 simp only[Tryz.ntmps92,List.size_toArray,List.length_cons,List.length_nil,Nat.reduceAdd,Nat.reduceSub,Array.replicate_succ,Array.replicate_zero,List.push_toArray,List.append_toArray,List.nil_append,List.cons_append]
 gi_wp2
 refine⟨trivial,fun _=>by omega,(Cz7 (n-1) _ _ _ _).mono ?_⟩
 rintro e w' ⟨rfl,rfl⟩
 gi_wp2
 obtain⟨W4,hW4⟩: ∃W4,(((w.alloc (.cells #[.int .u8 (x:Int),.int .u8 (y:Int),.int .u8 (z:Int)] 163)).alloc (.cells #[.int .i64 0] 3)).alloc (.cells #[.slice (some ⟨w.heap.size,0,none⟩) 3 3] 257))=W4:=⟨_,rfl⟩
 have hsz:W4.heap.size=w.heap.size+1+1+1:=by rw[←hW4];simp
 have hB4:An0 w W4:=by rw[←hW4];exact⟨((((Below.refl _ w).alloc (Nat.le_refl _) _).alloc (by simp) _).alloc (by simp;omega) _),Nat.le_refl _⟩
 have bL:Boxed W4 (w.heap.size+1+1) 257 (.slice (some ⟨w.heap.size,0,none⟩) 3 3):=by
  rw[←hW4]
  have:=Boxed.new ((w.alloc (.cells #[.int .u8 (x:Int),.int .u8 (y:Int),.int .u8 (z:Int)] 163)).alloc (.cells #[.int .i64 0] 3)) 257 (.slice (some ⟨w.heap.size,0,none⟩) 3 3)
  simpa using this
 have bR:Boxed W4 (w.heap.size+1) 3 (.int .i64 0):=by
  rw[←hW4]
  have:=Boxed.new (w.alloc (.cells #[.int .u8 (x:Int),.int .u8 (y:Int),.int .u8 (z:Int)] 163)) 3 (.int .i64 0)
  simpa using this.alloc (.cells #[.slice (some ⟨w.heap.size,0,none⟩) 3 3] 257)
 have hX0:W4.heap[w.heap.size]?=some (.cells #[.int .u8 (x:Int),.int .u8 (y:Int),.int .u8 (z:Int)] 163):=by
  rw[←hW4]
  rw[Below.heap_alloc _ _ _ (by simp;omega),Below.heap_alloc _ _ _ (by simp)]
  exact World.alloc_heap_new w _
 have hX: ∀j,j<3→W4.cell? ⟨w.heap.size,0+j,none⟩=some (.int .u8 ((([x,y,z]:List Nat)[j]?.getD 0:Nat):Int)):=fun j hj=>by
  simp only[World.cell?,hX0]
  rcases(by omega:j=0∨j=1∨j=2) with rfl | rfl | rfl<;>rfl
 rw[hW4]
 refine As7 (α:=Nat×Nat) (n:=n) rfl (by omega) (gf:=228) (lb:=#[.pointer (some ⟨w.heap.size+1+1,0,none⟩)]) rfl trivial (enters_of Tryz.func228 (by kernel_rfl) rfl)
  (Fb7 (n-1) (by omega) (w.heap.size+1+1) (some ⟨w.heap.size,0,none⟩) 3 [x,y,z] (by simp) (.inr ⟨_,_,rfl⟩)) (fun _=>rfl)
  (fun pre W=>((∀p∈pre,p.2=0)∧W.cell? ⟨w.heap.size+1,0,none⟩=some (.int .i64 0)∧W.frozen? ⟨w.heap.size+1,0,none⟩=false∧(∀j,j<3→W.cell? ⟨w.heap.size,0+j,none⟩=some (.int .u8 ((([x,y,z]:List Nat)[j]?.getD 0:Nat):Int)))∧W.cell? ⟨w.heap.size+1+1,0,none⟩=some (.slice (some ⟨w.heap.size,0,none⟩) 3 3))∧An0 w W)
  (fun c pre W=>(c = .ret∧∃ini last,pre=ini ++ [last]∧(∀p∈ini,p.2=0)∧0<last.2∧W.cell? ⟨w.heap.size+1,0,none⟩=some (.int .i64 ((last.1:Int)+1)))∧An0 w W)
  ?_ ?_ ?_ ?_
  (fun v=>{tmps:=#[.agg #[.int .u8 (x:Int),.int .u8 (y:Int),.int .u8 (z:Int)],.pointer (some ⟨w.heap.size,0,none⟩),.pointer (some ⟨w.heap.size+1,0,none⟩),.int .i64 (v.1:Int),.int .u8 (v.2:Int),.slice (some ⟨w.heap.size,0,none⟩) 3 3,
    .func (.func 228) #[] #[.pointer (some ⟨w.heap.size+1+1,0,none⟩)],.int .i64 (v.1:Int),.int .u8 (v.2:Int),undef,undef,undef,undef],defers:=[] }) ?assign ?body ?done ?stop
 case assign=>
  intro l p W K hK
  simp only[Cy9]
  gi_wp2
  exact hK
 case body=>
  rintro l pre p W ⟨⟨hp,hcr,hfr,hcy,hcl⟩,hB⟩ ⟨hlen,hpre,hpx⟩
  have hi:p.1<3:=by rw[hpx];simp only[bk];simp;omega
  obtain⟨i,v⟩:=p
  dsimp only at *
  gi_wp2
  ·have hlt:0<v:=by first | assumption | omega
   exact⟨(KeepsOthers.setCell _ _ _).from _,⟨rfl,pre,(i,v),rfl,hp,hlt,World.cell?_setCell_same' _ _ _ (by rw[hcr];rfl)⟩,hB.setCell (p:=⟨w.heap.size+1,0,none⟩) (by show w.heap.size≤w.heap.size+1;omega) _⟩
  ·have h0:v=0:=by omega
   refine⟨KeepsFrom.refl _ _,trivial,⟨fun p hp'=>?_,hcr,hfr,hcy,hcl⟩,hB⟩
   rcases List.mem_append.1 hp' with h | h
   ·exact hp p h
   ·simp at h;subst h;exact h0
 case done=>
  rintro D ps W hD rfl ⟨⟨hne,hcr,hfr,hcy,hcl⟩,hB⟩ hK
  gi_wp2
  have hK':=(KeepsOthers.setCell W ⟨w.heap.size+1,0,none⟩ (.int .i64 0)).same D _ hK rfl
  refine⟨by simp,.inl ⟨_,_,rfl,run_takeDeferred hK',?_⟩⟩
  have hc5:=cell_kept (World.cell?_setCell_same' W ⟨w.heap.size+1,0,none⟩ (.int .i64 0) (by rw[hcr];rfl)) (grownBy_putObj' _ D (.deferred none)) (fun r e=>by cases e;exact⟨_,hK',rfl⟩)
  refine⟨.int .i64 0,?_,?_,(hB.setCell (p:=⟨w.heap.size+1,0,none⟩) (by show w.heap.size≤w.heap.size+1;omega) _).put (by omega) hK' rfl rfl⟩
  ·simp[results,Tryz.f92,go_sem,hc5]
  ·have hz: ∀k,k<3→([x,y,z]:List Nat)[3-1-k]?.getD 0=0:=fun k hk=>hne (bk [x,y,z] k) (List.mem_map.2 ⟨k,List.mem_range.2 (by simpa using hk),rfl⟩)
   have h0:=hz 0 (by omega)
   have h1:=hz 1 (by omega)
   have h2:=hz 2 (by omega)
   simp at h0 h1 h2
   simp[Dn7,h0,h1,h2]
 case stop=>
  rintro D c pre W hD ⟨k,hk,rfl⟩ ⟨⟨rfl,ini,last,e1,e2,e3,hcr⟩,hB⟩ hK
  gi_wp2
  refine⟨by simp,.inl ⟨_,_,rfl,run_takeDeferred hK,?_⟩⟩
  rw[Bo8] at e1
  obtain⟨rfl,e5⟩:=List.append_inj' e1 rfl
  have e6:last=bk [x,y,z] k:=by simpa using e5.symm
  subst e6
  have hBD:=hB.put (o':=.deferred none) (by omega) hK rfl rfl
  have hc5:=cell_kept hcr (grownBy_putObj' _ D (.deferred none)) (fun r e=>by cases e;exact⟨_,hK,rfl⟩)
  have hz: ∀j,j<k→([x,y,z]:List Nat)[3-1-j]?.getD 0=0:=fun j hj=>e2 (bk [x,y,z] j) (List.mem_map.2 ⟨j,List.mem_range.2 hj,rfl⟩)
  refine⟨.int .i64 (((bk [x,y,z] k).1:Int)+1),by simp[results,Tryz.f92,go_sem,hc5],?_,hBD⟩
  have hk3:k<3:=by simpa using hk
  rcases(by omega:k=0∨k=1∨k=2) with rfl | rfl | rfl
  ·have e3:0<z:=e3
   simp[Dn7,bk,e3]
  ·have h0:=hz 0 (by omega)
   have e3:0<y:=e3
   simp at h0
   simp[Dn7,bk,e3,h0]
  ·have h0:=hz 0 (by omega)
   have h1:=hz 1 (by omega)
   have e3:0<x:=e3
   simp at h0 h1
   simp[Dn7,bk,e3,h0,h1]
 ·exact Af7.and (Own.Ey9 (fun s A B row hs hg hr=>⟨hs.1,cell_kept hs.2.1 hg hr,(frozen_kept hs.2.1 hg hr).trans hs.2.2.1,fun j hj=>cell_kept (hs.2.2.2.1 j hj) hg hr,cell_kept hs.2.2.2.2 hg hr⟩) _) (Am0 (by omega))
 ·exact fun c=>Af7.and (Own.Ey9 (fun s A B row hs hg hr=>by
   obtain⟨hc,ini,last,e1,e2,e3,e4⟩:=hs
   exact⟨hc,ini,last,e1,e2,e3,cell_kept e4 hg hr⟩) _) (Am0 (by omega))
 ·rintro pre W ⟨⟨_,_,_,hcy,hcl⟩,hB⟩
  refine⟨hcl,fun b off hA j hj=>?_⟩
  cases hA
  exact hcy j (by simp at hj;omega)
 ·exact⟨⟨by simp,bR.cell,bR.frozen,hX,bL.cell⟩,hB4⟩
def Cx8 (m:Mon):Int:=if 0<m.z then 3 else if 0<m.y then 2 else if 0<m.x then 1 else 0
theorem Dj6 {W0:PW} {M:Nat→Prop} {m:Mon} (hm:m.ok):
  Aa0 Tryz.prog 92 [.agg ⟨[.int .u8 m.x,.int .u8 m.y,.int .u8 m.z]⟩] W0 M fun v W'=>v = .int .i64 (Cx8 m)∧True:=by
 refine⟨⟨_,Tryz.func92,rfl,rfl⟩,fun _=>?_⟩
 obtain⟨⟨x0,_⟩,⟨y0,_⟩,z0,_⟩:=hm
 obtain⟨mx,my,mz⟩:=m
 obtain⟨x,rfl⟩:=Int.eq_ofNat_of_zero_le x0
 obtain⟨y,rfl⟩:=Int.eq_ofNat_of_zero_le y0
 obtain⟨z,rfl⟩:=Int.eq_ofNat_of_zero_le z0
 have:=callsIn_wide.1 (Ff2 5 (by omega) x y z W0.w)
 have e:((Dn7 [x,y,z]:Nat):Int)=Cx8 ⟨x,y,z⟩:=by
  simp only[Dn7,Cx8]
  show((if 0<z then 3 else if 0<y then 2 else if 0<x then 1 else 0:Nat):Int)=_
  (repeat' split)<;>omega
 rw[e] at this
 exact Calls.mono this fun e w' ⟨he,hB⟩=>⟨_,he,Bd7 hB,rfl,trivial⟩
theorem Cj8 {W0 W:PW} {M:Nat→Prop} {m:Mon} {K:Value→PW→Prop} (hm:m.ok) (kont: ∀(W':PW),Ext W W'→(True)→K (.int .i64 (Cx8 m)) W'):
  Aa1 Tryz.prog W0 M 92 [.agg ⟨[.int .u8 m.x,.int .u8 m.y,.int .u8 m.z]⟩] W K:=
 Aa2 (fun W' hE=>Dj6 (M:=fun _=>False) hm) (fun W' v W'' hE hE' hP=>by
  obtain⟨rfl,h⟩:=hP
  exact kont W'' (hE.trans hE') h)
end Go.Proofs.YtjkkidjbppphpaaGreatDoor
/- poly.Degree, poly.Top. -/
set_option maxRecDepth 100000
namespace Go.Proofs.YtjkkidjbppphpaaGreatDoor
open Go Go.SX
def Fv8 (i:Int) (m:Mon):Int:=if 0≤i∧i<3 then An6 m i.toNat else 0
def Fw5 (W0:PW) (p:List Tm) (i:Int) (L:List PL) (W:PW):Prop:=match L with
 | [.val (.int .i64 a),.val (.int .i64 k)]=>∃j:Nat,k=(j:Int)∧j≤p.length∧Ext W0 W∧a=Fd0 (Fv8 i) 0 (p.take j)
 | _=>False
def Fv5 (p:List Tm) (L:List PL) (_:PW):Nat:=match L with
 | [_,.val (.int .i64 k)]=>p.length-k.toNat
 | _=>0
def Fw1 (W0:PW) (p:List Tm) (L:List PL) (W:PW):Prop:=match L with
 | [.val (.int .i64 a),.val (.int .i64 k)]=>∃j:Nat,k=(j:Int)∧j≤p.length∧Ext W0 W∧a=Fd0 Cx8 0 (p.take j)
 | _=>False
theorem Dd3 {W0:PW} {M:Nat→Prop} {s:Sl} {p:List Tm} (h:Ab0 284 165 W0 s p) (hl:p.length≤1099511627776):
  Aa0 Tryz.prog 23 [.agg ⟨[s.v]⟩] W0 M fun v W'=>v = .int .i64 (Fd0 Cx8 0 p)∧True:=by
 apply Cn0
 have hn:=h.n
 refine⟨Fw1 W0 p,Fv5 p,⟨0,rfl,by omega,Ext.refl _,rfl⟩,?_⟩
 rintro i3 i4 W5 ⟨j,rfl,hj,hE,rfl⟩
 refine⟨fun hlt=>?_,fun hge W13 _=>⟨?_,trivial⟩⟩
 ·have hjl:j<p.length:=by omega
  have hP:=h.ext hE
  obtain⟨k0,c1,d1,c2,e1,_,_,hr⟩:=hP.at (List.getElem?_eq_getElem hjl)
  have hmu:p.length-Int.toNat ((j:Int)+1)<p.length-Int.toNat (j:Int):=by omega
  refine⟨hP.inB (by omega) (by omega),_,_,_,c1,d1,c2,e1,Cj8 k0 fun W13 hE13 _=>⟨_,rfl,by unfold I64;omega,⟨j+1,by push_cast;rfl,by omega,hE.trans hE13,by rw[Ce0 hjl,Em4]⟩,hmu⟩⟩
 ·have:j=p.length:=by omega
  subst this
  rw[List.take_length]
theorem Co3 {W0 W:PW} {M:Nat→Prop} {s:Sl} {p:List Tm} {K:Value→PW→Prop} (h:Ab0 284 165 W s p) (hl:p.length≤1099511627776) (kont: ∀(W':PW),Ext W W'→(True)→K (.int .i64 (Fd0 Cx8 0 p)) W'):
  Aa1 Tryz.prog W0 M 23 [.agg ⟨[s.v]⟩] W K:=
 Aa2 (fun W' hE=>Dd3 (M:=fun _=>False) (h.ext hE) hl) (fun W' v W'' hE hE' hP=>by
  obtain⟨rfl,h⟩:=hP
  exact kont W'' (hE.trans hE') h)
end Go.Proofs.YtjkkidjbppphpaaGreatDoor
/- cinctureref1.times; poly.At, cinctureref1.At. -/
namespace Go.Proofs.YtjkkidjbppphpaaGreatDoor
open Go Go.SX
structure Pt where
 x:Rat
 y:Rat
 z:Rat
def Pt.get (u:Pt) (k:Nat):Rat:=if k=0 then u.x else if k=1 then u.y else u.z
def ctm (t:Tm) (u:Pt):Nat→Rat
 | 0=>t.2
 | j+1=>ctm t u j*u.get j^(An6 t.1 j).toNat
def atQ (u:Pt) (p:List Tm):Rat:=p.foldl (fun a t=>a+ctm t u 3) 0
theorem Gs5 (u:Pt) (l:List Tm) (t:Tm):atQ u (l ++ [t])=atQ u l+ctm t u 3:=by simp[atQ]
theorem Gu9 {t:Tm} {u:Pt} {k l e:Nat} (ht:Sz k t.2) (hu: ∀i,Sz l (u.get i)) (he: ∀i,(An6 t.1 i).toNat≤e): ∀j,Sz (k+j*(l*e+1)) (ctm t u j)
 | 0=>by rw[Nat.zero_mul,Nat.add_zero];exact ht
 | j+1=>by
  have h1:=Gu9 ht hu he j
  have h2:=Sz.Fe7 (hu j) (An6 t.1 j).toNat
  have h3:=Nat.mul_le_mul_left l (he j)
  exact(h1.mul h2).mono (by rw[Nat.add_mul,Nat.one_mul];omega)
theorem Gx6 {u:Pt} {k l e:Nat} {p:List Tm} (hp: ∀t∈p,Sz k t.2) (hu: ∀i,Sz l (u.get i)) (he: ∀t∈p,∀i,(An6 t.1 i).toNat≤e):Sz (p.length*(k+3*(l*e+1)+1)+1) (atQ u p):=by
 have key: ∀j,j≤p.length→Sz (j*(k+3*(l*e+1)+1)+1) (atQ u (p.take j)):=by
  intro j
  induction j with
  | zero=>intro _;exact Sz.zero (by omega)
  | succ j ih=>
   intro hj
   have hjl:j<p.length:=by omega
   rw[Ce0 hjl,Gs5]
   have h1:=ih (by omega)
   have h2:=Gu9 (hp _ (List.getElem_mem hjl)) hu (he _ (List.getElem_mem hjl)) 3
   refine(h1.add h2).mono ?_
   rw[Nat.add_mul,Nat.one_mul]
   omega
 have:=key p.length (Nat.le_refl _)
 rwa [List.take_length] at this
theorem Gq6 {m:Mon} (h:m.ok) (i:Nat):(An6 m i).toNat≤255:=by
 have:=Dg9 h i
 omega
def atO (W0:PW) (p:List Tm) (u:Pt) (L:List PL) (W:PW):Prop:=match L with
 | [.val (.int .i64 i),.cells [.slice A m c,.bool x,.slice A' m' c']]=>∃j:Nat,i=(j:Int)∧j≤p.length∧Ext W0 W∧Ab3 284 W ⟨A,m,c⟩ x ⟨A',m',c'⟩ (atQ u (p.take j))
 | _=>False
def atI (W1:PW) (t:Tm) (u:Pt) (L:List PL) (W:PW):Prop:=match L with
 | [.val (.int .i64 i),.cells [.slice A m c,.bool x,.slice A' m' c']]=>∃j:Nat,i=(j:Int)∧j≤3∧Ext W1 W∧Ab3 284 W ⟨A,m,c⟩ x ⟨A',m',c'⟩ (ctm t u j)
 | _=>False
theorem Gv4 {W0:PW} {M:Nat→Prop} {s s0 t0 s1 t1 s2 t2:Sl} {b0 b1 b2:Bool} {p:List Tm} {u:Pt} {k l:Nat} (h:Ab0 284 165 W0 s p) (g0:Ab3 284 W0 s0 b0 t0 u.x) (g1:Ab3 284 W0 s1 b1 t1 u.y) (g2:Ab3 284 W0 s2 b2 t2 u.z) (hp: ∀t∈p,Sz k t.2) (hu: ∀i,Sz l (u.get i)) (hl:l≤100000) (hb:p.length*(k+3*(l*255+1)+1)+1≤400000000) (hk:k+3*(l*255+1)≤400000000):
  Aa0 Tryz.prog 39 [.agg ⟨[s.v]⟩,.agg ⟨[s0.v,.bool b0,t0.v,s1.v,.bool b1,t1.v,s2.v,.bool b2,t2.v]⟩] W0 M fun v W'=>∃(s':Sl),∃(b':Bool),∃(t':Sl),v = .agg ⟨[Sl.v s',.bool b',Sl.v t']⟩∧Ab3 284 W' s' b' t' (atQ u p):=by
 apply Gq4
 have hn:=h.n
 have hpl:p.length≤400000000:=by
  have:=Nat.le_mul_of_pos_right p.length (show 0<k+3*(l*255+1)+1 by omega)
  omega
 refine⟨atO W0 p u,cn1 p.length,⟨0,rfl,by omega,Ext.refl _,Ar9 W0⟩,?_⟩
 rintro s3 b4 s5 i6 W7 ⟨j,rfl,hj,hE7,hs⟩
 have hs:Ab3 284 W7 s3 b4 s5 (atQ u (p.take j)):=hs
 refine⟨fun hlt=>?_,fun hge W40 hE40=>⟨s3,b4,s5,rfl,?_⟩⟩
 ·have hjl:j<p.length:=by omega
  have hP:=h.ext hE7
  have hm:=List.getElem_mem hjl
  obtain⟨h0,c1,d1,c2,e1,_,_,hr⟩:=hP.at (List.getElem?_eq_getElem hjl)
  have hcs:=fun i=>Gu9 (j:=i) (hp _ hm) hu (fun i=>Gq6 h0 i)
  have hbd: ∀i,i≤3→k+i*(l*255+1)≤400000000:=fun i hi=>by
   have:=Nat.mul_le_mul_right (l*255+1) hi
   omega
  refine⟨hP.inB (by omega) (by omega),_,_,_,c1,d1,c2,e1,atI W7 p[j] u,cn1 3,⟨0,rfl,by omega,Ext.refl _,hr⟩,?_⟩
  rintro s16 b17 s18 i19 W20 ⟨m,rfl,hm3,hE20,hc⟩
  have hc:Ab3 284 W20 s16 b17 s18 (ctm p[j] u m):=hc
  refine⟨fun hlt'=>?_,fun hge'=>?_⟩
  ·have hm3':m<3:=by omega
   have hmr:(0:Int)≤(m:Int)∧(m:Int)<3:=⟨by omega,by omega⟩
   have hek:=Dg9 h0 m
   have hE:=hE7.trans hE20
   obtain⟨x1,y1,z1,hbx,hux⟩: ∃(x1:Sl) (y1:Bool) (z1:Sl),As9 [s0.v,.bool b0,t0.v,s1.v,.bool b1,t1.v,s2.v,.bool b2,t2.v] (0+Int.toNat (m:Int)*3+0) [x1.v,.bool y1,z1.v]∧Ab3 284 W20 x1 y1 z1 (u.get m):=by
    rcases(by omega:m=0∨m=1∨m=2) with rfl | rfl | rfl
    ·exact⟨s0,b0,t0,⟨by simp,rfl⟩,g0.ext hE⟩
    ·exact⟨s1,b1,t1,⟨by simp,rfl⟩,g1.ext hE⟩
    ·exact⟨s2,b2,t2,⟨by simp,rfl⟩,g2.ext hE⟩
   obtain⟨n,hnn⟩:=Int.eq_ofNat_of_zero_le hek.1
   refine⟨hmr,_,Cn5 p[j].1 hm3',hmr,x1,y1,z1,hbx,by unfold I64;omega,?_⟩
   rw[hnn]
   have hp2:=Nat.mul_le_mul_left l (by omega:n≤255)
   refine Bq4 hux (hu m) (by omega) (by omega) fun s27 b28 s29 W26 hE26 h26=>⟨s27,b28,s29,rfl,Ak9 (hc.ext hE26) h26 (hcs m) (Sz.Fe7 (hu m) n) (by have:=hbd m (by omega);omega) (by omega) fun s32 b33 s34 W31 hE31 h31=>⟨s32,b33,s34,rfl,by unfold I64;omega,⟨m+1,by push_cast;rfl,by omega,hE20.trans (hE26.trans hE31),?_⟩,?_⟩⟩
   ·show Ab3 284 W31 s32 b33 s34 (ctm p[j] u m*u.get m^(An6 p[j].1 m).toNat)
    rw[hnn]
    exact h31
   ·show 3-Int.toNat ((m:Int)+1)<3-Int.toNat (m:Int)
    omega
  ·have:m=3:=by omega
   subst this
   have hsz:=Gx6 (u:=u) (p:=p.take j) (k:=k) (l:=l) (e:=255) (fun t ht=>hp t (List.mem_of_mem_take ht)) hu (fun t ht i=>Gq6 (h.ok t (List.mem_of_mem_take ht)) i)
   have hl2:(p.take j).length*(k+3*(l*255+1)+1)≤p.length*(k+3*(l*255+1)+1):=Nat.mul_le_mul_right _ (by rw[List.length_take];omega)
   refine At2 (hs.ext hE20) hc hsz (hcs 3) (by omega) (by omega) fun s37 b38 s39 W36 hE36 h36=>⟨s37,b38,s39,rfl,by unfold I64;omega,⟨j+1,by push_cast;rfl,by omega,hE7.trans (hE20.trans hE36),?_⟩,?_⟩
   ·rw[Ce0 hjl,Gs5]
    exact h36
   ·show p.length-Int.toNat ((j:Int)+1)<p.length-Int.toNat (j:Int)
    omega
 ·have:j=p.length:=by omega
  subst this
  rw[List.take_length] at hs
  exact hs.ext hE40
theorem Gr5 {W0 W:PW} {M:Nat→Prop} {s s0 t0 s1 t1 s2 t2:Sl} {b0 b1 b2:Bool} {p:List Tm} {u:Pt} {k l:Nat} {K:Value→PW→Prop} (h:Ab0 284 165 W s p) (g0:Ab3 284 W s0 b0 t0 u.x) (g1:Ab3 284 W s1 b1 t1 u.y) (g2:Ab3 284 W s2 b2 t2 u.z) (hp: ∀t∈p,Sz k t.2) (hu: ∀i,Sz l (u.get i)) (hl:l≤100000) (hb:p.length*(k+3*(l*255+1)+1)+1≤400000000) (hk:k+3*(l*255+1)≤400000000) (kont: ∀(s':Sl) (b':Bool) (t':Sl) (W':PW),Ext W W'→(Ab3 284 W' s' b' t' (atQ u p))→K (.agg ⟨[Sl.v s',.bool b',Sl.v t']⟩) W'):
  Aa1 Tryz.prog W0 M 39 [.agg ⟨[s.v]⟩,.agg ⟨[s0.v,.bool b0,t0.v,s1.v,.bool b1,t1.v,s2.v,.bool b2,t2.v]⟩] W K:=
 Aa2 (fun W' hE=>Gv4 (M:=fun _=>False) (h.ext hE) (g0.ext hE) (g1.ext hE) (g2.ext hE) hp hu hl hb hk) (fun W' v W'' hE hE' hP=>by
  obtain⟨s',b',t',rfl,h⟩:=hP
  exact kont s' b' t' W'' (hE.trans hE') h)
end Go.Proofs.YtjkkidjbppphpaaGreatDoor
/- What a polynomial comes to at a point is in what its terms come to on intervals around it: plain law. -/
namespace Go.Proofs.YtjkkidjbppphpaaGreatDoor
open Go Go.SX
end Go.Proofs.YtjkkidjbppphpaaGreatDoor
