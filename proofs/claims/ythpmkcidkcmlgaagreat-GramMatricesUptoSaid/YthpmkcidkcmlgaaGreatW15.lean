/- slices.Backward of bytes; mono.Vars. -/
import Derived.Test.YthpmkcidkcmlgaaGreatW3
import Derived.Test.YthpmkcidkcmlgaaGreatW11
import Derived.Test.YthpmkcidkcmlgaaGreatW12
import Derived.Test.YthpmkcidkcmlgaaGreatR14
import Derived.Test.YthpmkcidkcmlgaaGreatW14
import Derived.Test.YthpmkcidkcmlgaaGreatLib4
import Derived.Test.YthpmkcidkcmlgaaGreatR5
import Derived.Test.YthpmkcidkcmlgaaGreatW6
import Derived.Test.YthpmkcidkcmlgaaGreatLib2
import Derived.Test.YthpmkcidkcmlgaaGreatLib1
set_option linter.unusedVariables false
set_option linter.unusedSimpArgs false
set_option linter.unusedVariables false
set_option linter.unusedSimpArgs false
namespace Go.Proofs.YthpmkcidkcmlgaaGreat
open Go Go.SX Go.RowKit Go.Shelf
attribute [local go_sem] Oper.semAt_some
def bkMem8 (Bs:Nat) (v:Value) (b off:Nat) (zs:List Nat) (pre:List (Nat×Nat)) (W:World):Prop:=W.cell? ⟨Bs,0,none⟩=some v∧∀j,j<zs.length-pre.length→W.cell? ⟨b,off+j,none⟩=some (.int .u8 ((zs[j]?.getD 0:Nat):Int))
def bkEnc8 (x:Nat×Nat):Array Value:=#[.int .i64 (x.1:Int),.int .u8 (x.2:Int)]
set_option maxRecDepth 100000 in
set_option maxHeartbeats 2000000 in
theorem back1_in8 (n:Nat) (hn:1≤n) (Bs b off cap:Nat) (zs:List Nat) (hreach:zs.length≤1099511627776):
  SeqMem Fence.wide n Go.Proofs.Tryz.prog 252 #[.pointer (some ⟨Bs,0,none⟩)] bkEnc8 (bkMem8 Bs (.slice (some ⟨b,off,none⟩) zs.length cap) b off zs) (bkNx zs) (fun xs=>xs=bks zs zs.length) (fun pre=>∃k,k<zs.length∧pre=bks zs (k+1)):=by
 intro l J Jx W hJ hY h0
 refine callsIn_of_wp Go.Proofs.Tryz.func252 rfl trivial ?_ rfl
 simp only[Go.Proofs.Tryz.ntmps252,List.size_toArray,List.length_cons,List.length_nil,Nat.reduceAdd,Nat.reduceSub,Array.replicate_succ,Array.replicate_zero,List.push_toArray,List.append_toArray,List.nil_append,List.cons_append]
 have hbox:W.cell? ⟨Bs,0,none⟩=some (.slice (some ⟨b,off,none⟩) zs.length cap):=(hJ _ _ h0).1
 gi_wp2
 gi_loopw [3,7,8,9,10,11,12,13,14,15,16,17,18] (fun i _ _ _ _ _ _ _ _ _ _ _ _ wr=>∃m:Nat,m≤zs.length∧i = .int .i64 ((m:Int)-1)∧J (bks zs (zs.length-m)) wr)
  (fun i _ _ _ _ _ _ _ _ _ _ _ _ _=>(intOf i+1).toNat)
 case atStart=>exact⟨zs.length,Nat.le_refl _,rfl,by simpa[bks] using h0⟩
 case round=>
  obtain⟨m,hm,rfl,hJs⟩:=hrel
  obtain⟨hbx,hmem⟩:=hJ _ _ hJs
  cases m with
  | zero=>
   gi_wp2
   go_end0
   exact⟨⟨_,rfl⟩,.inl ⟨_,rfl,by simpa using hJs⟩⟩
  | succ k=>
   have hk:k<zs.length:=by omega
   have hcx:wr.cell? ⟨b,off+k,none⟩=some (.int .u8 ((zs[k]?.getD 0:Nat):Int)):=hmem k (by rw[bks_length];omega)
   have e1:((k+1:Nat):Int)-1=(k:Int):=by omega
   have hx:bk zs (zs.length-(k+1))=(k,zs[k]?.getD 0):=by simp only[bk];rw[show zs.length-1-(zs.length-(k+1))=k by omega]
   obtain⟨fn,tmps,assign,body,hy,hR⟩:=hY _ (bk zs (zs.length-(k+1))) wr hJs ⟨by rw[bks_length];omega,by rw[bks_length],by rw[bks_length]⟩
   obtain⟨d,hd⟩: ∃d,zs[k]?.getD 0=d:=⟨_,rfl⟩
   rw[hd] at hcx hx
   rw[hx] at hy hR
   rw[e1]
   dsimp only[bkEnc8] at hy
   have hpre:bks zs (zs.length-(k+1)) ++ [(k,d)]=bks zs (zs.length-(k+1)+1):=by rw[bks_succ,hx]
   gi_wp2
   refine hR.mono ?_
   rintro e W3 (⟨rfl,hJ3⟩ | ⟨rfl,hJx3⟩)
   ·rw[hpre,show zs.length-(k+1)+1=zs.length-k by omega] at hJ3
    gi_wp2
    go_roundw
    case rel=>exact⟨k,by omega,rfl,hJ3⟩
    case measure=>simp[intOf]
   ·rw[hpre] at hJx3
    gi_wp2
    refine bodyPost_ret (results_none rfl _ _ _) rfl ?_
    exact⟨⟨_,rfl⟩,.inr ⟨_,⟨_,by omega,rfl⟩,hJx3⟩⟩
set_option maxRecDepth 100000 in
set_option maxHeartbeats 2000000 in
theorem back1_nil_in8 (n:Nat) (hn:1≤n) (Bs:Nat) (A:Option Addr) (cap:Nat) (Mem:List (Nat×Nat)→World→Prop) (hMem: ∀pre W,Mem pre W→W.cell? ⟨Bs,0,none⟩=some (.slice A 0 cap)):
  SeqMem Fence.wide n Go.Proofs.Tryz.prog 252 #[.pointer (some ⟨Bs,0,none⟩)] bkEnc8 Mem (bkNx []) (fun xs=>xs=bks [] 0) (fun pre=>∃k,k<0∧pre=bks [] (k+1)):=by
 intro l J Jx W hJ hY h0
 refine callsIn_of_wp Go.Proofs.Tryz.func252 rfl trivial ?_ rfl
 simp only[Go.Proofs.Tryz.ntmps252,List.size_toArray,List.length_cons,List.length_nil,Nat.reduceAdd,Nat.reduceSub,Array.replicate_succ,Array.replicate_zero,List.push_toArray,List.append_toArray,List.nil_append,List.cons_append]
 have hbox:W.cell? ⟨Bs,0,none⟩=some (.slice A 0 cap):=hMem _ _ (hJ _ _ h0)
 gi_wp2
 gi_loopw [3,7,8] (fun i _ _ wr=>i = .int .i64 (-1)∧J [] wr) (fun _ _ _ _=>0)
 case atStart=>exact⟨by simp,h0⟩
 case round=>
  obtain⟨rfl,hJs⟩:=hrel
  gi_wp2
  go_end0
  exact⟨⟨_,rfl⟩,.inl ⟨_,rfl,hJs⟩⟩
def bkA8 (Bs:Nat) (A:Option Addr) (cap:Nat) (zs:List Nat) (pre:List (Nat×Nat)) (W:World):Prop:=W.cell? ⟨Bs,0,none⟩=some (.slice A zs.length cap)∧∀b off,A=some ⟨b,off,none⟩→∀j,j<zs.length-pre.length→W.cell? ⟨b,off+j,none⟩=some (.int .u8 ((zs[j]?.getD 0:Nat):Int))
theorem back_in8 (n:Nat) (hn:1≤n) (Bs:Nat) (A:Option Addr) (cap:Nat) (zs:List Nat) (hreach:zs.length≤1099511627776) (hA:zs = []∨∃b off,A=some ⟨b,off,none⟩):
  SeqMem Fence.wide n Go.Proofs.Tryz.prog 252 #[.pointer (some ⟨Bs,0,none⟩)] bkEnc8 (bkA8 Bs A cap zs) (bkNx zs) (fun xs=>xs=bks zs zs.length) (fun pre=>∃k,k<zs.length∧pre=bks zs (k+1)):=by
 rcases hA with rfl | ⟨b,off,rfl⟩
 ·exact back1_nil_in8 n hn Bs A cap _ fun pre W h=>h.1
 ·intro l J Jx W hJ hY h0
  exact back1_in8 n hn Bs b off cap zs hreach l J Jx W (fun pre W' h=>⟨(hJ pre W' h).1,(hJ pre W' h).2 b off rfl⟩) hY h0
set_option maxHeartbeats 1000000 in
theorem backward_in8 (n:Nat) (a:Option Addr) (len cap:Nat) (w:World):
  CallsIn Fence.wide n Go.Proofs.Tryz.prog 223 #[.slice a len cap] w fun e w'=>e = .returned (.func (.func 252) #[] #[.pointer (some ⟨w.heap.size,0,none⟩)])∧w'=w.alloc (.cells #[.slice a len cap] 328):=by
 refine callsIn_of_wp Go.Proofs.Tryz.func223 rfl trivial ?_ rfl
 simp only[Go.Proofs.Tryz.ntmps223,List.size_toArray,List.length_cons,List.length_nil,Nat.reduceAdd,Nat.reduceSub,Array.replicate_succ,Array.replicate_zero,List.push_toArray,List.append_toArray,List.nil_append,List.cons_append]
 gi_wp2
 go_ret
 exact⟨rfl,rfl⟩
def varsN (zs:List Nat):Nat:=if 0<zs[2]?.getD 0 then 3 else if 0<zs[1]?.getD 0 then 2 else if 0<zs[0]?.getD 0 then 1 else 0
set_option maxRecDepth 100000 in
set_option maxHeartbeats 4000000 in
theorem vars_in (n:Nat) (hn:3≤n) (x y z:Nat) (w:World):
  CallsIn Fence.wide n Go.Proofs.Tryz.prog 163 #[.agg #[.int .u8 (x:Int),.int .u8 (y:Int),.int .u8 (z:Int)]] w fun e W'=>e = .returned (.int .i64 (varsN [x,y,z]:Nat))∧BelowD w W':=by
 refine callsIn_of_wp_marks Go.Proofs.Tryz.func163 rfl trivial ?_ rfl
 simp only[Go.Proofs.Tryz.ntmps163,List.size_toArray,List.length_cons,List.length_nil,Nat.reduceAdd,Nat.reduceSub,Array.replicate_succ,Array.replicate_zero,List.push_toArray,List.append_toArray,List.nil_append,List.cons_append]
 gi_wp2
 refine⟨trivial,fun _=>by omega,(backward_in8 (n-1) _ _ _ _).mono ?_⟩
 rintro e w' ⟨rfl,rfl⟩
 gi_wp2
 obtain⟨W4,hW4⟩: ∃W4,(((w.alloc (.cells #[.int .u8 (x:Int),.int .u8 (y:Int),.int .u8 (z:Int)] 183)).alloc (.cells #[.int .i64 0] 3)).alloc (.cells #[.slice (some ⟨w.heap.size,0,none⟩) 3 3] 328))=W4:=⟨_,rfl⟩
 have hsz:W4.heap.size=w.heap.size+1+1+1:=by rw[←hW4];simp
 have hB4:BelowD w W4:=by rw[←hW4];exact⟨((((Below.refl _ w).alloc (Nat.le_refl _) _).alloc (by simp) _).alloc (by simp;omega) _),Nat.le_refl _⟩
 have bL:Boxed W4 (w.heap.size+1+1) 328 (.slice (some ⟨w.heap.size,0,none⟩) 3 3):=by
  rw[←hW4]
  have:=Boxed.new ((w.alloc (.cells #[.int .u8 (x:Int),.int .u8 (y:Int),.int .u8 (z:Int)] 183)).alloc (.cells #[.int .i64 0] 3)) 328 (.slice (some ⟨w.heap.size,0,none⟩) 3 3)
  simpa using this
 have bR:Boxed W4 (w.heap.size+1) 3 (.int .i64 0):=by
  rw[←hW4]
  have:=Boxed.new (w.alloc (.cells #[.int .u8 (x:Int),.int .u8 (y:Int),.int .u8 (z:Int)] 183)) 3 (.int .i64 0)
  simpa using this.alloc (.cells #[.slice (some ⟨w.heap.size,0,none⟩) 3 3] 328)
 have hX0:W4.heap[w.heap.size]?=some (.cells #[.int .u8 (x:Int),.int .u8 (y:Int),.int .u8 (z:Int)] 183):=by
  rw[←hW4]
  rw[Below.heap_alloc _ _ _ (by simp;omega),Below.heap_alloc _ _ _ (by simp)]
  exact World.alloc_heap_new w _
 have hX: ∀j,j<3→W4.cell? ⟨w.heap.size,0+j,none⟩=some (.int .u8 ((([x,y,z]:List Nat)[j]?.getD 0:Nat):Int)):=fun j hj=>by
  simp only[World.cell?,hX0]
  rcases(by omega:j=0∨j=1∨j=2) with rfl | rfl | rfl<;>rfl
 rw[hW4]
 refine wpIn_rangeMem (α:=Nat×Nat) (n:=n) rfl (by omega) (gf:=252) (lb:=#[.pointer (some ⟨w.heap.size+1+1,0,none⟩)]) rfl trivial (enters_of Go.Proofs.Tryz.func252 (by kernel_rfl) rfl)
  (back_in8 (n-1) (by omega) (w.heap.size+1+1) (some ⟨w.heap.size,0,none⟩) 3 [x,y,z] (by simp) (.inr ⟨_,_,rfl⟩)) (fun _=>rfl)
  (fun pre W=>((∀p∈pre,p.2=0)∧W.cell? ⟨w.heap.size+1,0,none⟩=some (.int .i64 0)∧W.frozen? ⟨w.heap.size+1,0,none⟩=false∧(∀j,j<3→W.cell? ⟨w.heap.size,0+j,none⟩=some (.int .u8 ((([x,y,z]:List Nat)[j]?.getD 0:Nat):Int)))∧W.cell? ⟨w.heap.size+1+1,0,none⟩=some (.slice (some ⟨w.heap.size,0,none⟩) 3 3))∧BelowD w W)
  (fun c pre W=>(c = .ret∧∃ini last,pre=ini ++ [last]∧(∀p∈ini,p.2=0)∧0<last.2∧W.cell? ⟨w.heap.size+1,0,none⟩=some (.int .i64 ((last.1:Int)+1)))∧BelowD w W)
  ?_ ?_ ?_ ?_
  (fun v=>{tmps:=#[.agg #[.int .u8 (x:Int),.int .u8 (y:Int),.int .u8 (z:Int)],.pointer (some ⟨w.heap.size,0,none⟩),.pointer (some ⟨w.heap.size+1,0,none⟩),.int .i64 (v.1:Int),.int .u8 (v.2:Int),.slice (some ⟨w.heap.size,0,none⟩) 3 3,
    .func (.func 252) #[] #[.pointer (some ⟨w.heap.size+1+1,0,none⟩)],.int .i64 (v.1:Int),.int .u8 (v.2:Int),undef,undef,undef,undef],defers:=[] }) ?assign ?body ?done ?stop
 case assign=>
  intro l p W K hK
  simp only[bkEnc8]
  gi_wp2
  exact hK
 case body=>
  rintro l pre p W ⟨⟨hp,hcr,hfr,hcy,hcl⟩,hB⟩ ⟨hlen,hpre,hpx⟩
  have hi:p.1<3:=by rw[hpx];simp only[bk];simp;omega
  obtain⟨i,v⟩:=p
  dsimp only at *
  gi_wp2
  ·have hlt:0<v:=by first | assumption | omega
   exact⟨(KeepsOthers.setCell _ _ _).from _,⟨rfl,pre,(i,v),rfl,hp,hlt,World.cell?_setCell_same' _ _ _ (by rw[hcr];rfl)⟩,hB.setCell (p:=⟨w.heap.size+1,0,none⟩) (by show w.heap.size≤w.heap.size+1;omega) _⟩
  ·have h0:v=0:=by omega
   refine⟨KeepsFrom.refl _ _,trivial,⟨fun p hp'=>?_,hcr,hfr,hcy,hcl⟩,hB⟩
   rcases List.mem_append.1 hp' with h | h
   ·exact hp p h
   ·simp at h;subst h;exact h0
 case done=>
  rintro D ps W hD rfl ⟨⟨hne,hcr,hfr,hcy,hcl⟩,hB⟩ hK
  gi_wp2
  have hK':=(KeepsOthers.setCell W ⟨w.heap.size+1,0,none⟩ (.int .i64 0)).same D _ hK rfl
  refine⟨by simp,.inl ⟨_,_,rfl,run_takeDeferred hK',?_⟩⟩
  have hc5:=cell_kept (World.cell?_setCell_same' W ⟨w.heap.size+1,0,none⟩ (.int .i64 0) (by rw[hcr];rfl)) (grownBy_putObj' _ D (.deferred none)) (fun r e=>by cases e;exact⟨_,hK',rfl⟩)
  refine⟨.int .i64 0,?_,?_,(hB.setCell (p:=⟨w.heap.size+1,0,none⟩) (by show w.heap.size≤w.heap.size+1;omega) _).put (by omega) hK' rfl rfl⟩
  ·simp[results,Go.Proofs.Tryz.f163,go_sem,hc5]
  ·have hz: ∀k,k<3→([x,y,z]:List Nat)[3-1-k]?.getD 0=0:=fun k hk=>hne (bk [x,y,z] k) (List.mem_map.2 ⟨k,List.mem_range.2 (by simpa using hk),rfl⟩)
   have h0:=hz 0 (by omega)
   have h1:=hz 1 (by omega)
   have h2:=hz 2 (by omega)
   simp at h0 h1 h2
   simp[varsN,h0,h1,h2]
 case stop=>
  rintro D c pre W hD ⟨k,hk,rfl⟩ ⟨⟨rfl,ini,last,e1,e2,e3,hcr⟩,hB⟩ hK
  gi_wp2
  refine⟨by simp,.inl ⟨_,_,rfl,run_takeDeferred hK,?_⟩⟩
  rw[bks_succ] at e1
  obtain⟨rfl,e5⟩:=List.append_inj' e1 rfl
  have e6:last=bk [x,y,z] k:=by simpa using e5.symm
  subst e6
  have hBD:=hB.put (o':=.deferred none) (by omega) hK rfl rfl
  have hc5:=cell_kept hcr (grownBy_putObj' _ D (.deferred none)) (fun r e=>by cases e;exact⟨_,hK,rfl⟩)
  have hz: ∀j,j<k→([x,y,z]:List Nat)[3-1-j]?.getD 0=0:=fun j hj=>e2 (bk [x,y,z] j) (List.mem_map.2 ⟨j,List.mem_range.2 hj,rfl⟩)
  refine⟨.int .i64 (((bk [x,y,z] k).1:Int)+1),by simp[results,Go.Proofs.Tryz.f163,go_sem,hc5],?_,hBD⟩
  have hk3:k<3:=by simpa using hk
  rcases(by omega:k=0∨k=1∨k=2) with rfl | rfl | rfl
  ·have e3:0<z:=e3
   simp[varsN,bk,e3]
  ·have h0:=hz 0 (by omega)
   have e3:0<y:=e3
   simp at h0
   simp[varsN,bk,e3,h0]
  ·have h0:=hz 0 (by omega)
   have h1:=hz 1 (by omega)
   have e3:0<x:=e3
   simp at h0 h1
   simp[varsN,bk,e3,h0,h1]
 ·exact OwnFromD.and (Own.fromD (fun s A B row hs hg hr=>⟨hs.1,cell_kept hs.2.1 hg hr,(frozen_kept hs.2.1 hg hr).trans hs.2.2.1,fun j hj=>cell_kept (hs.2.2.2.1 j hj) hg hr,cell_kept hs.2.2.2.2 hg hr⟩) _) (ownFrom_belowD (by omega))
 ·exact fun c=>OwnFromD.and (Own.fromD (fun s A B row hs hg hr=>by
   obtain⟨hc,ini,last,e1,e2,e3,e4⟩:=hs
   exact⟨hc,ini,last,e1,e2,e3,cell_kept e4 hg hr⟩) _) (ownFrom_belowD (by omega))
 ·rintro pre W ⟨⟨_,_,_,hcy,hcl⟩,hB⟩
  refine⟨hcl,fun b off hA j hj=>?_⟩
  cases hA
  exact hcy j (by simp at hj;omega)
 ·exact⟨⟨by simp,bR.cell,bR.frozen,hX,bL.cell⟩,hB4⟩
def varsM (m:Mon):Int:=if 0<m.z then 3 else if 0<m.y then 2 else if 0<m.x then 1 else 0
theorem monoVars_ok {W0:PW} {M:Nat→Prop} {m:Mon} (hm:m.ok):
  PCallsM Go.Proofs.Tryz.prog 163 [.agg ⟨[.int .u8 m.x,.int .u8 m.y,.int .u8 m.z]⟩] W0 M fun v W'=>v = .int .i64 (varsM m)∧True:=by
 refine⟨⟨_,Go.Proofs.Tryz.func163,rfl,rfl⟩,fun _=>?_⟩
 obtain⟨⟨x0,_⟩,⟨y0,_⟩,z0,_⟩:=hm
 obtain⟨mx,my,mz⟩:=m
 obtain⟨x,rfl⟩:=Int.eq_ofNat_of_zero_le x0
 obtain⟨y,rfl⟩:=Int.eq_ofNat_of_zero_le y0
 obtain⟨z,rfl⟩:=Int.eq_ofNat_of_zero_le z0
 have:=callsIn_wide.1 (vars_in 5 (by omega) x y z W0.w)
 have e:((varsN [x,y,z]:Nat):Int)=varsM ⟨x,y,z⟩:=by
  simp only[varsN,varsM]
  show((if 0<z then 3 else if 0<y then 2 else if 0<x then 1 else 0:Nat):Int)=_
  (repeat' split)<;>omega
 rw[e] at this
 exact Calls.mono this fun e w' ⟨he,hB⟩=>⟨_,he,keep_of_below hB,rfl,trivial⟩
theorem monoVars_call {W0 W:PW} {M:Nat→Prop} {m:Mon} {K:Value→PW→Prop} (hm:m.ok) (kont: ∀(W':PW),Ext W W'→(True)→K (.int .i64 (varsM m)) W'):
  callN Go.Proofs.Tryz.prog W0 M 163 [.agg ⟨[.int .u8 m.x,.int .u8 m.y,.int .u8 m.z]⟩] W K:=
 callN_of (fun W' hE=>monoVars_ok (M:=fun _=>False) hm) (fun W' v W'' hE hE' hP=>by
  obtain⟨rfl,h⟩:=hP
  exact kont W'' (hE.trans hE') h)
end Go.Proofs.YthpmkcidkcmlgaaGreat

/- poly.Degree, poly.Top. -/
set_option maxRecDepth 100000
set_option linter.unusedVariables false
set_option linter.unusedSimpArgs false
namespace Go.Proofs.YthpmkcidkcmlgaaGreat
open Go Go.SX
def topw (i:Int) (m:Mon):Int:=if 0≤i∧i<3 then eget m i.toNat else 0
theorem polyDegree_ok {W0:PW} {M:Nat→Prop} {s:Sl} {p:List Tm} (h:IsPoly 317 188 W0 s p) (hl:p.length≤1099511627776):
  PCallsM Go.Proofs.Tryz.prog 75 [.agg ⟨[s.v]⟩] W0 M fun v W'=>v = .int .i64 (lastDeg p)∧True:=by
 apply callpoly_Degree
 have hn:=h.n
 refine⟨fun h0 W1 _=>⟨?_,trivial⟩,fun h0=>?_⟩
 ·have:p = []:=List.eq_nil_of_length_eq_zero (by omega)
  subst this
  rfl
 ·have hp:p.length-1<p.length:=by omega
  obtain⟨k0,c1,d1,c2,e1,e2,_,hr⟩:=h.at (List.getElem?_eq_getElem hp)
  rw[show Int.toNat ((s.n:Int)-1)=p.length-1 by omega]
  refine⟨by unfold I64;omega,h.inB (by omega) (by omega),_,_,_,e2,monoDegree_call k0 fun W6 _ _=>⟨_,rfl,fun W8 _=>⟨?_,trivial⟩⟩⟩
  unfold lastDeg
  rw[List.getLast?_eq_getElem?,List.getElem?_eq_getElem hp]
theorem polyDegree_call {W0 W:PW} {M:Nat→Prop} {s:Sl} {p:List Tm} {K:Value→PW→Prop} (h:IsPoly 317 188 W s p) (hl:p.length≤1099511627776) (kont: ∀(W':PW),Ext W W'→(True)→K (.int .i64 (lastDeg p)) W'):
  callN Go.Proofs.Tryz.prog W0 M 75 [.agg ⟨[s.v]⟩] W K:=
 callN_of (fun W' hE=>polyDegree_ok (M:=fun _=>False) (h.ext hE) hl) (fun W' v W'' hE hE' hP=>by
  obtain⟨rfl,h⟩:=hP
  exact kont W'' (hE.trans hE') h)
def topI (W0:PW) (p:List Tm) (i:Int) (L:List PL) (W:PW):Prop:=match L with
 | [.val (.int .i64 a),.val (.int .i64 k)]=>∃j:Nat,k=(j:Int)∧j≤p.length∧Ext W0 W∧a=maxf (topw i) 0 (p.take j)
 | _=>False
def topM (p:List Tm) (L:List PL) (_:PW):Nat:=match L with
 | [_,.val (.int .i64 k)]=>p.length-k.toNat
 | _=>0
def varI (W0:PW) (p:List Tm) (L:List PL) (W:PW):Prop:=match L with
 | [.val (.int .i64 a),.val (.int .i64 k)]=>∃j:Nat,k=(j:Int)∧j≤p.length∧Ext W0 W∧a=maxf varsM 0 (p.take j)
 | _=>False
theorem polyVars_ok {W0:PW} {M:Nat→Prop} {s:Sl} {p:List Tm} (h:IsPoly 317 188 W0 s p) (hl:p.length≤1099511627776):
  PCallsM Go.Proofs.Tryz.prog 84 [.agg ⟨[s.v]⟩] W0 M fun v W'=>v = .int .i64 (maxf varsM 0 p)∧True:=by
 apply callpoly_Vars
 have hn:=h.n
 refine⟨varI W0 p,topM p,⟨0,rfl,by omega,Ext.refl _,rfl⟩,?_⟩
 rintro i3 i4 W5 ⟨j,rfl,hj,hE,rfl⟩
 refine⟨fun hlt=>?_,fun hge W13 _=>⟨?_,trivial⟩⟩
 ·have hjl:j<p.length:=by omega
  have hP:=h.ext hE
  obtain⟨k0,c1,d1,c2,e1,_,_,hr⟩:=hP.at (List.getElem?_eq_getElem hjl)
  have hmu:p.length-Int.toNat ((j:Int)+1)<p.length-Int.toNat (j:Int):=by omega
  refine⟨hP.inB (by omega) (by omega),_,_,_,c1,d1,c2,e1,monoVars_call k0 fun W13 hE13 _=>⟨_,rfl,by unfold I64;omega,⟨j+1,by push_cast;rfl,by omega,hE.trans hE13,by rw[take_snocR hjl,maxf_snoc]⟩,hmu⟩⟩
 ·have:j=p.length:=by omega
  subst this
  rw[List.take_length]
theorem polyVars_call {W0 W:PW} {M:Nat→Prop} {s:Sl} {p:List Tm} {K:Value→PW→Prop} (h:IsPoly 317 188 W s p) (hl:p.length≤1099511627776) (kont: ∀(W':PW),Ext W W'→(True)→K (.int .i64 (maxf varsM 0 p)) W'):
  callN Go.Proofs.Tryz.prog W0 M 84 [.agg ⟨[s.v]⟩] W K:=
 callN_of (fun W' hE=>polyVars_ok (M:=fun _=>False) (h.ext hE) hl) (fun W' v W'' hE hE' hP=>by
  obtain⟨rfl,h⟩:=hP
  exact kont W'' (hE.trans hE') h)
end Go.Proofs.YthpmkcidkcmlgaaGreat

/- mat: none, even, Right, One, Turn, Same; cincturelaw11.Shaped. -/
set_option maxRecDepth 100000
set_option linter.unusedVariables false
set_option linter.unusedSimpArgs false
namespace Go.Proofs.YthpmkcidkcmlgaaGreat
open Go Go.SX
theorem qs_zero {t:TypeId} (W:PW) (c:Nat):Qs t W (List.replicate c [.slice none 0 0,.bool false,.slice none 0 0]) c (fun _=>0):=
 ⟨by simp,fun i hi=>⟨⟨none,0,0⟩,false,⟨none,0,0⟩,by simp[hi],isRat_zero W⟩⟩
def noneI (n0:Nat) (W0:PW) (r c:Nat) (l:List PL) (W:PW):Prop:=
 match l with
 | [.val (.int .i64 i),.row l3]=>Ext W0 W∧∃(k:Nat) (ss:List Sl),i=(k:Int)∧k≤r∧ss.length=k∧l3=(ss.map fun x=>[x.v]) ++ List.replicate (r-k) [.slice none 0 0]∧
   (∀i (h:i<ss.length),∃xs,Go.SX.Own W 51 3 ss[i] xs∧Qs 317 W xs c (fun _=>0)∧∀g,ss[i].v.ownBlock=some g→n0≤g)∧
   ∀i j (hi:i<ss.length) (hj:j<ss.length),i≠j→∀g,ss[i].v.ownBlock=some g→ss[j].v.ownBlock≠some g
 | _=>False
def noneM (r:Nat) (l:List PL) (W:PW):Nat:=
 match l with
 | [.val (.int .i64 i),_]=>r-i.toNat
 | _=>0
theorem matNone_ok {W0:PW} {M:Nat→Prop} {n0 r c:Nat} (hn:NewFrom n0 W0) (hr:r≤1048576) (hc:c≤1048576):
  PCallsM Go.Proofs.Tryz.prog 99 [.int .i64 (r:Int),.int .i64 (c:Int)] W0 M fun v W'=>∃(s':Sl),v=Sl.v s'∧OMat 317 51 100 (n0≤·) W' s' r c (fun _ _=>0):=by
 apply callmat_none
 refine⟨⟨rfl,by omega,by omega⟩,noneI n0 W0 r c,noneM r,⟨Ext.refl _,0,[],rfl,Nat.zero_le _,rfl,by simp,fun i h=>by simp at h,fun i j h=>by simp at h⟩,?_⟩
 rintro l3 i4 W5 ⟨hE5,k,ss,rfl,hk,hl,rfl,h3,h4⟩
 rw[List.length_replicate,show Int.toNat (r:Int)=r from rfl,show Int.toNat (c:Int)=c from rfl,show Int.toNat (k:Int)=k from rfl]
 have hlen:((ss.map fun x=>[x.v]) ++ List.replicate (r-k) [Value.slice none 0 0]).length=r:=by simp;omega
 refine⟨fun hlt=>⟨⟨rfl,by omega,by omega⟩,⟨by omega,by rw[hlen];omega⟩,fun s6 W7 hE7 hO hf=>⟨by rw[hlen];omega,by unfold I64;omega,⟨hE5.trans hE7,k+1,ss ++ [s6],by push_cast;rfl,by omega,by simp[hl],?_,?_,?_⟩,?_⟩⟩,fun hge s9 W10 hE10 hO hf W12 hE12=>⟨s9,rfl,?_⟩⟩
 ·rw[List.set_append_right _ _ (by simp[hl])]
  simp only[List.length_map,hl,Nat.sub_self,List.map_append,List.map_cons,List.map_nil]
  rw[show r-k=(r-(k+1))+1 by omega,List.replicate_succ,List.set_cons_zero]
  simp
 ·intro i h
  by_cases e:i<ss.length
  ·obtain⟨xs,k1,k2,k3⟩:=h3 i e
   rw[List.getElem_append_left e]
   exact⟨xs,k1.ext hE7,k2.ext hE7,k3⟩
  ·have:i=ss.length:=by simp at h;omega
   subst this
   rw[List.getElem_concat_length rfl]
   refine⟨_,hO,qs_zero W7 c,fun g hg=>?_⟩
   exact Nat.le_trans hn (hf g hg).1
 ·have key: ∀i (hi:i<ss.length) g,s6.v.ownBlock=some g→ss[i].v.ownBlock≠some g:=by
   intro i hi g hg hg'
   obtain⟨xs,k1,k2,k3⟩:=h3 i hi
   by_cases hx:xs = []
   ·have hn:=k1.n
    subst hx
    have h6:=hO.n
    rcases k1.1.2.2 with⟨hv,_⟩ | ⟨g1,cap,cur,hv,_,hh,_⟩
    ·rw[hv] at hg'
     simp[Value.ownBlock] at hg'
    ·have hgg:ss[i].v.ownBlock=some g1:=by rw[hv];rfl
     rw[hg'] at hgg
     cases hgg
     exact k1.2 g hg' ((hf g hg).2 (Array.getElem?_eq_some_iff.1 hh).1)
   ·obtain⟨g1,cs,_,hg1,hS,hh,_⟩:=k1.at hx
    rw[hg'] at hg1
    cases hg1
    exact hS ((hf g hg).2 (Array.getElem?_eq_some_iff.1 hh).1)
  intro i j hi hj hne g hg hg'
  simp only[List.length_append,List.length_cons,List.length_nil] at hi hj
  by_cases ei:i<ss.length
  ·rw[List.getElem_append_left ei] at hg
   by_cases ej:j<ss.length
   ·rw[List.getElem_append_left ej] at hg'
    exact h4 i j ei ej hne g hg hg'
   ·have:j=ss.length:=by omega
    subst this
    rw[List.getElem_concat_length rfl] at hg'
    exact key i ei g hg' hg
  ·have:i=ss.length:=by omega
   subst this
   rw[List.getElem_concat_length rfl] at hg
   rw[List.getElem_append_left (by omega)] at hg'
   exact key j (by omega) g hg hg'
 ·show r-Int.toNat ((k:Int)+1)<r-Int.toNat (k:Int)
  omega
 ·have hkr:k=r:=by omega
  subst hkr
  rw[Nat.sub_self,List.replicate_zero,List.append_nil] at hO
  exact⟨ss,hl,(hO.ext hE12).row,fun i hi=>let⟨xs,k1,k2,k3⟩:=h3 i hi;⟨xs,(k1.ext hE10).ext hE12,(k2.ext hE10).ext hE12,k3⟩,h4⟩
theorem matNone_call {W0 W:PW} {M:Nat→Prop} {n0 r c:Nat} {K:Value→PW→Prop} (hn:NewFrom n0 W) (hr:r≤1048576) (hc:c≤1048576) (kont: ∀(s':Sl) (W':PW),Ext W W'→(OMat 317 51 100 (n0≤·) W' s' r c (fun _ _=>0))→K (Sl.v s') W'):
  callN Go.Proofs.Tryz.prog W0 M 99 [.int .i64 (r:Int),.int .i64 (c:Int)] W K:=
 callN_of (fun W' hE=>matNone_ok (M:=fun _=>False) (hn.ext hE) hr hc) (fun W' v W'' hE hE' hP=>by
  obtain⟨s',rfl,h⟩:=hP
  exact kont s' W'' (hE.trans hE') h)
def RightP (r:Nat) (c:Nat→Nat):Prop:=(∀i,i<r→c i=c 0)∧1≤r∧r≤12∧1≤c 0∧c 0≤12
theorem matEven_ok {W0:PW} {M:Nat→Prop} {s:Sl} {r:Nat} {c:Nat→Nat} {m:Nat→Nat→Rat} (h:IsMat 317 51 100 W0 s r c m) (hr:r≤1099511627776):
  PCallsM Go.Proofs.Tryz.prog 173 [s.v] W0 M fun v W'=>∃(b:Bool),v = .bool b∧(b=true↔RightP r c):=by
 apply callmat_even_rat_Rat
 have hn:=h.n
 refine⟨fun l W=>match l with | [.val (.int .i64 i)]=>Ext W0 W∧∃k:Nat,i=(k:Int)∧k≤r∧∀i,i<k→c i=c 0 | _=>False,fun l _=>match l with | [.val (.int .i64 i)]=>r-i.toNat | _=>0,⟨Ext.refl _,0,rfl,Nat.zero_le _,fun i h=>(by omega)⟩,?_⟩
 rintro i3 W4 ⟨hE4,k,rfl,hk,hck⟩
 have h4:=h.ext hE4
 refine⟨fun hlt=>?_,fun hge=>⟨fun h1=>⟨fun h12=>?_,fun h12=>fun W14 _=>⟨false,rfl,?_⟩⟩,fun h1=>fun W21 _=>⟨false,rfl,?_⟩⟩⟩
 ·obtain⟨x,e1,e2⟩:=h4.at (i:=k) (by omega)
  obtain⟨y,f1,f2⟩:=h4.at (i:=0) (by omega)
  have n1:=e2.n
  have n2:=f2.n
  refine⟨h4.inB (by omega) (by omega),x,e1,h4.inB (by omega) (by omega),y,f1,fun hne W7 _=>⟨false,rfl,?_⟩,fun heq=>⟨by unfold I64;omega,⟨hE4,k+1,by push_cast;rfl,by omega,fun i hi=>?_⟩,?_⟩⟩
  ·refine⟨fun h=>(by cases h),fun h=>?_⟩
   have:=h.1 k (by omega)
   omega
  ·by_cases e:i=k
   ·subst e;omega
   ·exact hck i (by omega)
  ·show r-Int.toNat ((k:Int)+1)<r-Int.toNat (k:Int)
   omega
 ·have hkr:k=r:=by omega
  obtain⟨y,f1,f2⟩:=h4.at (i:=0) (by omega)
  have n2:=f2.n
  have ib:=h4.inB (i:=0) (by omega) (by omega)
  refine⟨ib,y,f1,fun hy=>⟨ib,y,f1,fun W10 _=>⟨_,rfl,?_⟩⟩,fun hy W11 _=>⟨false,rfl,?_⟩⟩
  ·rw[decide_eq_true_iff]
   exact⟨fun h=>⟨fun i hi=>hck i (by omega),by omega,by omega,by omega,by omega⟩,fun h=>by have:=h.2.2.2.2;omega⟩
  ·refine⟨fun h=>(by cases h),fun h=>?_⟩
   have:=h.2.2.2.1
   omega
 ·refine⟨fun h=>(by cases h),fun h=>?_⟩
  have:=h.2.2.1
  omega
 ·refine⟨fun h=>(by cases h),fun h=>?_⟩
  have:=h.2.1
  omega
theorem matEven_call {W0 W:PW} {M:Nat→Prop} {s:Sl} {r:Nat} {c:Nat→Nat} {m:Nat→Nat→Rat} {K:Value→PW→Prop} (h:IsMat 317 51 100 W s r c m) (hr:r≤1099511627776) (kont: ∀(b:Bool) (W':PW),Ext W W'→((b=true↔RightP r c))→K (.bool b) W'):
  callN Go.Proofs.Tryz.prog W0 M 173 [s.v] W K:=
 callN_of (fun W' hE=>matEven_ok (M:=fun _=>False) (h.ext hE) hr) (fun W' v W'' hE hE' hP=>by
  obtain⟨b,rfl,h⟩:=hP
  exact kont b W'' (hE.trans hE') h)
theorem matRight_ok {W0:PW} {M:Nat→Prop} {s:Sl} {r:Nat} {c:Nat→Nat} {m:Nat→Nat→Rat} (h:IsMat 317 51 100 W0 s r c m) (hr:r≤1099511627776):
  PCallsM Go.Proofs.Tryz.prog 94 [s.v] W0 M fun v W'=>∃(b:Bool),v = .bool b∧(b=true↔RightP r c):=by
 apply callmat_Right
 exact matEven_call h hr fun b W2 hE2 hb=>⟨b,rfl,fun W4 hE4=>⟨b,rfl,hb⟩⟩
theorem matRight_call {W0 W:PW} {M:Nat→Prop} {s:Sl} {r:Nat} {c:Nat→Nat} {m:Nat→Nat→Rat} {K:Value→PW→Prop} (h:IsMat 317 51 100 W s r c m) (hr:r≤1099511627776) (kont: ∀(b:Bool) (W':PW),Ext W W'→((b=true↔RightP r c))→K (.bool b) W'):
  callN Go.Proofs.Tryz.prog W0 M 94 [s.v] W K:=
 callN_of (fun W' hE=>matRight_ok (M:=fun _=>False) (h.ext hE) hr) (fun W' v W'' hE hE' hP=>by
  obtain⟨b,rfl,h⟩:=hP
  exact kont b W'' (hE.trans hE') h)
end Go.Proofs.YthpmkcidkcmlgaaGreat
