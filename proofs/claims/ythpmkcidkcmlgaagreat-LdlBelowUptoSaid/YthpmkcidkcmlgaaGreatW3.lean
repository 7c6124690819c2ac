/- slices.Backward of limbs; nat.Cmp. -/
import Derived.RangeFuncBox
import Derived.RangeFuncLeaves
import Derived.Shelf.Abstract
import Derived.WalkKit
import Derived.OwnWalkIn
import Derived.TacticsInMore
import Derived.LoopNIn
import Derived.LoopIn
import Derived.Test.YthpmkcidkcmlgaaGreatW2
import Derived.Test.YthpmkcidkcmlgaaGreatLib2
set_option linter.unusedVariables false
set_option linter.unusedSimpArgs false
set_option linter.unusedVariables false
set_option linter.unusedSimpArgs false
namespace Go.Proofs.YthpmkcidkcmlgaaGreat
open Go Go.SX Go.RowKit Go.Shelf
attribute [local go_sem] Oper.semAt_some
def bk (zs:List Nat) (k:Nat):Nat×Nat:=(zs.length-1-k,zs[zs.length-1-k]?.getD 0)
def bks (zs:List Nat) (k:Nat):List (Nat×Nat):=(List.range k).map (bk zs)
theorem bks_succ (zs:List Nat) (k:Nat):bks zs (k+1)=bks zs k ++ [bk zs k]:=by simp[bks,List.range_succ]
theorem bks_length (zs:List Nat) (k:Nat):(bks zs k).length=k:=by simp[bks]
def bkMem (Bs:Nat) (v:Value) (b off:Nat) (zs:List Nat) (pre:List (Nat×Nat)) (W:World):Prop:=W.cell? ⟨Bs,0,none⟩=some v∧∀j,j<zs.length-pre.length→W.cell? ⟨b,off+j,none⟩=some (.int .u32 ((zs[j]?.getD 0:Nat):Int))
def bkNx (zs:List Nat) (pre:List (Nat×Nat)) (x:Nat×Nat):Prop:=pre.length<zs.length∧pre=bks zs pre.length∧x=bk zs pre.length
def bkEnc (x:Nat×Nat):Array Value:=#[.int .i64 (x.1:Int),.int .u32 (x.2:Int)]
set_option maxRecDepth 100000 in
set_option maxHeartbeats 2000000 in
theorem back1_in (n:Nat) (hn:1≤n) (Bs b off cap:Nat) (zs:List Nat) (hreach:zs.length≤1099511627776):
  SeqMem Fence.wide n Go.Proofs.Tryz.prog 245 #[.pointer (some ⟨Bs,0,none⟩)] bkEnc (bkMem Bs (.slice (some ⟨b,off,none⟩) zs.length cap) b off zs) (bkNx zs) (fun xs=>xs=bks zs zs.length) (fun pre=>∃k,k<zs.length∧pre=bks zs (k+1)):=by
 intro l J Jx W hJ hY h0
 refine callsIn_of_wp Go.Proofs.Tryz.func245 rfl trivial ?_ rfl
 simp only[Go.Proofs.Tryz.ntmps245,List.size_toArray,List.length_cons,List.length_nil,Nat.reduceAdd,Nat.reduceSub,Array.replicate_succ,Array.replicate_zero,List.push_toArray,List.append_toArray,List.nil_append,List.cons_append]
 have hbox:W.cell? ⟨Bs,0,none⟩=some (.slice (some ⟨b,off,none⟩) zs.length cap):=(hJ _ _ h0).1
 gi_wp2
 gi_loopw [3,7,8,9,10,11,12,13,14,15,16,17,18] (fun i _ _ _ _ _ _ _ _ _ _ _ _ wr=>∃m:Nat,m≤zs.length∧i = .int .i64 ((m:Int)-1)∧J (bks zs (zs.length-m)) wr)
  (fun i _ _ _ _ _ _ _ _ _ _ _ _ _=>(intOf i+1).toNat)
 case atStart=>exact⟨zs.length,Nat.le_refl _,rfl,by simpa[bks] using h0⟩
 case round=>
  obtain⟨m,hm,rfl,hJs⟩:=hrel
  obtain⟨hbx,hmem⟩:=hJ _ _ hJs
  cases m with
  | zero=>
   gi_wp2
   go_end0
   exact⟨⟨_,rfl⟩,.inl ⟨_,rfl,by simpa using hJs⟩⟩
  | succ k=>
   have hk:k<zs.length:=by omega
   have hcx:wr.cell? ⟨b,off+k,none⟩=some (.int .u32 ((zs[k]?.getD 0:Nat):Int)):=hmem k (by rw[bks_length];omega)
   have e1:((k+1:Nat):Int)-1=(k:Int):=by omega
   have hx:bk zs (zs.length-(k+1))=(k,zs[k]?.getD 0):=by simp only[bk];rw[show zs.length-1-(zs.length-(k+1))=k by omega]
   obtain⟨fn,tmps,assign,body,hy,hR⟩:=hY _ (bk zs (zs.length-(k+1))) wr hJs ⟨by rw[bks_length];omega,by rw[bks_length],by rw[bks_length]⟩
   obtain⟨d,hd⟩: ∃d,zs[k]?.getD 0=d:=⟨_,rfl⟩
   rw[hd] at hcx hx
   rw[hx] at hy hR
   rw[e1]
   dsimp only[bkEnc] at hy
   have hpre:bks zs (zs.length-(k+1)) ++ [(k,d)]=bks zs (zs.length-(k+1)+1):=by rw[bks_succ,hx]
   gi_wp2
   refine hR.mono ?_
   rintro e W3 (⟨rfl,hJ3⟩ | ⟨rfl,hJx3⟩)
   ·rw[hpre,show zs.length-(k+1)+1=zs.length-k by omega] at hJ3
    gi_wp2
    go_roundw
    case rel=>exact⟨k,by omega,rfl,hJ3⟩
    case measure=>simp[intOf]
   ·rw[hpre] at hJx3
    gi_wp2
    refine bodyPost_ret (results_none rfl _ _ _) rfl ?_
    exact⟨⟨_,rfl⟩,.inr ⟨_,⟨_,by omega,rfl⟩,hJx3⟩⟩
set_option maxRecDepth 100000 in
set_option maxHeartbeats 2000000 in
theorem back1_nil_in (n:Nat) (hn:1≤n) (Bs:Nat) (A:Option Addr) (cap:Nat) (Mem:List (Nat×Nat)→World→Prop) (hMem: ∀pre W,Mem pre W→W.cell? ⟨Bs,0,none⟩=some (.slice A 0 cap)):
  SeqMem Fence.wide n Go.Proofs.Tryz.prog 245 #[.pointer (some ⟨Bs,0,none⟩)] bkEnc Mem (bkNx []) (fun xs=>xs=bks [] 0) (fun pre=>∃k,k<0∧pre=bks [] (k+1)):=by
 intro l J Jx W hJ hY h0
 refine callsIn_of_wp Go.Proofs.Tryz.func245 rfl trivial ?_ rfl
 simp only[Go.Proofs.Tryz.ntmps245,List.size_toArray,List.length_cons,List.length_nil,Nat.reduceAdd,Nat.reduceSub,Array.replicate_succ,Array.replicate_zero,List.push_toArray,List.append_toArray,List.nil_append,List.cons_append]
 have hbox:W.cell? ⟨Bs,0,none⟩=some (.slice A 0 cap):=hMem _ _ (hJ _ _ h0)
 gi_wp2
 gi_loopw [3,7,8] (fun i _ _ wr=>i = .int .i64 (-1)∧J [] wr) (fun _ _ _ _=>0)
 case atStart=>exact⟨by simp,h0⟩
 case round=>
  obtain⟨rfl,hJs⟩:=hrel
  gi_wp2
  go_end0
  exact⟨⟨_,rfl⟩,.inl ⟨_,rfl,hJs⟩⟩
def bkA (Bs:Nat) (A:Option Addr) (cap:Nat) (zs:List Nat) (pre:List (Nat×Nat)) (W:World):Prop:=W.cell? ⟨Bs,0,none⟩=some (.slice A zs.length cap)∧∀b off,A=some ⟨b,off,none⟩→∀j,j<zs.length-pre.length→W.cell? ⟨b,off+j,none⟩=some (.int .u32 ((zs[j]?.getD 0:Nat):Int))
theorem back_in (n:Nat) (hn:1≤n) (Bs:Nat) (A:Option Addr) (cap:Nat) (zs:List Nat) (hreach:zs.length≤1099511627776) (hA:zs = []∨∃b off,A=some ⟨b,off,none⟩):
  SeqMem Fence.wide n Go.Proofs.Tryz.prog 245 #[.pointer (some ⟨Bs,0,none⟩)] bkEnc (bkA Bs A cap zs) (bkNx zs) (fun xs=>xs=bks zs zs.length) (fun pre=>∃k,k<zs.length∧pre=bks zs (k+1)):=by
 rcases hA with rfl | ⟨b,off,rfl⟩
 ·exact back1_nil_in n hn Bs A cap _ fun pre W h=>h.1
 ·intro l J Jx W hJ hY h0
  exact back1_in n hn Bs b off cap zs hreach l J Jx W (fun pre W' h=>⟨(hJ pre W' h).1,(hJ pre W' h).2 b off rfl⟩) hY h0
set_option maxHeartbeats 1000000 in
theorem backward_in (n:Nat) (a:Option Addr) (len cap:Nat) (w:World):
  CallsIn Fence.wide n Go.Proofs.Tryz.prog 214 #[.slice a len cap] w fun e w'=>e = .returned (.func (.func 245) #[] #[.pointer (some ⟨w.heap.size,0,none⟩)])∧w'=w.alloc (.cells #[.slice a len cap] 45):=by
 refine callsIn_of_wp Go.Proofs.Tryz.func214 rfl trivial ?_ rfl
 simp only[Go.Proofs.Tryz.ntmps214,List.size_toArray,List.length_cons,List.length_nil,Nat.reduceAdd,Nat.reduceSub,Array.replicate_succ,Array.replicate_zero,List.push_toArray,List.append_toArray,List.nil_append,List.cons_append]
 gi_wp2
 go_ret
 exact⟨rfl,rfl⟩
end Go.Proofs.YthpmkcidkcmlgaaGreat

/- nat.Cmp. -/
set_option linter.unusedVariables false
set_option linter.unusedSimpArgs false
namespace Go.Proofs.YthpmkcidkcmlgaaGreat
open Go Go.SX Go.RowKit Go.Shelf
attribute [local go_sem] Oper.semAt_some
def cmpN (x y:Nat):Int:=if x<y then -1 else if x=y then 0 else 1
theorem cmpN_lt {x y:Nat} (h:x<y):cmpN x y = -1:=by simp[cmpN,h]
theorem cmpN_eq (x:Nat):cmpN x x=0:=by simp[cmpN]
theorem cmpN_gt {x y:Nat} (h:y<x):cmpN x y=1:=by
 unfold cmpN
 rw[if_neg (by omega),if_neg (by omega)]
def Lim (n₀ :Nat) (W:World) (A:Option Addr) (l:List Nat):Prop:=l = []∨∃b off,A=some ⟨b,off,none⟩∧b<n₀∧∀j,j<l.length→W.cell? ⟨b,off+j,none⟩=some (.int .u32 ((l[j]?.getD 0:Nat):Int))
theorem Lim.below {n₀ :Nat} {V W:World} {A:Option Addr} {l:List Nat} (h:Lim n₀ V A l) (hB:Below n₀ V W):Lim n₀ W A l:=by
 rcases h with h | ⟨b,off,hA,hb,hc⟩
 ·exact .inl h
 ·exact .inr ⟨b,off,hA,hb,fun j hj=>(hB.cell (p:=⟨b,off+j,none⟩) hb).trans (hc j hj)⟩
theorem val_top {l r:List Nat} (hl:Dig l) {i:Nat} (hil:i<l.length) (hir:i<r.length) (h:l.drop (i+1)=r.drop (i+1)) (hlt:l[i]<r[i]):val l<val r:=by
 have e1:=val_split l (k:=i+1) hil
 have e2:=val_split r (k:=i+1) hir
 rw[val_take_succ hil] at e1
 rw[val_take_succ hir] at e2
 rw[e1,e2,h]
 have h1:=val_take_lt hl i
 have h2:=Nat.mul_le_mul_left (B^i) (show l[i]+1≤r[i] from hlt)
 rw[Nat.mul_add,Nat.mul_one] at h2
 omega
set_option maxRecDepth 100000 in
set_option maxHeartbeats 4000000 in
theorem cmp_in (n:Nat) (hn:3≤n) (A A':Option Addr) (cap cap':Nat) (x y:Nat) (hx:nl x≤549755813888) (hy:nl y≤549755813888) (w:World) (hX:Lim w.heap.size w A (dg x)) (hY:Lim w.heap.size w A' (dg y)):
  CallsIn Fence.wide n Go.Proofs.Tryz.prog 153 #[.agg #[.slice A (dg x).length cap],.agg #[.slice A' (dg y).length cap']] w fun e W'=>e = .returned (.int .i64 (cmpN x y))∧BelowD w W':=by
 refine callsIn_of_wp_marks Go.Proofs.Tryz.func153 rfl trivial ?_ rfl
 simp only[Go.Proofs.Tryz.ntmps153,List.size_toArray,List.length_cons,List.length_nil,Nat.reduceAdd,Nat.reduceSub,Array.replicate_succ,Array.replicate_zero,List.push_toArray,List.append_toArray,List.nil_append,List.cons_append]
 have hB3: ∀v,BelowD w (((w.alloc (.cells #[.slice A (dg x).length cap] 47)).alloc (.cells #[.slice A' (dg y).length cap'] 47)).alloc (.cells #[v] 3)):=fun v=>⟨((((Below.refl _ w).alloc (Nat.le_refl _) _).alloc (by simp) _).alloc (by simp;omega) _),Nat.le_refl _⟩
 gi_wp2
 ·have hlt:(dg x).length<(dg y).length:=by assumption
  refine⟨.int .i64 (-1),by simp[results,Go.Proofs.Tryz.f153,go_sem],?_,hB3 _⟩
  rw[cmpN_lt]
  apply Nat.lt_of_not_le
  intro h
  have:=nl_mono h
  unfold nl at this
  omega
 ·have hne:¬(dg x).length<(dg y).length:=by assumption
  have hne2:((((dg x).length:Nat):Int) != (((dg y).length:Nat):Int))=true:=by assumption
  have hne3:(dg x).length≠(dg y).length:=by
   intro e
   rw[e] at hne2
   simp at hne2
  refine⟨.int .i64 1,by simp[results,Go.Proofs.Tryz.f153,go_sem],?_,hB3 _⟩
  rw[cmpN_gt]
  apply Nat.lt_of_not_le
  intro h
  have:=nl_mono h
  unfold nl at this
  omega
 ·have hne2:((((dg x).length:Nat):Int) != (((dg y).length:Nat):Int))=false:=by assumption
  have hle:(dg x).length=(dg y).length:=by
   have:(((dg x).length:Nat):Int)=(((dg y).length:Nat):Int):=by
    rcases Decidable.em ((((dg x).length:Nat):Int)=(((dg y).length:Nat):Int)) with h | h
    ·exact h
    ·simp only[bne_eq_false_iff_eq] at hne2
     exact hne2
   omega
  refine⟨trivial,fun _=>by omega,(backward_in (n-1) _ _ _ _).mono ?_⟩
  rintro e w' ⟨rfl,rfl⟩
  gi_wp2
  obtain⟨W4,hW4⟩: ∃W4,((((w.alloc (.cells #[.slice A (dg y).length cap] 47)).alloc (.cells #[.slice A' (dg y).length cap'] 47)).alloc (.cells #[.int .i64 0] 3)).alloc (.cells #[.slice A (dg y).length cap] 45))=W4:=⟨_,rfl⟩
  have hsz:W4.heap.size=w.heap.size+1+1+1+1:=by rw[←hW4];simp
  have hB4:BelowD w W4:=by rw[←hW4];have:=hB3 (.int .i64 0);rw[hle] at this;exact⟨this.b.alloc (by simp;omega) _,this.d⟩
  have bL:Boxed W4 (w.heap.size+1+1+1) 45 (.slice A (dg y).length cap):=by
   rw[←hW4]
   have:=Boxed.new (((w.alloc (.cells #[.slice A (dg y).length cap] 47)).alloc (.cells #[.slice A' (dg y).length cap'] 47)).alloc (.cells #[.int .i64 0] 3)) 45 (.slice A (dg y).length cap)
   simpa using this
  have bR:Boxed W4 (w.heap.size+1+1) 3 (.int .i64 0):=by
   rw[←hW4]
   have:=Boxed.new ((w.alloc (.cells #[.slice A (dg y).length cap] 47)).alloc (.cells #[.slice A' (dg y).length cap'] 47)) 3 (.int .i64 0)
   simpa using this.alloc (.cells #[.slice A (dg y).length cap] 45)
  have bY:Boxed W4 (w.heap.size+1) 47 (.slice A' (dg y).length cap'):=by
   rw[←hW4]
   have:=Boxed.new (w.alloc (.cells #[.slice A (dg y).length cap] 47)) 47 (.slice A' (dg y).length cap')
   simpa using(this.alloc (.cells #[.int .i64 0] 3)).alloc (.cells #[.slice A (dg y).length cap] 45)
  rw[hW4]
  have hlx:(dg x).length≤549755813888:=hx
  have hly:(dg y).length≤549755813888:=hy
  have hAx:dg x = []∨∃b off,A=some ⟨b,off,none⟩:=by
   rcases hX with h | ⟨b,off,h,_⟩
   ·exact .inl h
   ·exact .inr ⟨b,off,h⟩
  have eq2: ∀{W:World},Below w.heap.size w W→∀k,k<(dg y).length→∃b off,A'=some ⟨b,off,none⟩∧W.cell? ⟨b,off+k,none⟩=some (.int .u32 (((dg y)[k]?.getD 0:Nat):Int)):=fun hB k hk=>by
   rcases hY.below hB with h | ⟨b,off,h,_,hc⟩
   ·rw[h] at hk;simp at hk
   ·exact⟨b,off,h,hc k hk⟩
  refine wpIn_rangeMem (α:=Nat×Nat) (n:=n) rfl (by omega) (gf:=245) (lb:=#[.pointer (some ⟨w.heap.size+1+1+1,0,none⟩)]) rfl trivial (enters_of Go.Proofs.Tryz.func245 (by kernel_rfl) rfl)
   (back_in (n-1) (by omega) (w.heap.size+1+1+1) A cap (dg x) (by omega) hAx) (fun _=>rfl)
   (fun pre W=>((∀p∈pre,(dg y)[p.1]?.getD 0=p.2)∧W.cell? ⟨w.heap.size+1+1,0,none⟩=some (.int .i64 0)∧W.frozen? ⟨w.heap.size+1+1,0,none⟩=false∧W.cell? ⟨w.heap.size+1,0,none⟩=some (.slice A' (dg y).length cap')∧W.cell? ⟨w.heap.size+1+1+1,0,none⟩=some (.slice A (dg y).length cap))∧BelowD w W)
   (fun c pre W=>(c = .ret∧∃ini last,pre=ini ++ [last]∧(∀p∈ini,(dg y)[p.1]?.getD 0=p.2)∧((last.2<(dg y)[last.1]?.getD 0∧W.cell? ⟨w.heap.size+1+1,0,none⟩=some (.int .i64 (-1)))∨((dg y)[last.1]?.getD 0<last.2∧W.cell? ⟨w.heap.size+1+1,0,none⟩=some (.int .i64 1))))∧BelowD w W)
   ?_ ?_ ?_ ?_
   (fun x=>{tmps:=#[.agg #[.slice A (dg y).length cap],.agg #[.slice A' (dg y).length cap'],.pointer (some ⟨w.heap.size,0,none⟩),.pointer (some ⟨w.heap.size+1,0,none⟩),.pointer (some ⟨w.heap.size+1+1,0,none⟩),.int .i64 (x.1:Int),.int .u32 (x.2:Int),
     .pointer (some ⟨w.heap.size,0,none⟩),.slice A (dg y).length cap,.int .i64 ((dg y).length:Nat),.pointer (some ⟨w.heap.size+1,0,none⟩),.slice A' (dg y).length cap',.int .i64 ((dg y).length:Nat),.bool false,undef,undef,undef,undef,undef,undef,undef,
     .pointer (some ⟨w.heap.size,0,none⟩),.slice A (dg y).length cap,.func (.func 245) #[] #[.pointer (some ⟨w.heap.size+1+1+1,0,none⟩)],.int .i64 (x.1:Int),.int .u32 (x.2:Int),undef,undef,undef,undef,undef,undef,undef,undef,undef,undef,undef,undef,undef,undef,undef,undef],defers:=[] }) ?assign ?body ?done ?stop
  case assign=>
   intro l p W K hK
   simp only[bkEnc]
   gi_wp2
   exact hK
  case body=>
   rintro l pre p W ⟨⟨hp,hcr,hfr,hcy,hcl⟩,hB⟩ ⟨hlen,hpre,hpx⟩
   have hi:p.1<(dg y).length:=by rw[hpx];simp only[bk];omega
   obtain⟨b',off',hA',hcell⟩:=eq2 hB.b p.1 hi
   subst hA'
   obtain⟨d,hd⟩: ∃d,(dg y)[p.1]?.getD 0=d:=⟨_,rfl⟩
   rw[hd] at hcell
   obtain⟨i,v⟩:=p
   dsimp only at *
   gi_wp2
   ·have hlt:v<d:=by assumption
    exact⟨(KeepsOthers.setCell _ _ _).from _,⟨rfl,pre,(i,v),rfl,hp,.inl ⟨by rw[hd];exact hlt,World.cell?_setCell_same' _ _ _ (by rw[hcr];rfl)⟩⟩,hB.setCell (p:=⟨w.heap.size+1+1,0,none⟩) (by show w.heap.size≤w.heap.size+1+1;omega) _⟩
   ·have hlt:d<v:=by assumption
    exact⟨(KeepsOthers.setCell _ _ _).from _,⟨rfl,pre,(i,v),rfl,hp,.inr ⟨by rw[hd];exact hlt,World.cell?_setCell_same' _ _ _ (by rw[hcr];rfl)⟩⟩,hB.setCell (p:=⟨w.heap.size+1+1,0,none⟩) (by show w.heap.size≤w.heap.size+1+1;omega) _⟩
   ·have h1:¬v<d:=by assumption
    have h2:¬d<v:=by assumption
    refine⟨KeepsFrom.refl _ _,trivial,⟨fun p hp'=>?_,hcr,hfr,hcy,hcl⟩,hB⟩
    rcases List.mem_append.1 hp' with h | h
    ·exact hp p h
    ·simp at h;subst h;show(dg y)[i]?.getD 0=v;omega
  case done=>
   rintro D ps W hD rfl ⟨⟨hne,hcr,hfr,hcy,hcl⟩,hB⟩ hK
   gi_wp2
   have hK':=(KeepsOthers.setCell W ⟨w.heap.size+1+1,0,none⟩ (.int .i64 0)).same D _ hK rfl
   refine⟨by simp,.inl ⟨_,_,rfl,run_takeDeferred hK',?_⟩⟩
   have hc5:=cell_kept (World.cell?_setCell_same' W ⟨w.heap.size+1+1,0,none⟩ (.int .i64 0) (by rw[hcr];rfl)) (grownBy_putObj' _ D (.deferred none)) (fun r e=>by cases e;exact⟨_,hK',rfl⟩)
   refine⟨.int .i64 0,?_,?_,(hB.setCell (p:=⟨w.heap.size+1+1,0,none⟩) (by show w.heap.size≤w.heap.size+1+1;omega) _).put (by omega) hK' rfl rfl⟩
   ·simp[results,Go.Proofs.Tryz.f153,go_sem,hc5]
   ·have hxy:dg x=dg y:=by
     apply List.ext_getElem hle
     intro i h1 h2
     have hm:bk (dg x) ((dg x).length-1-i)∈bks (dg x) (dg x).length:=List.mem_map.2 ⟨_,List.mem_range.2 (by omega),rfl⟩
     have:=hne _ hm
     simp only[bk] at this
     rw[show(dg x).length-1-((dg x).length-1-i)=i by omega] at this
     rw[List.getElem?_eq_getElem h1,List.getElem?_eq_getElem h2] at this
     exact this.symm
    have:x=y:=by rw[←val_dg x,←val_dg y,hxy]
    rw[this,cmpN_eq]
  case stop=>
   rintro D c pre W hD ⟨k,hk,rfl⟩ ⟨⟨rfl,ini,last,e1,e2,e3⟩,hB⟩ hK
   gi_wp2
   refine⟨by simp,.inl ⟨_,_,rfl,run_takeDeferred hK,?_⟩⟩
   rw[bks_succ] at e1
   obtain⟨rfl,e5⟩:=List.append_inj' e1 rfl
   have e6:last=bk (dg x) k:=by simpa using e5.symm
   subst e6
   obtain⟨i,hi⟩: ∃i,(dg x).length-1-k=i:=⟨_,rfl⟩
   have hix:i<(dg x).length:=by omega
   have hiy:i<(dg y).length:=by omega
   simp only[bk,hi] at e3
   rw[List.getElem?_eq_getElem hix,List.getElem?_eq_getElem hiy] at e3
   simp only[Option.getD_some] at e3
   have hdrop:(dg x).drop (i+1)=(dg y).drop (i+1):=by
    apply List.ext_getElem (by simp;omega)
    intro j h1 h2
    simp only[List.length_drop] at h1 h2
    rw[List.getElem_drop,List.getElem_drop]
    have hm:bk (dg x) ((dg x).length-1-(i+1+j))∈bks (dg x) k:=List.mem_map.2 ⟨_,List.mem_range.2 (by omega),rfl⟩
    have:=e2 _ hm
    simp only[bk] at this
    rw[show(dg x).length-1-((dg x).length-1-(i+1+j))=i+1+j by omega] at this
    rw[List.getElem?_eq_getElem (by omega),List.getElem?_eq_getElem (by omega)] at this
    exact this.symm
   have hBD:=hB.put (o':=.deferred none) (by omega) hK rfl rfl
   rcases e3 with⟨hlt,hcr⟩ | ⟨hlt,hcr⟩
   ·have hc5:=cell_kept hcr (grownBy_putObj' _ D (.deferred none)) (fun r e=>by cases e;exact⟨_,hK,rfl⟩)
    have hv:=val_top (dig_dg x) hix hiy hdrop hlt
    rw[val_dg,val_dg] at hv
    exact⟨.int .i64 (-1),by simp[results,Go.Proofs.Tryz.f153,go_sem,hc5],by rw[cmpN_lt hv],hBD⟩
   ·have hc5:=cell_kept hcr (grownBy_putObj' _ D (.deferred none)) (fun r e=>by cases e;exact⟨_,hK,rfl⟩)
    have hv:=val_top (dig_dg y) hiy hix hdrop.symm hlt
    rw[val_dg,val_dg] at hv
    exact⟨.int .i64 1,by simp[results,Go.Proofs.Tryz.f153,go_sem,hc5],by rw[cmpN_gt hv],hBD⟩
  ·exact OwnFromD.and (Own.fromD (fun s A B row hs hg hr=>⟨hs.1,cell_kept hs.2.1 hg hr,(frozen_kept hs.2.1 hg hr).trans hs.2.2.1,cell_kept hs.2.2.2.1 hg hr,cell_kept hs.2.2.2.2 hg hr⟩) _) (ownFrom_belowD (by omega))
  ·exact fun c=>OwnFromD.and (Own.fromD (fun s A B row hs hg hr=>by
    obtain⟨hc,ini,last,e1,e2,e3⟩:=hs
    exact⟨hc,ini,last,e1,e2,e3.imp (fun h=>⟨h.1,cell_kept h.2 hg hr⟩) (fun h=>⟨h.1,cell_kept h.2 hg hr⟩)⟩) _) (ownFrom_belowD (by omega))
  ·rintro pre W ⟨⟨_,_,_,_,hcl⟩,hB⟩
   refine⟨by rw[hle];exact hcl,fun b off hA j hj=>?_⟩
   rcases hX.below hB.b with h | ⟨b',off',h,_,hc⟩
   ·rw[h] at hj;simp at hj
   ·rw[hA] at h
    cases h
    exact hc j (by omega)
  ·exact⟨⟨by simp,bR.cell,bR.frozen,bY.cell,bL.cell⟩,hB4⟩
theorem keep_of_below {M:Nat→Prop} {w w':World} (h:BelowD w w'):Keep M w w':=⟨h.b.os,h.b.tape,h.b.output,h.b.size,fun b hb _=>h.b.block b hb,h.d⟩
theorem lim_of {t:TypeId} {W:PW} {s:Sl} {l:List Nat} (h:Digs t W s l):Lim W.w.heap.size W.w s.A l:=by
 obtain⟨hn,_,_,_,h4⟩:=h
 rcases h4 with h4 | ⟨b,o,cs,fz,hA,hS,hh,hc⟩
 ·left;simpa[cel] using h4
 ·refine .inr ⟨b,o,hA,(Array.getElem?_eq_some_iff.1 hh).1,fun j hj=>?_⟩
  have:=hc j (.int .u32 ((l[j]:Nat):Int)) (by rw[cel_flatten];simp[cv,hj])
  simp only[World.cell?,hh]
  rw[List.getElem?_eq_getElem hj]
  simpa using this
theorem natCmp_ok {W0:PW} {M:Nat→Prop} {s t:Sl} {x y:Nat} (h1:IsNat 317 W0 s x) (h2:IsNat 317 W0 t y) (hx:nl x≤549755813888) (hy:nl y≤549755813888):
  PCallsM Go.Proofs.Tryz.prog 153 [.agg #[s.v],.agg #[t.v]] W0 M fun v W'=>v = .int .i64 (cmpN x y)∧True:=by
 refine⟨⟨_,Go.Proofs.Tryz.func153,rfl,rfl⟩,fun _=>?_⟩
 have e1:s.n=(dg x).length:=h1.n
 have e2:t.n=(dg y).length:=h2.n
 have:=callsIn_wide.1 (cmp_in 5 (by omega) s.A t.A s.c t.c x y hx hy W0.w (lim_of h1) (lim_of h2))
 rw[←e1,←e2] at this
 exact Calls.mono this fun e w' ⟨he,hB⟩=>⟨_,he,keep_of_below hB,rfl,trivial⟩
theorem natCmp_call {W0 W:PW} {M:Nat→Prop} {s t:Sl} {x y:Nat} {K:Value→PW→Prop} (h1:IsNat 317 W s x) (h2:IsNat 317 W t y) (hx:nl x≤549755813888) (hy:nl y≤549755813888) (kont: ∀(W':PW),Ext W W'→(True)→K (.int .i64 (cmpN x y)) W'):
  callN Go.Proofs.Tryz.prog W0 M 153 [.agg #[s.v],.agg #[t.v]] W K:=
 callN_of (fun W' hE=>natCmp_ok (M:=fun _=>False) (h1.ext hE) (h2.ext hE) hx hy) (fun W' v W'' hE hE' hP=>by
  obtain⟨rfl,h⟩:=hP
  exact kont W'' (hE.trans hE') h)
end Go.Proofs.YthpmkcidkcmlgaaGreat
