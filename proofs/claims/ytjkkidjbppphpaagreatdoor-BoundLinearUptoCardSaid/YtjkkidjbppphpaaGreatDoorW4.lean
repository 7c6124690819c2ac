/- nat.short. -/
import Derived.Test.YtjkkidjbppphpaaGreatDoorW3
import Derived.Test.YtjkkidjbppphpaaGreatDoorLib2
set_option linter.unusedVariables false
set_option linter.unusedSimpArgs false
namespace Go.Proofs.YtjkkidjbppphpaaGreatDoor
open Go Go.SX Go.RowKit Go.Shelf
attribute [local go_sem] Oper.semAt_some
theorem Be8 {W:World} {b off:Nat} {cs:Array Value} {t:TypeId} {fz:Nat×Nat} (v:Value) (h:W.heap[b]?=some (.cells cs t fz)):(W.setCell ⟨b,off,none⟩ v).heap[b]?=some (.cells (cs.setIfInBounds off v) t fz):=by
 obtain⟨hlt,hk⟩:=Array.getElem?_eq_some_iff.1 h
 show(W.heap.modify b _)[b]?=_
 rw[Array.getElem?_eq_getElem (by rw[Array.size_modify];exact hlt),Array.getElem_modify_self,hk]
 rfl
theorem Eu6 {cs:Array Value} {o i d:Nat} {ws:List Nat} (hi:i<ws.length):(Aj6 cs.toList o (cv ws)).toArray.setIfInBounds (o+i) (.int .u32 (d:Int))=(Aj6 cs.toList o (cv (ws.set i d))).toArray:=by
 apply Array.ext'
 simp only[Array.toList_setIfInBounds]
 have:=Db5 (l:=cs.toList) (o:=o) (p:=o+i) (us:=ws) (ws:=[d]) (by omega) (by simp;omega)
 rw[show o+i-o=i by omega] at this
 rw[Fd8 ws i d hi]
 exact this
theorem Af8 {W:World} {B B':Nat} {t:TypeId} {v:Value} (h:Boxed W B t v) (hne:B≠B') (o:Nat) (u:Value):Boxed (W.setCell ⟨B',o,none⟩ u) B t v:=(Below.heap_setCell W ⟨B',o,none⟩ u B hne).trans h
theorem Cu4 {W:World} {g o:Nat} {cs:Array Value} {t:TypeId} {fz:Nat×Nat} {ws:List Nat} (h:W.heap[g]?=some (.cells (Aj6 cs.toList o (cv ws)).toArray t fz)) (hr:o+ws.length≤cs.size) {j d:Nat} (hj:ws[j]?=some d):W.cell? ⟨g,o+j,none⟩=some (.int .u32 (d:Int)):=by
 have hl:=(List.getElem?_eq_some_iff.1 hj).1
 simp only[World.cell?,h]
 have:(Aj6 cs.toList o (cv ws))[o+j]?=some (.int .u32 (d:Int)):=by
  rw[Ap0,if_pos (by rw[Ag7];simp;omega),show o+j-o=j by omega]
  simp[cv,hj]
 simpa using this
def shI (w:World) (g o:Nat) (cs:Array Value) (us:List Nat) (A:Option Addr) (cap by':Nat) (pre:List (Nat×Nat)) (W:World):Prop:=
 (∃(ws:List Nat) (r:Nat),W.heap[g]?=some (.cells (Aj6 cs.toList o (cv ws)).toArray 284 (0,0))∧ws.length=us.length∧Dig ws∧ws.take (us.length-pre.length)=us.take (us.length-pre.length)∧
  val (us.drop (us.length-pre.length))=by'*val (ws.drop (us.length-pre.length))+r∧r<by'∧Boxed W (w.heap.size+1+1) 250 (.int .u64 (r:Int)))∧
 (Boxed W w.heap.size 34 (.slice A us.length cap)∧Boxed W (w.heap.size+1) 284 (.int .u32 (by':Int))∧Boxed W (w.heap.size+1+1+1) 34 (.slice A us.length cap))∧Am7 (fun b=>b=g) w W
theorem Bd8 {W W':World} {row:Option Nat} {B B':Nat} {t:TypeId} {v:Value} (h:Boxed W B t v) (hg:W.grownBy W' row) (hr: ∀r,row=some r→B'≤r∧∃o:Obj,W.heap[r]?=some o∧o.isCells=false):Boxed W' B t v:=by
 refine h.kept hg fun e=>?_
 obtain⟨_,o,ho,hc⟩:=hr B e.symm
 have h:W.heap[B]?=_:=h
 rw[h] at ho
 cases ho
 cases hc
theorem Dp8 {W W' w:World} {row:Option Nat} {B:Nat} {M:Nat→Prop} (h:Am7 M w W) (hg:W.grownBy W' row) (hd:W.drawn≤W'.drawn) (hB:w.heap.size≤B) (hr: ∀r,row=some r→B≤r∧∃o:Obj,W.heap[r]?=some o∧o.isCells=false):Am7 M w W':=
 ⟨hg.os.trans h.os,hg.tape.trans h.tape,hg.output.trans h.output,Nat.le_trans h.size hg.size,fun b hb hm=>(hg.block b (Nat.lt_of_lt_of_le hb h.size) (fun e=>by have:=(hr b e.symm).1;omega)).trans (h.block b hb hm),Nat.le_trans h.drawn hd⟩
theorem Cr9 {W W':World} {row:Option Nat} {B g:Nat} {cs:Array Value} {t:TypeId} {fz:Nat×Nat} (h:W.heap[g]?=some (.cells cs t fz)) (hg:W.grownBy W' row) (hr: ∀r,row=some r→B≤r∧∃o:Obj,W.heap[r]?=some o∧o.isCells=false):W'.heap[g]?=some (.cells cs t fz):=by
 refine(hg.block g (Array.getElem?_eq_some_iff.1 h).1 fun e=>?_).trans h
 obtain⟨_,o,ho,hc⟩:=hr g e.symm
 rw[h] at ho
 cases ho
 cases hc
theorem Fi4 {w:World} {g o:Nat} {cs:Array Value} {us:List Nat} {A:Option Addr} {cap by' B:Nat} (hB:w.heap.size≤B):Af7 B (shI w g o cs us A cap by'):=by
 rintro pre W W' row ⟨⟨ws,r,h1,h2,h3,h4,h5,h6,h7⟩,⟨h8,h9,h10⟩,h11⟩ hg hd hr
 exact⟨⟨ws,r,Cr9 h1 hg hr,h2,h3,h4,h5,h6,Bd8 h7 hg hr⟩,⟨Bd8 h8 hg hr,Bd8 h9 hg hr,Bd8 h10 hg hr⟩,Dp8 h11 hg hd hB hr⟩
set_option maxRecDepth 100000 in
set_option maxHeartbeats 4000000 in
theorem Ey1 (n:Nat) (hn:3≤n) (g o cap by':Nat) (cs:Array Value) (us:List Nat) (hl:us.length≤549755813888) (hby:0<by') (hbyB:by'<B) (hdu:Dig us) (w:World)
  (hg:w.heap[g]?=some (.cells cs 284 (0,0))) (hroom:o+us.length≤cs.size) (hat: ∀j v,(cv us)[j]?=some v→cs[o+j]?=some v):
  CallsIn Fence.wide n Tryz.prog 215 #[.slice (some ⟨g,o,none⟩) us.length cap,.int .u32 (by':Int)] w fun e W'=>∃ws,e = .returned (.int .u32 ((val us%by':Nat):Int))∧ws.length=us.length∧Dig ws∧val ws=val us/by'∧W'.heap[g]?=some (.cells (Aj6 cs.toList o (cv ws)).toArray 284 (0,0))∧Am7 (fun b=>b=g) w W':=by
 refine callsIn_of_wp_marks Tryz.func215 rfl trivial ?_ rfl
 simp only[Tryz.ntmps215,List.size_toArray,List.length_cons,List.length_nil,Nat.reduceAdd,Nat.reduceSub,Array.replicate_succ,Array.replicate_zero,List.push_toArray,List.append_toArray,List.nil_append,List.cons_append]
 gi_wp2
 refine⟨trivial,fun _=>by omega,(Bs1 (n-1) _ _ _ _).mono ?_⟩
 rintro e w' ⟨rfl,rfl⟩
 gi_wp2
 obtain⟨W4,hW4⟩: ∃W4,((((w.alloc (.cells #[.slice (some ⟨g,o,none⟩) us.length cap] 34)).alloc (.cells #[.int .u32 (by':Int)] 284)).alloc (.cells #[.int .u64 0] 250)).alloc (.cells #[.slice (some ⟨g,o,none⟩) us.length cap] 34))=W4:=⟨_,rfl⟩
 have hsz:W4.heap.size=w.heap.size+1+1+1+1:=by rw[←hW4];simp
 have hgl:g<w.heap.size:=(Array.getElem?_eq_some_iff.1 hg).1
 have hB4:Below w.heap.size w W4:=by rw[←hW4];exact((((Below.refl _ w).alloc (Nat.le_refl _) _).alloc (by simp) _).alloc (by simp;omega) _).alloc (by simp;omega) _
 have b0:Boxed W4 w.heap.size 34 (.slice (some ⟨g,o,none⟩) us.length cap):=by
  rw[←hW4]
  exact(((Boxed.new w 34 (.slice (some ⟨g,o,none⟩) us.length cap)).alloc (.cells #[.int .u32 (by':Int)] 284)).alloc (.cells #[.int .u64 0] 250)).alloc (.cells #[.slice (some ⟨g,o,none⟩) us.length cap] 34)
 have b1:Boxed W4 (w.heap.size+1) 284 (.int .u32 (by':Int)):=by
  rw[←hW4]
  have:=((Boxed.new (w.alloc (.cells #[.slice (some ⟨g,o,none⟩) us.length cap] 34)) 284 (.int .u32 (by':Int))).alloc (.cells #[.int .u64 0] 250)).alloc (.cells #[.slice (some ⟨g,o,none⟩) us.length cap] 34)
  simpa using this
 have b2:Boxed W4 (w.heap.size+1+1) 250 (.int .u64 0):=by
  rw[←hW4]
  have:=(Boxed.new ((w.alloc (.cells #[.slice (some ⟨g,o,none⟩) us.length cap] 34)).alloc (.cells #[.int .u32 (by':Int)] 284)) 250 (.int .u64 0)).alloc (.cells #[.slice (some ⟨g,o,none⟩) us.length cap] 34)
  simpa using this
 have b3:Boxed W4 (w.heap.size+1+1+1) 34 (.slice (some ⟨g,o,none⟩) us.length cap):=by
  rw[←hW4]
  have:=Boxed.new (((w.alloc (.cells #[.slice (some ⟨g,o,none⟩) us.length cap] 34)).alloc (.cells #[.int .u32 (by':Int)] 284)).alloc (.cells #[.int .u64 0] 250)) 34 (.slice (some ⟨g,o,none⟩) us.length cap)
  simpa using this
 rw[hW4]
 refine As7 (α:=Nat×Nat) (n:=n) rfl (by omega) (gf:=235) (lb:=#[.pointer (some ⟨w.heap.size+1+1+1,0,none⟩)]) rfl trivial (enters_of Tryz.func235 (by kernel_rfl) rfl)
  (Ef1 (n-1) (by omega) (w.heap.size+1+1+1) (some ⟨g,o,none⟩) cap us (by omega) (.inr ⟨g,o,rfl⟩)) (fun _=>rfl)
  (shI w g o cs us (some ⟨g,o,none⟩) cap by') (fun _ _ _=>False) (Fi4 (by omega)) (fun _ _ _ _ _ h _ _ _=>h.elim) ?_ ?_
  (fun x=>{tmps:=#[.slice (some ⟨g,o,none⟩) us.length cap,.int .u32 (by':Int),.pointer (some ⟨w.heap.size,0,none⟩),.pointer (some ⟨w.heap.size+1,0,none⟩),.int .u32 0,.pointer (some ⟨w.heap.size+1+1,0,none⟩),.int .i64 (x.1:Int),.int .u32 (x.2:Int),
    .slice (some ⟨g,o,none⟩) us.length cap,.func (.func 235) #[] #[.pointer (some ⟨w.heap.size+1+1+1,0,none⟩)],.int .i64 (x.1:Int),.int .u32 (x.2:Int),undef,undef,undef,undef,undef,undef,undef,undef,undef,undef,undef,undef,undef,undef,undef,undef,undef,undef,undef],defers:=[] }) ?assign ?body ?done ?stop
 case assign=>
  intro l p W K hK
  simp only[Ec8]
  gi_wp2
  exact hK
 case body=>
  rintro l pre ⟨i,v⟩ W ⟨⟨ws,r,h1,h2,h3,h4,h5,h6,h7⟩,⟨h8,h9,h10⟩,h11⟩ ⟨hlen,hpre,hpx⟩
  have hi:i=us.length-1-pre.length:=by simp only[bk] at hpx;cases hpx;rfl
  have hv:v=us[us.length-1-pre.length]?.getD 0:=by simp only[bk] at hpx;cases hpx;rfl
  have hiu:i<us.length:=by omega
  have hk1:us.length-pre.length=i+1:=by omega
  have hk2:us.length-(pre ++ [(i,v)]).length=i:=by simp;omega
  have husi:us[i]?=some v:=by
   rw[hv,←hi,List.getElem?_eq_getElem hiu];rfl
  rw[hk1] at h4 h5
  have hwsi:ws[i]?=some v:=by
   have:=congrArg (fun l=>l[i]?) h4
   simp only[List.getElem?_take] at this
   rw[if_pos (by omega),if_pos (by omega)] at this
   rw[this,husi]
  have hvB:v<B:=hdu v (List.mem_of_getElem? husi)
  have hiw:i<ws.length:=by omega
  have c7:=h7.cell
  have f7:=h7.frozen
  have c8:=h8.cell
  have c9:=h9.cell
  have cg:W.cell? ⟨g,o+i,none⟩=some (.int .u32 (v:Int)):=Cu4 h1 (by omega) hwsi
  have fg:W.frozen? ⟨g,o+i,none⟩=false:=by simp[World.frozen?,h1]
  clear hpx hpre hv hi
  have hbz:by'≠0:=by omega
  gi_wp2
  have hrB:r<B:=by omega
  obtain⟨y,hy⟩: ∃y,r*B+v=y:=⟨_,rfl⟩
  have ey:bits .or .u64 (IntKind.wrap .u64 ((r:Int)*4294967296)) (IntKind.wrap .u64 (v:Int))=(y:Int):=by
   rw[Ab1 (n:=v) (by unfold B at hvB;omega),←hy]
   have:IntKind.wrap .u64 ((r:Int)*4294967296)=((r*B:Nat):Int):=Eh5 hrB
   rw[this,Dq8 hvB hrB]
  rw[ey]
  have hyB:y<by'*B:=by rw[←hy];have:=Nat.mul_le_mul_right B (show r+1≤by' by omega);rw[Nat.add_mul] at this;omega
  have hqB:y/by'<B:=(Nat.div_lt_iff_lt_mul hby).2 (by rw[Nat.mul_comm];exact hyB)
  have hy64:y<18446744073709551616:=by
   have:=Nat.mul_le_mul_right B (Nat.le_of_lt hbyB)
   unfold B at *;omega
  have eby:IntKind.wrap .u64 (by':Int)=(by':Int):=Ab1 (by unfold B at hbyB;omega)
  have edv:IntKind.wrap .u64 (Int.tdiv (y:Int) (by':Int))=((y/by':Nat):Int):=by
   rw[Int.tdiv_eq_ediv_of_nonneg (by omega),←Int.natCast_ediv,Ab1 (Nat.lt_of_le_of_lt (Nat.div_le_self ..) hy64)]
  have e32:IntKind.wrap .u32 ((y/by':Nat):Int)=((y/by':Nat):Int):=by rw[Ab9,Nat.mod_eq_of_lt hqB]
  have edv':IntKind.wrap .u64 ((y:Int)/(by':Int))=(y:Int)/(by':Int):=by
   have:=Ab1 (n:=y/by') (Nat.lt_of_le_of_lt (Nat.div_le_self ..) hy64)
   rwa [Int.natCast_ediv] at this
  have e32':IntKind.wrap .u32 ((y:Int)/(by':Int))=(y:Int)/(by':Int):=by
   have:=e32
   rwa [Int.natCast_ediv] at this
  refine Cq1 (S:=fun w'=>w'.cell? ⟨w.heap.size+1+1,0,none⟩=some (.int .u64 (y:Int))∧w'.cell? ⟨w.heap.size,0,none⟩=some (.slice (some ⟨g,o,none⟩) us.length cap)∧w'.cell? ⟨w.heap.size+1,0,none⟩=some (.int .u32 (by':Int))) rfl ?_ ?_ ?_
  ·intro j o ho c hc
   have hm:=Array.mem_of_getElem? ho
   simp only[List.mem_toArray,List.mem_cons,List.not_mem_nil,or_false] at hm
   rcases hm with rfl | rfl | rfl | rfl | rfl | rfl | rfl | rfl | rfl<;>cases hc
  ·rintro⟨a,w,h⟩
   exact h
  have hW5h: ∃W5,World.drew (W.setCell ⟨w.heap.size+1+1,0,none⟩ (.int .u64 (y:Int)))=W5:=⟨_,rfl⟩
  obtain⟨W5,hW5⟩:=hW5h
  have bb7:Boxed W5 (w.heap.size+1+1) 250 (.int .u64 (y:Int)):=by rw[←hW5];exact h7.set _
  have bb8:Boxed W5 w.heap.size 34 (.slice (some ⟨g,o,none⟩) us.length cap):=by rw[←hW5];exact Af8 h8 (by omega) _ _
  have bb9:Boxed W5 (w.heap.size+1) 284 (.int .u32 (by':Int)):=by rw[←hW5];exact Af8 h9 (by omega) _ _
  have bb10:Boxed W5 (w.heap.size+1+1+1) 34 (.slice (some ⟨g,o,none⟩) us.length cap):=by rw[←hW5];exact Af8 h10 (by omega) _ _
  have hg5:W5.heap[g]?=some (.cells (Aj6 cs.toList o (cv ws)).toArray 284 (0,0)):=by
   rw[←hW5]
   exact(Below.heap_setCell W ⟨w.heap.size+1+1,0,none⟩ _ g (by simp;omega)).trans h1
  have hk5:Am7 (fun b=>b=g) w W5:=by
   rw[←hW5]
   exact⟨h11.os,h11.tape,h11.output,by simpa using h11.size,fun b hb hm=>(Below.heap_setCell W ⟨w.heap.size+1+1,0,none⟩ _ b (by simp;omega)).trans (h11.block b hb hm),Nat.le_trans h11.drawn (Nat.le_trans (Nat.le_of_eq (Ao2 _ _ _).symm) (Nat.le_succ _))⟩
  have hkf5:KeepsFrom W4.heap.size W W5:=by
   rw[←hW5]
   exact⟨by simp,fun k ob hk hb _=>(Below.heap_setCell W ⟨w.heap.size+1+1,0,none⟩ _ k (by simp;omega)).trans hb⟩
  have cg5:W5.cell? ⟨g,o+i,none⟩=some (.int .u32 (v:Int)):=by
   have:W5.cell? ⟨g,o+i,none⟩=W.cell? ⟨g,o+i,none⟩:=by simp only[World.cell?,hg5,h1]
   rw[this];exact cg
  have fg5:W5.frozen? ⟨g,o+i,none⟩=false:=by simp[World.frozen?,hg5]
  rw[hW5]
  have hS0:W5.cell? ⟨w.heap.size+1+1,0,none⟩=some (.int .u64 (y:Int))∧W5.cell? ⟨w.heap.size,0,none⟩=some (.slice (some ⟨g,o,none⟩) us.length cap)∧W5.cell? ⟨w.heap.size+1,0,none⟩=some (.int .u32 (by':Int)):=⟨bb7.cell,bb8.cell,bb9.cell⟩
  refine wpAnyH_take (i:=0) (v:=.slice (some ⟨g,o,none⟩) us.length cap) rfl (by kernel_rfl) (by kernel_rfl) (by kernel_rfl) (fun _ _ _ h=>h) (.inl ⟨by rfl,fun w' hS=>?_⟩) hS0 ?_
  ·obtain⟨s1,s2,s3⟩:=hS
   simp[execOp,go_sem,s1,s2,s3]
  refine wpAnyH_take (i:=1) (v:=.int .i64 (i:Int)) rfl (by kernel_rfl) (by kernel_rfl) (by kernel_rfl) (fun _ _ _ h=>h) (.inl ⟨by rfl,fun w' hS=>?_⟩) hS0 ?_
  ·obtain⟨s1,s2,s3⟩:=hS
   simp[execOp,go_sem,s1,s2,s3]
  refine wpAnyH_take (i:=2) (v:=.int .u64 (y:Int)) rfl (by kernel_rfl) (by kernel_rfl) (by kernel_rfl) (fun _ _ _ h=>h) (.inl ⟨by rfl,fun w' hS=>?_⟩) hS0 ?_
  ·obtain⟨s1,s2,s3⟩:=hS
   simp[execOp,go_sem,s1,s2,s3]
  refine wpAnyH_take (i:=3) (v:=.int .u32 (by':Int)) rfl (by kernel_rfl) (by kernel_rfl) (by kernel_rfl) (fun _ _ _ h=>h) (.inl ⟨by rfl,fun w' hS=>?_⟩) hS0 ?_
  ·obtain⟨s1,s2,s3⟩:=hS
   simp[execOp,go_sem,s1,s2,s3]
  refine wpAnyH_take (i:=4) (v:=.int .u64 (by':Int)) rfl (by kernel_rfl) (by kernel_rfl) (by kernel_rfl) (fun _ _ _ h=>h) (.inl ⟨by rfl,fun w' hS=>?_⟩) hS0 ?_
  ·obtain⟨s1,s2,s3⟩:=hS
   simp[execOp,go_sem,s1,s2,s3,eby]
  refine wpAnyH_take (i:=5) (v:=.int .u64 ((y/by':Nat):Int)) rfl (by kernel_rfl) (by kernel_rfl) (by kernel_rfl) (fun _ _ _ h=>h) (.inl ⟨by rfl,fun w' hS=>?_⟩) hS0 ?_
  ·obtain⟨s1,s2,s3⟩:=hS
   simp[execOp,go_sem,s1,s2,s3,hbz]
   exact edv'
  refine wpAnyH_take (i:=6) (v:=.int .u32 ((y/by':Nat):Int)) rfl (by kernel_rfl) (by kernel_rfl) (by kernel_rfl) (fun _ _ _ h=>h) (.inl ⟨by rfl,fun w' hS=>?_⟩) hS0 ?_
  ·obtain⟨s1,s2,s3⟩:=hS
   simp[execOp,go_sem,s1,s2,s3]
   exact e32'
  refine wpAnyH_take (i:=7) (v:=.pointer (some ⟨g,o+i,none⟩)) rfl (by kernel_rfl) (by kernel_rfl) (by kernel_rfl) (fun _ _ _ h=>h) (.inl ⟨by rfl,fun w' hS=>?_⟩) hS0 ?_
  ·obtain⟨s1,s2,s3⟩:=hS
   simp[execOp,go_sem,s1,s2,s3,hiu]
  refine wpAnyH_all (rs:=[8]) (by kernel_rfl) (by simp) (fun j hj=>?_)
  obtain rfl:j=8:=by simpa using hj
  unfold wpOp
  dsimp only
  simp only[Region.wanted]
  refine Or.inl ?_
  simp[Oper.wp,execOp,go_sem,cg5,fg5]
  rw[←Int.natCast_ediv]
  obtain⟨W6,hW6⟩: ∃W6,W5.setCell ⟨g,o+i,none⟩ (.int .u32 ((y/by':Nat):Int))=W6:=⟨_,rfl⟩
  have d7:Boxed W6 (w.heap.size+1+1) 250 (.int .u64 (y:Int)):=by rw[←hW6];exact Af8 bb7 (by omega) _ _
  have d8:Boxed W6 w.heap.size 34 (.slice (some ⟨g,o,none⟩) us.length cap):=by rw[←hW6];exact Af8 bb8 (by omega) _ _
  have d9:Boxed W6 (w.heap.size+1) 284 (.int .u32 (by':Int)):=by rw[←hW6];exact Af8 bb9 (by omega) _ _
  have d10:Boxed W6 (w.heap.size+1+1+1) 34 (.slice (some ⟨g,o,none⟩) us.length cap):=by rw[←hW6];exact Af8 bb10 (by omega) _ _
  have hg6:W6.heap[g]?=some (.cells (Aj6 cs.toList o (cv (ws.set i (y/by')))).toArray 284 (0,0)):=by
   rw[←hW6,Be8 _ hg5,Eu6 hiw]
  have hk6:Am7 (fun b=>b=g) w W6:=by
   rw[←hW6]
   exact⟨hk5.os,hk5.tape,hk5.output,by simpa using hk5.size,fun b hb hm=>(Below.heap_setCell W5 ⟨g,o+i,none⟩ _ b hm).trans (hk5.block b hb hm),by rw[Ao2];exact hk5.drawn⟩
  have hkf6:KeepsFrom W4.heap.size W W6:=by
   rw[←hW6]
   refine hkf5.trans ⟨by simp,fun k ob hk hb _=>(Below.heap_setCell W5 ⟨g,o+i,none⟩ _ k (by simp;omega)).trans hb⟩
  rw[hW6]
  have e7:=d7.cell
  have f7':=d7.frozen
  have e9:=d9.cell
  refine⟨hS0,wpAnyH_done (by kernel_rfl) ?_ _⟩
  have emd:Int.tmod (y:Int) (by':Int)=((y%by':Nat):Int):=by
   rw[Int.tmod_eq_emod_of_nonneg (by omega)];rfl
  clear hg5 hk5 hkf5 cg5 fg5 bb7 bb8 bb9 bb10 hW5 hW6 cg fg c7 f7 c8 c9 edv edv' e32 e32' ey
  gi_wp2
  have emd':(y:Int)%(by':Int)=((y%by':Nat):Int):=(Int.natCast_emod y by').symm
  rw[emd']
  refine⟨?_,trivial,⟨ws.set i (y/by'),y%by',?_,by simpa using h2,h3.set hqB,?_,?_,Nat.mod_lt _ hby,d7.set _⟩,⟨Af8 d8 (by omega) _ _,Af8 d9 (by omega) _ _,Af8 d10 (by omega) _ _⟩,?_⟩
  ·exact hkf6.trans ⟨by simp,fun k ob hk hb _=>(Below.heap_setCell W6 ⟨w.heap.size+1+1,0,none⟩ _ k (by simp;omega)).trans hb⟩
  ·exact(Below.heap_setCell W6 ⟨w.heap.size+1+1,0,none⟩ _ g (by simp;omega)).trans hg6
  ·rw[hk2,At3 (Nat.le_refl _)]
   have:=congrArg (List.take i) h4
   rwa [List.take_take,List.take_take,Nat.min_eq_left (by omega)] at this
  ·rw[hk2,Ah9 hiu,Ah9 (l:=ws.set i (y/by')) (k:=i) (by simpa using hiw),List.getElem_set_self,Ah5 (Nat.lt_succ_self i),h5]
   have e1:us[i]=v:=by
    have:=husi
    rw[List.getElem?_eq_getElem hiu] at this
    exact Option.some.inj this
   rw[e1]
   have e2:=Nat.mod_add_div y by'
   generalize val (ws.drop (i+1))=z
   generalize y/by'=q at *
   generalize y%by'=s at *
   have e3:v+B*(by'*z+r)=by'*(B*z)+y:=by
    rw[←hy,Nat.mul_add,Nat.mul_left_comm,Nat.mul_comm r B];omega
   rw[e3,Nat.mul_add];omega
  ·exact⟨hk6.os,hk6.tape,hk6.output,by simpa using hk6.size,fun b hb hm=>(Below.heap_setCell W6 ⟨w.heap.size+1+1,0,none⟩ _ b (by simp;omega)).trans (hk6.block b hb hm),by rw[Ao2];exact hk6.drawn⟩
 case done=>
  rintro D ps W hD rfl ⟨⟨ws,r,h1,h2,h3,h4,h5,h6,h7⟩,⟨h8,h9,h10⟩,h11⟩ hK
  rw[Ah8,Nat.sub_self,List.drop_zero,List.drop_zero] at h5
  have c7:=h7.cell
  clear h4
  gi_wp2
  have hgD:W.grownBy (W.putObj D (.deferred none)) (some D):=grownBy_putObj' _ D _
  have hrD: ∀k,(some D:Option Nat)=some k→W4.heap.size≤k∧∃ob:Obj,W.heap[k]?=some ob∧ob.isCells=false:=fun k e=>by
   cases e
   exact⟨hD,_,hK,rfl⟩
  have er:val us%by'=r:=by rw[h5,Nat.mul_add_mod,Nat.mod_eq_of_lt h6]
  have eq':val ws=val us/by':=by rw[h5,Nat.mul_add_div hby,Nat.div_eq_of_lt h6,Nat.add_zero]
  refine⟨by simp,.inl ⟨_,_,rfl,run_takeDeferred hK,?_⟩⟩
  refine⟨_,results_tmp rfl _ _ _,ws,?_,h2,h3,eq',Cr9 h1 hgD hrD,Dp8 h11 hgD (Nat.le_refl _) (by omega) hrD⟩
  rw[er]
  show Ending.returned (Value.int .u32 ((r:Int)%4294967296))=_
  rw[Int.emod_eq_of_lt (by omega) (by unfold B at hbyB;omega)]
 case stop=>
  rintro D c pre W _ _ h _
  exact h.elim
 ·rintro pre W ⟨⟨ws,r,h1,h2,h3,h4,h5,h6,h7⟩,⟨h8,h9,h10⟩,h11⟩
  refine⟨h10.cell,fun b off hA j hj=>?_⟩
  cases hA
  refine Cu4 h1 (by omega) ?_
  have:=congrArg (fun l=>l[j]?) h4
  simp only[List.getElem?_take] at this
  rw[if_pos (by omega),if_pos (by omega)] at this
  rw[this,List.getElem?_eq_getElem (by omega)];rfl
 ·refine⟨⟨us,0,?_,rfl,hdu,rfl,by simp[val],hby,b2⟩,⟨b0,b1,b3⟩,hB4.os,hB4.tape,hB4.output,hB4.size,fun b hb _=>hB4.block b hb,by rw[←hW4];exact Nat.le_refl _⟩
  rw[hB4.block g hgl,hg]
  congr 2
  apply Array.ext'
  apply List.ext_getElem?
  intro k
  simp only[Ap0,Ag7]
  split
  ·rename_i hk
   have hj:k-o<(cv us).length:=by rw[Ag7];omega
   have:=hat (k-o) _ (List.getElem?_eq_getElem hj)
   rw[show o+(k-o)=k by omega] at this
   rw[List.getElem?_eq_getElem hj]
   simpa using this
  ·rfl
theorem Bw9 {W0:PW} {u:Sl} {us:List Nat} {g o by':Nat} {cs:Array Value} (hm:Mut W0 284 u g o cs us) (hdu:Dig us) (hby:0<by') (hbyB:by'<B) (hl:us.length≤549755813888):
  Aa0 Tryz.prog 215 [u.v,.int .u32 (by':Int)] W0 (fun b=>b=g) fun r W'=>∃ws:List Nat,r = .int .u32 ((val us%by':Nat):Int)∧ws.length=us.length∧Dig ws∧val ws=val us/by'∧Aq5 W0 W' g cs 284 o (cv ws):=by
 refine⟨⟨_,Tryz.func215,rfl,rfl⟩,fun _=>?_⟩
 have:=callsIn_wide.1 (Ey1 5 (by omega) g o u.c by' cs us hl hby hbyB hdu W0.w hm.heap hm.room hm.at')
 rw[←hm.A,←hm.n] at this
 exact Calls.mono this fun e w' ⟨ws,he,h1,h2,h3,h4,h5⟩=>⟨_,he,h5,ws,rfl,h1.trans hm.n,h2,h3,⟨h5.size,fun b hb hs hn=>⟨h5.block b hb hn,hs⟩⟩,hm.S,h4⟩
end Go.Proofs.YtjkkidjbppphpaaGreatDoor
/- nat: Sub, Low. -/
set_option maxRecDepth 100000
namespace Go.Proofs.YtjkkidjbppphpaaGreatDoor
open Go Go.SX
theorem Af6 {t:TypeId} (W:PW):Aa6 t W ⟨none,0,0⟩ 0:=⟨by simp[cel,Ae8],by simp,by decide,by simp[cel,Ae8],.inl (by simp[cel,Ae8])⟩
theorem Di1 {β zx vy vx p c z low d u neg:Nat} (h:zx+vy=vx+p*c) (hs:z+c+d=u+β*neg):zx+p*z+(vy+p*d)=vx+p*u+p*β*neg:=by
 have e:p*(z+c+d)=p*(u+β*neg):=by rw[hs]
 grind
def Ft7 (x y:Nat) (W2:PW) (l:List PL) (W:PW):Prop:=
 match l with
 | [.val (.int .u64 c),.val (.int .i64 k),.row xs]=>Ext W2 W∧∃(c' k':Nat) (zs:List Nat),c=(c':Int)∧k=(k':Int)∧xs=cel zs∧k'≤nl x∧zs.length=nl x∧Dig zs∧
   val (zs.take k')+val ((dg y).take k')=val ((dg x).take k')+B^k'*c'∧c'≤1
 | _=>False
theorem Eh4 {W0:PW} {M:Nat→Prop} {s t:Sl} {x y:Nat} (h1:Aa6 284 W0 s x) (h2:Aa6 284 W0 t y) (hx:nl x≤549755813888) (hy:nl y≤549755813888):
  Aa0 Tryz.prog 199 [.agg #[s.v],.agg #[t.v]] W0 M fun v W'=>∃(s':Sl),v = .tuple #[.agg #[Sl.v s'],.bool (decide (y≤x))]∧Aa6 284 W' s' (x-y):=by
 apply Df0
 have n1:=h1.n
 have n2:=h2.n
 refine Ap6 h1 h2 hx hy fun W2 hE2 _=>⟨_,rfl,fun hlt W4 hE4=>⟨⟨none,0,0⟩,?_,?_⟩,fun hge=>?_⟩
 ·have:x<y:=by
   apply Nat.lt_of_not_le
   intro h
   rcases Nat.lt_or_eq_of_le h with h | rfl
   ·rw[Aj4 h] at hlt;omega
   ·rw[Ap9] at hlt;omega
  rw[decide_eq_false (by omega)]
 ·have:x<y:=by
   apply Nat.lt_of_not_le
   intro h
   rcases Nat.lt_or_eq_of_le h with h | rfl
   ·rw[Aj4 h] at hlt;omega
   ·rw[Ap9] at hlt;omega
  rw[show x-y=0 by omega]
  exact Af6 W4
 have hle:y≤x:=by
  apply Nat.le_of_not_lt
  intro h
  rw[Al0 h] at hge;omega
 have hnl:=Ad1 hle
 have h1':=h1.ext hE2
 have h2':=h2.ext hE2
 refine⟨⟨rfl,by omega,by omega⟩,Ft7 x y W2,Fr6 x,?_,?_⟩
 ·refine⟨Ext.refl _,0,0,List.replicate (nl x) 0,rfl,rfl,?_,by omega,by simp,fun d hd=>?_,by simp[val],by omega⟩
  ·rw[show Int.toNat (s.n:Int)=nl x by omega];exact Ae3 _
  ·rw[(List.mem_replicate.1 hd).2];decide
 rintro l7 i8 i9 W10 ⟨hE10,c,k,zs,rfl,rfl,rfl,hk,hz,hdz,hv,hc⟩
 have ha:=h1'.ext hE10
 have hb:=h2'.ext hE10
 have hlx:(dg x).length=nl x:=rfl
 have hly:(dg y).length=nl y:=rfl
 refine⟨fun hlt=>?_,fun hge s13 W14 hE14 hO hnew=>?_⟩
 ·have hka:k<(dg x).length:=by omega
  have da:=(Ad8 x).at hka
  obtain⟨u,hu⟩: ∃u,(dg x)[k]=u:=⟨_,rfl⟩
  rw[hu] at da
  have eu:IntKind.wrap .u64 (u:Int)=(u:Int):=Ab1 (by unfold B at da;omega)
  refine⟨Ad4.inB ha (by omega) (by omega),(u:Nat),by rw[←hu];exact Ad4.at ha hka,fun hltb=>?_,fun hgeb=>?_⟩
  ·have hkb:k<(dg y).length:=by omega
   have db:=(Ad8 y).at hkb
   obtain⟨v,hv'⟩: ∃v,(dg y)[k]=v:=⟨_,rfl⟩
   rw[hv'] at db
   have ev:IntKind.wrap .u64 (v:Int)=(v:Int):=Ab1 (by unfold B at db;omega)
   obtain⟨z,neg,s1,s2,s3,s4,s5⟩:=Cg9 da hc db
   refine⟨Ad4.inB hb (by omega) (by omega),(v:Nat),by rw[←hv'];exact Ad4.at hb hkb,⟨by omega,by rw[Aa5];omega⟩,by rw[Aa5];omega,by unfold I64;omega,?_,?_⟩
   ·rw[eu,ev,s1,s2,show Int.toNat (k:Int)=k from rfl,Ae9]
    refine⟨hE10,neg,k+1,_,rfl,by push_cast;rfl,rfl,by omega,by simpa using hz,hdz.set s4,?_,s3⟩
    rw[Ac1 (by omega),Aa4 hka,Aa4 hkb,hu,hv',Nat.pow_succ]
    exact Di1 (low:=0) hv s5
   ·show nl x-Int.toNat ((k:Int)+1)<nl x-Int.toNat (k:Int)
    omega
  ·obtain⟨z,neg,s1,s2,s3,s4,s5⟩:=Eh3 da hc
   refine⟨⟨by omega,by rw[Aa5];omega⟩,by rw[Aa5];omega,by unfold I64;omega,?_,?_⟩
   ·rw[eu,s1,s2,show Int.toNat (k:Int)=k from rfl,Ae9]
    refine⟨hE10,neg,k+1,_,rfl,by push_cast;rfl,rfl,by omega,by simpa using hz,hdz.set s4,?_,s3⟩
    rw[Ac1 (by omega),Aa4 hka,Dm7 (by omega),hu,Nat.pow_succ]
    have:=Di1 (low:=0) (d:=0) hv (by rw[Nat.add_zero];exact s5)
    rwa [Nat.mul_zero,Nat.add_zero] at this
   ·show nl x-Int.toNat ((k:Int)+1)<nl x-Int.toNat (k:Int)
    omega
 ·have hkx:k=nl x:=by omega
  subst hkx
  rw[show(dg x).take (nl x)=dg x from List.take_of_length_le (Nat.le_refl _),show(dg y).take (nl x)=dg y from List.take_of_length_le (by omega),Ac5,Ac5,←hz,List.take_length] at hv
  have hzB:=Ax5 hdz
  have hc0:c=0:=by
   rcases(show c=0∨c=1 by omega) with h | h
   ·exact h
   ·subst h;omega
  subst hc0
  have e:val zs=x-y:=by rw[Nat.mul_zero] at hv;omega
  refine Ap7 hO.row hdz (by omega) fun s' W17 hE17 h=>⟨s',rfl,fun W19 hE19=>⟨s',?_,?_⟩⟩
  ·rw[decide_eq_true hle]
  ·rw[e] at h
   exact h.ext hE19
theorem Bq3 {W0 W:PW} {M:Nat→Prop} {s t:Sl} {x y:Nat} {K:Value→PW→Prop} (h1:Aa6 284 W s x) (h2:Aa6 284 W t y) (hx:nl x≤549755813888) (hy:nl y≤549755813888) (kont: ∀(s':Sl) (W':PW),Ext W W'→(Aa6 284 W' s' (x-y))→K (.tuple #[.agg #[Sl.v s'],.bool (decide (y≤x))]) W'):
  Aa1 Tryz.prog W0 M 199 [.agg #[s.v],.agg #[t.v]] W K:=
 Aa2 (fun W' hE=>Eh4 (M:=fun _=>False) (h1.ext hE) (h2.ext hE) hx hy) (fun W' v W'' hE hE' hP=>by
  obtain⟨s',rfl,h⟩:=hP
  exact kont s' W'' (hE.trans hE') h)
theorem Fh4 {a b:Nat} (hb:b<B) (ha:a<B):bits .or .u64 (b:Int) ((a*B:Nat):Int)=((b+a*B:Nat):Int):=by
 unfold B at *
 rw[bits_or_u64_nat _ _ (by omega) (by omega),Nat.or_comm,nat_join 32 _ _ (by omega) (by omega),Nat.add_comm]
def Fv3 (x:Nat) (W0:PW) (l:List PL) (W:PW):Prop:=
 match l with
 | [.val (.int .u64 v),.val (.int .i64 k)]=>Ext W0 W∧∃k':Nat,k=(k':Int)∧k'≤min (nl x) 2∧v=(val ((dg x).take k'):Int)
 | _=>False
def Fv2 (l:List PL) (W:PW):Nat:=
 match l with
 | [_,.val (.int .i64 k)]=>2-k.toNat
 | _=>0
theorem Eo5 {W0:PW} {M:Nat→Prop} {s:Sl} {x:Nat} (h:Aa6 284 W0 s x) (hx:nl x≤549755813888):
  Aa0 Tryz.prog 234 [.agg #[s.v]] W0 M fun v W'=>v = .int .u64 ((x%(B*B):Nat):Int)∧True:=by
 apply Bv7
 have hn:=h.n
 have hl:(dg x).length=nl x:=rfl
 have emn:mn (s.n:Int) 2=((min (nl x) 2:Nat):Int):=by unfold mn;split<;>omega
 unfold Bk8
 simp only[emn]
 refine⟨Fv3 x W0,Fv2,⟨Ext.refl _,0,rfl,by omega,by simp[val]⟩,?_⟩
 rintro i3 i4 W5 ⟨hE5,k,rfl,hk,rfl⟩
 refine⟨fun hlt=>?_,fun hge W7 hE7=>⟨?_,trivial⟩⟩
 ·have hka:k<(dg x).length:=by omega
  have da:=(Ad8 x).at hka
  have h5:=h.ext hE5
  obtain⟨u,hu⟩: ∃u,(dg x)[k]=u:=⟨_,rfl⟩
  rw[hu] at da
  have eu:IntKind.wrap .u64 (u:Int)=(u:Int):=Ab1 (by unfold B at da;omega)
  have eb:IntKind.bits .u64=64:=rfl
  have ev:bits .or .u64 ((val ((dg x).take k):Nat):Int) (Bc5 .u64 (u:Int) (Int.toNat (32*(k:Int))))=((val ((dg x).take (k+1)):Nat):Int):=by
   rcases(show k=0∨k=1 by omega) with rfl | rfl
   ·rw[Aa4 hka,hu,show Int.toNat (32*((0:Nat):Int))=0 from rfl,Dr8 (by unfold B at da;omega)]
    simp only[List.take_zero,val,Nat.pow_zero,Nat.mul_one,Nat.one_mul,Nat.zero_add]
    rw[bits_or_u64_nat _ _ (by decide) (by unfold B at da;omega),Nat.zero_or]
   ·rw[Aa4 hka,hu,show Int.toNat (32*((1:Nat):Int))=32 from rfl,Eh5 da]
    have h1:=Ae6 (Ad8 x) 1
    rw[Nat.pow_one] at h1
    rw[Fh4 h1 da,Nat.pow_one,Nat.mul_comm u B]
  refine⟨Ad4.inB h5 (by omega) (by omega),(u:Nat),by rw[←hu];exact Ad4.at h5 hka,by unfold I64;omega,⟨by omega,by rw[eb];omega⟩,by unfold I64;omega,⟨hE5,k+1,by push_cast;rfl,by omega,by rw[eu,ev]⟩,?_⟩
  show 2-Int.toNat ((k:Int)+1)<2-Int.toNat (k:Int)
  omega
 ·have hkm:k=min (nl x) 2:=by omega
  congr 2
  rcases Nat.le_total (nl x) 2 with h2 | h2
  ·rw[hkm,Nat.min_eq_left h2,←hl,List.take_length,Ac5]
   have:=Bb4 x
   have:=Nat.pow_le_pow_right Ad3 h2
   rw[Nat.pow_succ,Nat.pow_one] at this
   rw[Nat.mod_eq_of_lt (by omega)]
  ·rw[hkm,Nat.min_eq_right h2]
   have e:=Am8 (dg x) (k:=2) (by omega)
   rw[Ac5] at e
   have h1:=Ae6 (Ad8 x) 2
   rw[Nat.pow_succ,Nat.pow_one] at e h1
   conv=>rhs;rw[e]
   rw[Nat.add_mul_mod_self_left,Nat.mod_eq_of_lt h1]
theorem Bw7 {W0 W:PW} {M:Nat→Prop} {s:Sl} {x:Nat} {K:Value→PW→Prop} (h:Aa6 284 W s x) (hx:nl x≤549755813888) (kont: ∀(W':PW),Ext W W'→(True)→K (.int .u64 ((x%(B*B):Nat):Int)) W'):
  Aa1 Tryz.prog W0 M 234 [.agg #[s.v]] W K:=
 Aa2 (fun W' hE=>Eo5 (M:=fun _=>False) (h.ext hE) hx) (fun W' v W'' hE hE' hP=>by
  obtain⟨rfl,h⟩:=hP
  exact kont W'' (hE.trans hE') h)
end Go.Proofs.YtjkkidjbppphpaaGreatDoor
