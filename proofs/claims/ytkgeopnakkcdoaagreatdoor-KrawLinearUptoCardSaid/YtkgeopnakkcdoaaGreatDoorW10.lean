import Derived.Test.YtkgeopnakkcdoaaGreatDoorW7
import Derived.Test.YtkgeopnakkcdoaaGreatDoorR6
import Derived.Test.YtkgeopnakkcdoaaGreatDoorW2
import Derived.Test.YtkgeopnakkcdoaaGreatDoorW6
import Derived.Test.YtkgeopnakkcdoaaGreatDoorR7
import Derived.Test.YtkgeopnakkcdoaaGreatDoorLib4
import Derived.Test.YtkgeopnakkcdoaaGreatDoorW8
import Derived.Test.YtkgeopnakkcdoaaGreatDoorLib5
import Derived.Test.YtkgeopnakkcdoaaGreatDoorLib6
import Derived.Test.YtkgeopnakkcdoaaGreatDoorW9
import Derived.Test.YtkgeopnakkcdoaaGreatDoorR9
set_option linter.unusedVariables false
set_option linter.unusedSimpArgs false
set_option maxRecDepth 100000
namespace Go.Proofs.YtkgeopnakkcdoaaGreatDoor
open Go Go.SX
variable {M:Nat->Prop}{W0:PW}{i:Int}{k l:Nat}{p:List Tm}{s:Sl}
def Hj5 (m:Mon) (k:Nat):Mon:=if k=0 then⟨m.x-1,m.y,m.z⟩ else if k=1 then⟨m.x,m.y-1,m.z⟩ else⟨m.x,m.y,m.z-1⟩
def Hc2 (k:Nat) (t:Tm):List Tm:=if 0<An6 t.1 k then[(Hj5 t.1 k,t.2*((An6 t.1 k:Int):Rat))] else[]
def Hc1 (p:List Tm) (k:Nat):List Tm:=p.flatMap (Hc2 k)
def Hc3 (p:List Tm) (i:Int):List Tm:=if 0<=i/\i<3 then Ag2 (Hc1 p i.toNat) else[]
theorem Hc4 {j:Nat}(c:j<p.length)(k:Nat):Hc1 (p.take (j+1)) k=Hc1 (p.take j) k ++ Hc2 k p[j]:=by
 rw[Ce0 c];unfold Hc1;rw[List.flatMap_append];rw[show List.flatMap (Hc2 k) [p[j]]=Hc2 k p[j] from by simp[List.flatMap]]
theorem Ho7 (k:Nat)(t:Tm):(Hc2 k t).length<=1:=by
 unfold Hc2;split<;>simp
theorem Hd4 (p:List Tm)(k:Nat):(Hc1 p k).length<=p.length:=by
 induction p with
 | nil=>simp[Hc1]
 | cons t r ih=>
  have e:Hc1 (t::r) k=Hc2 k t ++ Hc1 r k:=rfl;have:=Ho7 k t;rw[e];simp only[List.length_append,List.length_cons];omega
theorem Hl4 {m:Mon}(h:m.ok)(hk:k<3)(c:0<An6 m k):(Hj5 m k).ok:=by
 unfold Mon.ok at h;unfold An6 at c;unfold Hj5;rcases(by omega:k=0\/k=1\/k=2) with rfl | rfl | rfl
 ·simp at c;exact⟨⟨by show 0<=m.x-1;omega,by show m.x-1<=255;omega⟩,h.2.1,h.2.2⟩
 ·simp at c;exact⟨h.1,⟨by show 0<=m.y-1;omega,by show m.y-1<=255;omega⟩,h.2.2⟩
 ·simp at c;exact⟨h.1,h.2.1,by show 0<=m.z-1;omega,by show m.z-1<=255;omega⟩
theorem Hg5 (h:Bd l p)(c:POk p)(k:Nat):Bd (l+1) (Hc1 p k):=by
 obtain⟨D,N,h1,g,u,v⟩:=h;have key: ∀{p:List Tm} {N:Nat},Fit D N p->POk p->Fit D (N*255) (Hc1 p k):=by
  intro p
  induction p with
  | nil=>intro N _ _;trivial
  | cons t r ih=>
   rintro N ⟨a,b,g1,g2,g3⟩ c;have e:Hc1 (t::r) k=Hc2 k t ++ Hc1 r k:=rfl;rw[e];have j:=ih g3 λ x n=>c x (by simp[n]);have o:Fit D (a*255) (Hc2 k t):=by
    unfold Hc2;split
    ·have hk:=Dg9 (c t (by simp)) k
     have f:Ak3 1 255 ((An6 t.1 k:Int):Rat):=(Ak3.int (An6 t.1 k)).mono (by omega);have d:=g2.mul f;rw[Nat.mul_one] at d;exact⟨a*255,0,by omega,d,trivial⟩
    ·trivial
   have:=o.append j;rw[<-Nat.add_mul] at this;exact this.mono (Nat.mul_le_mul_right _ g1)
 have f:=Ae5 N 255;have d:nl 255<=1:=Bc6 (by decide);exact⟨D,N*255,key h1 c,g,by omega,by omega⟩
theorem Hq5 (m:Mon)(hk:k<3)(r:List Value):As9 (.int .u8 m.x :: .int .u8 m.y :: .int .u8 m.z::r) (0+Int.toNat (k:Int)*1+0) [.int .u8 (An6 m k)]:=by
 rcases(by omega:k=0\/k=1\/k=2) with rfl | rfl | rfl<;>exact⟨by simp,rfl⟩
theorem Hl0 (h:Ab0 257 169 W0 s p)(r:Bd l p)(hl:l<=268435456)(hp:p.length<=1073741824):
  Aa0 Tryz.prog 67 [.agg ⟨[s.v]⟩,.int .i64 i] W0 M λ v W'=>∃(s':Sl),v = .agg ⟨[Sl.v s']⟩/\Ab0 257 169 W' s' (Hc3 p i):=by
 apply Hh0;have hn:=h.n;refine⟨λ J N _=>⟨⟨none,0,0⟩,rfl,?_⟩,λ J=>⟨λ O P _=>⟨⟨none,0,0⟩,rfl,?_⟩,λ O=>?_⟩⟩
 ·unfold Hc3;rw[if_neg (by omega)];exact Ab0.nil N
 ·unfold Hc3;rw[if_neg (by omega)];exact Ab0.nil P
 obtain⟨k,rfl⟩:=Int.eq_ofNat_of_zero_le (by omega:0<=i);have u:k<3:=by omega
 have d:(0:Int)<=(k:Int)/\(k:Int)<3:=⟨by omega,by omega⟩
 refine⟨λ L W=>match L with
  | [.row xs,.val (.int .i64 i)]=>∃j:Nat,i=(j:Int)/\j<=p.length/\Ext W0 W/\An5 (PT 257 W) xs (Hc1 (p.take j) k)
  | _=>False,cnL p.length,⟨0,rfl,by omega,Ext.refl _,trivial⟩,?_⟩
 rintro l5 i6 W7 ⟨j,rfl,hj,g,c⟩;have am:=c.len;have w:=Hd4 (p.take j) k;rw[List.length_take] at w;refine⟨λ an=>?_,λ ao ap aq Q hO _=>?_⟩
 ·have f:j<p.length:=by omega
  have A:=h.ext g;obtain⟨C,s1,b1,s2,R,_,_,S⟩:=A.at (List.getElem?_eq_getElem f);have ar:=Dg9 C k;have D:p.length-Int.toNat ((j:Int)+1)<p.length-Int.toNat (j:Int):=by omega
  have E:=Hq5 p[j].1 u [s1.v,.bool b1,s2.v];have hw:IntKind.wrap .u8 (An6 p[j].1 k-1)=An6 p[j].1 k-1\/¬0<An6 p[j].1 k:=by
   by_cases h:0<An6 p[j].1 k
   ·exact .inl (Du1 (by omega) (by omega))
   ·exact .inr h
  refine⟨A.inB (by omega) (by omega),_,_,_,s1,b1,s2,R,d,_,E,λ n=>⟨d,_,E,d,by omega,⟨⟨trivial,λ e=>?_⟩,λ e=>?_⟩,λ e=>?_⟩,λ T=>⟨by unfold I64;omega,⟨j+1,by push_cast;rfl,by omega,g,?_⟩,D⟩⟩
  case refine_4=>
   rw[Hc4 f];unfold Hc2;rw[if_neg T,List.append_nil];exact c
  all_goals
   have U:IntKind.wrap .u8 (An6 p[j].1 k-1)=An6 p[j].1 k-1:=hw.resolve_right (λ h=>h n);have V:=Hl4 C u n;have X:Hc2 k p[j] = [(Hj5 p[j].1 k,p[j].2*((An6 p[j].1 k:Int):Rat))]:=by unfold Hc2;rw[if_pos n]
   have Y:k=_:=e;subst Y;refine⟨by unfold I64;omega,Ay8 (z:=An6 p[j].1 _) (by unfold I64;omega) λ Z aa ab au o ac=>⟨Z,aa,ab,rfl,Ak9 (S.ext o) ac (r.sz _ (List.getElem_mem f)) ((Ak3.int _).sz (by decide) (k:=l+1) (by rw[Ax0];omega) (Nat.le_trans (Ad1 (by omega:_<=255)) (Nat.le_trans (Bc6 (by decide:255<B^1)) (by omega)))) (by omega) (by omega) λ F G H av I ad=>⟨F,G,H,rfl,by simp;omega,by unfold I64;omega,⟨j+1,by push_cast;rfl,by omega,g.trans (o.trans I),?_⟩,D⟩⟩⟩;rw[Hc4 f,X];refine(c.mono λ _ _ h=>h.ext (o.trans I)).snoc ⟨V,F,G,H,?_,ad⟩;rw[U];rfl
 ·have:j=p.length:=by omega
  subst this;rw[List.take_length] at c;have w:=Hd4 p k;refine An2 (Bf5 hO.row (c.mono λ _ _ h=>h.ext Q)) (Hg5 r h.ok k) (by omega) (by omega) λ s' aw ax ae=>⟨s',rfl,λ ay af=>⟨s',rfl,?_⟩⟩;unfold Hc3;rw[if_pos d];exact ae.ext af
theorem Hg6 {W:PW}{K:Value->PW->Prop}(h:Ab0 257 169 W s p)(d:Bd l p)(e:l<=268435456)(f:p.length<=1073741824)(g: ∀(s':Sl) (W':PW),Ext W W'->(Ab0 257 169 W' s' (Hc3 p i))->K (.agg ⟨[Sl.v s']⟩) W'):
  Aa1 Tryz.prog W0 M 67 [.agg ⟨[s.v]⟩,.int .i64 i] W K:=
 Mi4 (λ _ c=>Hl0 (h.ext c) d e f) fun | _,W',c,⟨s',rfl,h⟩=>g s' W' c h
theorem Hg1 (h:Bd l p)(c:POk p)(i:Int):Bd (l+1) (Hc3 p i):=by
 unfold Hc3;split
 ·exact(Hg5 h c _).norm
 ·obtain⟨D,N,h1,d,e,f⟩:=h
  exact⟨1,0,trivial,by decide,by rw[Ax0];omega,by rw[Ag9];omega⟩
theorem Hj1 (p:List Tm)(i:Int):(Hc3 p i).length<=p.length:=by
 unfold Hc3;split
 ·exact Nat.le_trans (El2 _) (Hd4 p _)
 ·simp
theorem Hp7 (h:POk p)(hk:k<3):POk (Hc1 p k):=λ t c=>by
 obtain⟨u,hu,hm⟩:=List.mem_flatMap.1 c;unfold Hc2 at hm;split at hm
 ·rename_i d
  simp only[List.mem_singleton] at hm;subst hm;exact Hl4 (h u hu) hk d
 ·simp at hm
theorem Hh5 (h:POk p)(i:Int):POk (Hc3 p i):=by
 unfold Hc3;split
 ·exact POk.norm (Hp7 h (by omega))
 ·intro t c;simp at c
end Go.Proofs.YtkgeopnakkcdoaaGreatDoor
namespace Go.Proofs.YtkgeopnakkcdoaaGreatDoor
open Go Go.SX Go.RowKit Go.Shelf
variable {M:Nat->Prop}{W0:PW}{m:Mon}
attribute [local go_sem] Oper.semAt_some
def Fk6 (c:Nat) (v:Value) (b off:Nat) (zs:List Nat) (pre:List (Nat×Nat)) (W:World):Prop:=W.cell? ⟨c,0,none⟩=some v/\∀j,j<zs.length-pre.length->W.cell? ⟨b,off+j,none⟩=some (.int .u8 ((zs[j]?.getD 0:Nat):Int))
def Cy9 (x:Nat×Nat):Array Value:=#[.int .i64 (x.1:Int),.int .u8 (x.2:Int)]
set_option maxRecDepth 100000 in
set_option maxHeartbeats 2000000 in
theorem Ee1 (n:Nat)(E:1<=n)(c b off cap:Nat)(zs:List Nat)(F:zs.length<=1099511627776):
  Bv9 Fence.wide n Tryz.prog 265 #[.pointer (some ⟨c,0,none⟩)] Cy9 (Fk6 c (.slice (some ⟨b,off,none⟩) zs.length cap) b off zs) (Fi6 zs) (λ xs=>xs=bks zs zs.length) (λ pre=>∃k,k<zs.length/\pre=bks zs (k+1)):=by
 intro l J G W h z j;refine callsIn_of_wp Tryz.func265 rfl trivial ?_ rfl;simp only[Tryz.ntmps265,List.size_toArray,List.length_cons,List.length_nil,Nat.reduceAdd,Nat.reduceSub,Array.replicate_succ,Array.replicate_zero,List.push_toArray,List.append_toArray,List.nil_append,List.cons_append];have H:W.cell? ⟨c,0,none⟩=some (.slice (some ⟨b,off,none⟩) zs.length cap):=(h _ _ j).1
 gi_wp2
 gi_loopw [3,7,8,9,10,11,12,13,14,15,16,17,18] (λ i _ _ _ _ _ _ _ _ _ _ _ _ wr=>∃m:Nat,m<=zs.length/\i = .int .i64 ((m:Int)-1)/\J (bks zs (zs.length-m)) wr)
  (λ i _ _ _ _ _ _ _ _ _ _ _ _ _=>(intOf i+1).toNat)
 case atStart=>exact⟨zs.length,Nat.le_refl _,rfl,by simpa[bks] using j⟩
 case round=>
  obtain⟨m,hm,rfl,f⟩:=hrel;obtain⟨I,A⟩:=h _ _ f
  cases m with
  | zero=>
   gi_wp2
   go_end0
   exact⟨⟨_,rfl⟩,.inl ⟨_,rfl,by simpa using f⟩⟩
  | succ k=>
   have hk:k<zs.length:=by omega
   have B:wr.cell? ⟨b,off+k,none⟩=some (.int .u8 ((zs[k]?.getD 0:Nat):Int)):=A k (by rw[Ah8];omega);have C:((k+1:Nat):Int)-1=(k:Int):=by omega
   have g:bk zs (zs.length-(k+1))=(k,zs[k]?.getD 0):=by simp only[bk];rw[show zs.length-1-(zs.length-(k+1))=k by omega]
   obtain⟨fn,tmps,assign,body,o,r⟩:=z _ (bk zs (zs.length-(k+1))) wr f ⟨by rw[Ah8];omega,by rw[Ah8],by rw[Ah8]⟩;obtain⟨d,D⟩: ∃d,zs[k]?.getD 0=d:=⟨_,rfl⟩;rw[D] at B g;rw[g] at o r;rw[C];dsimp only[Cy9] at o;have u:bks zs (zs.length-(k+1)) ++ [(k,d)]=bks zs (zs.length-(k+1)+1):=by rw[Bo8,g]
   gi_wp2
   refine r.mono ?_;rintro e L (⟨rfl,v⟩ | ⟨rfl,w⟩)
   ·rw[u,show zs.length-(k+1)+1=zs.length-k by omega] at v
    gi_wp2
    go_roundw
    case rel=>exact⟨k,by omega,rfl,v⟩
    case measure=>simp[intOf]
   ·rw[u] at w
    gi_wp2
    refine bodyPost_ret (results_none rfl _ _ _) rfl ?_;exact⟨⟨_,rfl⟩,.inr ⟨_,⟨_,by omega,rfl⟩,w⟩⟩
set_option maxRecDepth 100000 in
set_option maxHeartbeats 2000000 in
theorem Cm4 (n:Nat)(h:1<=n)(c:Nat)(A:Option Addr)(cap:Nat)(Mem:List (Nat×Nat)->World->Prop)(e: ∀pre W,Mem pre W->W.cell? ⟨c,0,none⟩=some (.slice A 0 cap)):
  Bv9 Fence.wide n Tryz.prog 265 #[.pointer (some ⟨c,0,none⟩)] Cy9 Mem (Fi6 []) (λ xs=>xs=bks [] 0) (λ pre=>∃k,k<0/\pre=bks [] (k+1)):=by
 intro l J j W f o d;refine callsIn_of_wp Tryz.func265 rfl trivial ?_ rfl;simp only[Tryz.ntmps265,List.size_toArray,List.length_cons,List.length_nil,Nat.reduceAdd,Nat.reduceSub,Array.replicate_succ,Array.replicate_zero,List.push_toArray,List.append_toArray,List.nil_append,List.cons_append];have r:W.cell? ⟨c,0,none⟩=some (.slice A 0 cap):=e _ _ (f _ _ d)
 gi_wp2
 gi_loopw [3,7,8] (λ i _ _ wr=>i = .int .i64 (-1)/\J [] wr) (λ _ _ _ _=>0)
 case atStart=>exact⟨by simp,d⟩
 case round=>
  obtain⟨rfl,g⟩:=hrel
  gi_wp2
  go_end0
  exact⟨⟨_,rfl⟩,.inl ⟨_,rfl,g⟩⟩
def Fw0 (c:Nat) (A:Option Addr) (cap:Nat) (zs:List Nat) (pre:List (Nat×Nat)) (W:World):Prop:=W.cell? ⟨c,0,none⟩=some (.slice A zs.length cap)/\∀b off,A=some ⟨b,off,none⟩->∀j,j<zs.length-pre.length->W.cell? ⟨b,off+j,none⟩=some (.int .u8 ((zs[j]?.getD 0:Nat):Int))
theorem Fb7 (n:Nat)(d:1<=n)(c:Nat)(A:Option Addr)(cap:Nat)(zs:List Nat)(f:zs.length<=1099511627776)(g:zs = []\/∃b off,A=some ⟨b,off,none⟩):
  Bv9 Fence.wide n Tryz.prog 265 #[.pointer (some ⟨c,0,none⟩)] Cy9 (Fw0 c A cap zs) (Fi6 zs) (λ xs=>xs=bks zs zs.length) (λ pre=>∃k,k<zs.length/\pre=bks zs (k+1)):=by
 rcases g with rfl | ⟨b,off,rfl⟩
 ·exact Cm4 n d c A cap _ λ pre W h=>h.1
 ·intro l J j W e o r
  exact Ee1 n d c b off cap zs f l J j W (λ pre W' h=>⟨(e pre W' h).1,(e pre W' h).2 b off rfl⟩) o r
set_option maxHeartbeats 1000000 in
theorem Cz7 (n:Nat)(a:Option Addr)(len cap:Nat)(w:World):
  CallsIn Fence.wide n Tryz.prog 253 #[.slice a len cap] w λ e w'=>e = .returned (.func (.func 265) #[] #[.pointer (some ⟨w.heap.size,0,none⟩)])/\w'=w.alloc (.cells #[.slice a len cap] 320):=by
 refine callsIn_of_wp Tryz.func253 rfl trivial ?_ rfl;simp only[Tryz.ntmps253,List.size_toArray,List.length_cons,List.length_nil,Nat.reduceAdd,Nat.reduceSub,Array.replicate_succ,Array.replicate_zero,List.push_toArray,List.append_toArray,List.nil_append,List.cons_append]
 gi_wp2
 go_ret
 exact⟨rfl,rfl⟩
def Dn7 (zs:List Nat):Nat:=if 0<zs[2]?.getD 0 then 3 else if 0<zs[1]?.getD 0 then 2 else if 0<zs[0]?.getD 0 then 1 else 0
set_option maxRecDepth 100000 in
set_option maxHeartbeats 4000000 in
theorem Ff2 (n:Nat)(hn:3<=n)(x y z:Nat)(w:World):
  CallsIn Fence.wide n Tryz.prog 221 #[.agg #[.int .u8 (x:Int),.int .u8 (y:Int),.int .u8 (z:Int)]] w λ e W'=>e = .returned (.int .i64 (Dn7 [x,y,z]:Nat))/\An0 w W':=by
 refine callsIn_of_wp_marks Tryz.func221 rfl trivial ?_ rfl;simp only[Tryz.ntmps221,List.size_toArray,List.length_cons,List.length_nil,Nat.reduceAdd,Nat.reduceSub,Array.replicate_succ,Array.replicate_zero,List.push_toArray,List.append_toArray,List.nil_append,List.cons_append]
 gi_wp2
 refine⟨trivial,λ _=>by omega,(Cz7 (n-1) _ _ _ _).mono ?_⟩;rintro e w' ⟨rfl,rfl⟩
 gi_wp2
 obtain⟨g,F⟩: ∃g,(((w.alloc (.cells #[.int .u8 (x:Int),.int .u8 (y:Int),.int .u8 (z:Int)] 146)).alloc (.cells #[.int .i64 0] 3)).alloc (.cells #[.slice (some ⟨w.heap.size,0,none⟩) 3 3] 320))=g:=⟨_,rfl⟩;have ao:g.heap.size=w.heap.size+1+1+1:=by rw[<-F];simp
 have Y:An0 w g:=by rw[<-F];exact⟨((((Below.refl _ w).alloc (Nat.le_refl _) _).alloc (by simp) _).alloc (by simp;omega) _),Nat.le_refl _⟩
 have Z:Boxed g (w.heap.size+1+1) 320 (.slice (some ⟨w.heap.size,0,none⟩) 3 3):=by
  rw[<-F];have:=Boxed.new ((w.alloc (.cells #[.int .u8 (x:Int),.int .u8 (y:Int),.int .u8 (z:Int)] 146)).alloc (.cells #[.int .i64 0] 3)) 320 (.slice (some ⟨w.heap.size,0,none⟩) 3 3)
  simpa using this
 have T:Boxed g (w.heap.size+1) 3 (.int .i64 0):=by
  rw[<-F];have:=Boxed.new (w.alloc (.cells #[.int .u8 (x:Int),.int .u8 (y:Int),.int .u8 (z:Int)] 146)) 3 (.int .i64 0)
  simpa using this.alloc (.cells #[.slice (some ⟨w.heap.size,0,none⟩) 3 3] 320)
 have aa:g.heap[w.heap.size]?=some (.cells #[.int .u8 (x:Int),.int .u8 (y:Int),.int .u8 (z:Int)] 146):=by
  rw[<-F];rw[Below.heap_alloc _ _ _ (by simp;omega),Below.heap_alloc _ _ _ (by simp)];exact World.alloc_heap_new w _
 have hX: ∀j,j<3->g.cell? ⟨w.heap.size,0+j,none⟩=some (.int .u8 ((([x,y,z]:List Nat)[j]?.getD 0:Nat):Int)):=λ j G=>by
  simp only[World.cell?,aa];rcases(by omega:j=0\/j=1\/j=2) with rfl | rfl | rfl<;>rfl
 rw[F];refine As7 (α:=Nat×Nat) (n:=n) rfl (by omega) (gf:=265) (lb:=#[.pointer (some ⟨w.heap.size+1+1,0,none⟩)]) rfl trivial (enters_of Tryz.func265 (by kernel_rfl) rfl)
  (Fb7 (n-1) (by omega) (w.heap.size+1+1) (some ⟨w.heap.size,0,none⟩) 3 [x,y,z] (by simp) (.inr ⟨_,_,rfl⟩)) (λ _=>rfl)
  (λ pre W=>((∀p∈pre,p.2=0)/\W.cell? ⟨w.heap.size+1,0,none⟩=some (.int .i64 0)/\W.frozen? ⟨w.heap.size+1,0,none⟩=false/\(∀j,j<3->W.cell? ⟨w.heap.size,0+j,none⟩=some (.int .u8 ((([x,y,z]:List Nat)[j]?.getD 0:Nat):Int)))/\W.cell? ⟨w.heap.size+1+1,0,none⟩=some (.slice (some ⟨w.heap.size,0,none⟩) 3 3))/\An0 w W)
  (λ c pre W=>(c = .ret/\∃L last,pre=L ++ [last]/\(∀p∈L,p.2=0)/\0<last.2/\W.cell? ⟨w.heap.size+1,0,none⟩=some (.int .i64 ((last.1:Int)+1)))/\An0 w W)
  ?_ ?_ ?_ ?_
  (λ v=>{tmps:=#[.agg #[.int .u8 (x:Int),.int .u8 (y:Int),.int .u8 (z:Int)],.pointer (some ⟨w.heap.size,0,none⟩),.pointer (some ⟨w.heap.size+1,0,none⟩),.int .i64 (v.1:Int),.int .u8 (v.2:Int),.slice (some ⟨w.heap.size,0,none⟩) 3 3,
    .func (.func 265) #[] #[.pointer (some ⟨w.heap.size+1+1,0,none⟩)],.int .i64 (v.1:Int),.int .u8 (v.2:Int),undef,undef,undef,undef],defers:=[] }) ?assign ?body ?done ?stop
 case assign=>
  intro l p W K u;simp only[Cy9]
  gi_wp2
  exact u
 case body=>
  rintro l pre p W ⟨⟨U,H,V,N,O⟩,C⟩ ⟨hlen,ap,ac⟩;have hi:p.1<3:=by rw[ac];simp only[bk];simp;omega
  obtain⟨i,v⟩:=p;dsimp only at *
  gi_wp2
  ·have ad:0<v:=by first | assumption | omega
   exact⟨(KeepsOthers.setCell _ _ _).from _,⟨rfl,pre,(i,v),rfl,U,ad,World.cell?_setCell_same' _ _ _ (by rw[H];rfl)⟩,C.setCell (p:=⟨w.heap.size+1,0,none⟩) (by show w.heap.size<=w.heap.size+1;omega) _⟩
  ·have f:v=0:=by omega
   refine⟨KeepsFrom.refl _ _,trivial,⟨λ p ae=>?_,H,V,N,O⟩,C⟩;rcases List.mem_append.1 ae with h | h
   ·exact U p h
   ·simp at h;subst h;exact f
 case done=>
  rintro D ps W hD rfl ⟨⟨ag,H,V,N,O⟩,C⟩ u
  gi_wp2
  have Q:=(KeepsOthers.setCell W ⟨w.heap.size+1,0,none⟩ (.int .i64 0)).same D _ u rfl;refine⟨by simp,.inl ⟨_,_,rfl,run_takeDeferred Q,?_⟩⟩;have R:=cell_kept (World.cell?_setCell_same' W ⟨w.heap.size+1,0,none⟩ (.int .i64 0) (by rw[H];rfl)) (grownBy_putObj' _ D (.deferred none)) (λ r e=>by cases e;exact⟨_,Q,rfl⟩);refine⟨.int .i64 0,?_,?_,(C.setCell (p:=⟨w.heap.size+1,0,none⟩) (by show w.heap.size<=w.heap.size+1;omega) _).put (by omega) Q rfl rfl⟩
  ·simp[results,Tryz.f221,go_sem,R]
  ·have E: ∀k,k<3->([x,y,z]:List Nat)[3-1-k]?.getD 0=0:=λ k hk=>ag (bk [x,y,z] k) (List.mem_map.2 ⟨k,List.mem_range.2 (by simpa using hk),rfl⟩)
   have f:=E 0 (by omega);have h1:=E 1 (by omega);have X:=E 2 (by omega);simp at f h1 X;simp[Dn7,f,h1,X]
 case stop=>
  rintro D c pre W hD ⟨k,hk,rfl⟩ ⟨⟨rfl,L,last,P,S,d,H⟩,C⟩ u
  gi_wp2
  refine⟨by simp,.inl ⟨_,_,rfl,run_takeDeferred u,?_⟩⟩;rw[Bo8] at P;obtain⟨rfl,e5⟩:=List.append_inj' P rfl;have e6:last=bk [x,y,z] k:=by simpa using e5.symm
  subst e6;have aj:=C.put (o':=.deferred none) (by omega) u rfl rfl;have R:=cell_kept H (grownBy_putObj' _ D (.deferred none)) (λ r e=>by cases e;exact⟨_,u,rfl⟩);have E: ∀j,j<k->([x,y,z]:List Nat)[3-1-j]?.getD 0=0:=λ j G=>S (bk [x,y,z] j) (List.mem_map.2 ⟨j,List.mem_range.2 G,rfl⟩);refine⟨.int .i64 (((bk [x,y,z] k).1:Int)+1),by simp[results,Tryz.f221,go_sem,R],?_,aj⟩;have ar:k<3:=by simpa using hk
  rcases(by omega:k=0\/k=1\/k=2) with rfl | rfl | rfl
  ·have d:0<z:=d
   simp[Dn7,bk,d]
  ·have f:=E 0 (by omega)
   have d:0<y:=d;simp at f;simp[Dn7,bk,d,f]
  ·have f:=E 0 (by omega)
   have h1:=E 1 (by omega);have d:0<x:=d;simp at f h1;simp[Dn7,bk,d,f,h1]
 ·exact Af7.and (Own.Ey9 (λ s A B row o I J=>⟨o.1,cell_kept o.2.1 I J,(frozen_kept o.2.1 I J).trans o.2.2.1,λ j G=>cell_kept (o.2.2.2.1 j G) I J,cell_kept o.2.2.2.2 I J⟩) _) (Am0 (by omega))
 ·exact λ c=>Af7.and (Own.Ey9 (λ s A B row o I J=>by
   obtain⟨hc,L,last,P,S,d,e4⟩:=o;exact⟨hc,L,last,P,S,d,cell_kept e4 I J⟩) _) (Am0 (by omega))
 ·rintro pre W ⟨⟨_,_,_,N,O⟩,C⟩
  refine⟨O,λ b off hA j G=>?_⟩;cases hA;exact N j (by simp at G;omega)
 ·exact⟨⟨by simp,T.cell,T.frozen,hX,Z.cell⟩,Y⟩
def Cx8 (m:Mon):Int:=if 0<m.z then 3 else if 0<m.y then 2 else if 0<m.x then 1 else 0
theorem Dj6 (hm:m.ok):
  Aa0 Tryz.prog 221 [.agg ⟨[.int .u8 m.x,.int .u8 m.y,.int .u8 m.z]⟩] W0 M λ v W'=>v = .int .i64 (Cx8 m)/\True:=by
 refine⟨⟨_,Tryz.func221,rfl,rfl⟩,λ _=>?_⟩;obtain⟨⟨c,_⟩,⟨d,_⟩,z0,_⟩:=hm;obtain⟨mx,g,h⟩:=m;obtain⟨x,rfl⟩:=Int.eq_ofNat_of_zero_le c;obtain⟨y,rfl⟩:=Int.eq_ofNat_of_zero_le d;obtain⟨z,rfl⟩:=Int.eq_ofNat_of_zero_le z0;have:=callsIn_wide.1 (Ff2 5 (by omega) x y z W0.w);have e:((Dn7 [x,y,z]:Nat):Int)=Cx8 ⟨x,y,z⟩:=by
  simp only[Dn7,Cx8];show((if 0<z then 3 else if 0<y then 2 else if 0<x then 1 else 0:Nat):Int)=_
  (repeat' split)<;>omega
 rw[e] at this;exact Calls.mono this λ e w' ⟨he,f⟩=>⟨_,he,Bd7 f,rfl,trivial⟩
theorem Cj8 {W:PW}{K:Value->PW->Prop}(hm:m.ok)(d: ∀(W':PW),Ext W W'->(True)->K (.int .i64 (Cx8 m)) W'):
  Aa1 Tryz.prog W0 M 221 [.agg ⟨[.int .u8 m.x,.int .u8 m.y,.int .u8 m.z]⟩] W K:=
 Mi4 (λ _ c=>Dj6 hm) fun | _,W',c,⟨rfl,h⟩=>d W' c h
end Go.Proofs.YtkgeopnakkcdoaaGreatDoor
namespace Go.Proofs.YtkgeopnakkcdoaaGreatDoor
open Go Go.SX
variable {M:Nat->Prop}{W0:PW}{p:List Tm}{s:Sl}
def Fv8 (i:Int) (m:Mon):Int:=if 0<=i/\i<3 then An6 m i.toNat else 0
def Fw5 (W0:PW) (p:List Tm) (i:Int) (L:List PL) (W:PW):Prop:=match L with
 | [.val (.int .i64 a),.val (.int .i64 k)]=>∃j:Nat,k=(j:Int)/\j<=p.length/\Ext W0 W/\a=Fd0 (Fv8 i) 0 (p.take j)
 | _=>False
def Fv5 (p:List Tm) (L:List PL) (_:PW):Nat:=match L with
 | [_,.val (.int .i64 k)]=>p.length-k.toNat
 | _=>0
def Fw1 (W0:PW) (p:List Tm) (L:List PL) (W:PW):Prop:=match L with
 | [.val (.int .i64 a),.val (.int .i64 k)]=>∃j:Nat,k=(j:Int)/\j<=p.length/\Ext W0 W/\a=Fd0 Cx8 0 (p.take j)
 | _=>False
theorem Dd3 (h:Ab0 257 169 W0 s p)(u:p.length<=1099511627776):
  Aa0 Tryz.prog 166 [.agg ⟨[s.v]⟩] W0 M λ v W'=>v = .int .i64 (Fd0 Cx8 0 p)/\True:=by
 apply Cn0;have w:=h.n;refine⟨Fw1 W0 p,Fv5 p,⟨0,rfl,by omega,Ext.refl _,rfl⟩,?_⟩;rintro i3 i4 z ⟨j,rfl,A,c,rfl⟩;refine⟨λ B=>?_,λ C f _=>⟨?_,trivial⟩⟩
 ·have d:j<p.length:=by omega
  have e:=h.ext c;obtain⟨g,c1,d1,c2,n,_,_,D⟩:=e.at (List.getElem?_eq_getElem d);have o:p.length-Int.toNat ((j:Int)+1)<p.length-Int.toNat (j:Int):=by omega
  refine⟨e.inB (by omega) (by omega),_,_,_,c1,d1,c2,n,Cj8 g λ f r _=>⟨_,rfl,by unfold I64;omega,⟨j+1,by push_cast;rfl,by omega,c.trans r,by rw[Ce0 d,Em4]⟩,o⟩⟩
 ·have:j=p.length:=by omega
  subst this;rw[List.take_length]
theorem Co3 {W:PW}{K:Value->PW->Prop}(h:Ab0 257 169 W s p)(d:p.length<=1099511627776)(e: ∀(W':PW),Ext W W'->(True)->K (.int .i64 (Fd0 Cx8 0 p)) W'):
  Aa1 Tryz.prog W0 M 166 [.agg ⟨[s.v]⟩] W K:=
 Mi4 (λ _ c=>Dd3 (h.ext c) d) fun | _,W',c,⟨rfl,h⟩=>e W' c h
end Go.Proofs.YtkgeopnakkcdoaaGreatDoor
namespace Go.Proofs.YtkgeopnakkcdoaaGreatDoor
open Go Go.SX
def Ha3 (b:Nat->Iv) (u:Pt):Prop:=∀i,i<3->inI (b i) (u.get i)
theorem He6 (m:Mon)(i:Nat):mex m i=(An6 m i).toNat:=by
 unfold mex An6
 (repeat' split)<;>rfl
theorem Hr6 {b:Nat->Iv}{u:Pt}(h:Ha3 b u)(t:Tm): ∀j,j<=3->inI (Ci9 b t j) (ctm t u j)
 | 0,_=>⟨Rat.le_refl,Rat.le_refl⟩
 | j+1,c=>by
  have ih:=Hr6 h t j (by omega);rw[Ci9,ctm,<-He6];split
  ·exact Gc0 ih (Da5 (h j (by omega)) _)
  ·rename_i d
   rw[show mex t.1 j=0 by omega,Rat.pow_zero,Rat.mul_one];exact ih
theorem Hq8 {b:Nat->Iv}{u:Pt}(h:Ha3 b u)(p:List Tm):inI (Aq8 b p) (atQ u p):=by
 have key: ∀(p:List Tm) (a:Iv) (v:Rat),inI a v->inI (p.foldl (λ a t=>Cb5 a (Ci9 b t 3)) a) (p.foldl (λ a t=>a+ctm t u 3) v):=by
  intro p
  induction p with
  | nil=>intro a v h;exact h
  | cons t r ih=>intro a v c;exact ih _ _ (Hd8 c (Hr6 h t 3 (Nat.le_refl _)))
 exact key p _ _ ⟨Rat.le_refl,Rat.le_refl⟩
end Go.Proofs.YtkgeopnakkcdoaaGreatDoor
namespace Go.Proofs.YtkgeopnakkcdoaaGreatDoor
open Go Go.SX
variable {b:Nat->Iv}{i:Nat}{p:List Tm}{t:Tm}{x:Iv}
def wv (c:Rat) (w:Nat->Rat):Nat->Rat
 | 0=>c
 | j+1=>wv c w j*w j
theorem Hs0 {b:Nat->Iv}{m:Mon}{c:Rat}{w:Nat->Rat}(h: ∀i,i<3->inI (Ai3 (b i) (mex m i)) (w i)): ∀j,j<=3->inI (Ci9 b (m,c) j) (wv c w j)
 | 0,_=>⟨Rat.le_refl,Rat.le_refl⟩
 | j+1,f=>by
  have ih:=Hs0 (c:=c) h j (by omega);have hw:=h j (by omega);rw[Ci9,wv];split
  ·exact Gc0 ih hw
  ·rename_i e
   rw[show mex m j=0 from by simpa using e,Dy8] at hw;obtain⟨h1,d⟩:=hw;have h1:1<=w j:=h1;have d:w j<=1:=d;rw[show w j=1 by grind,Rat.mul_one];exact ih
theorem He7 {a:Rat}{b:Rat}(c:inI x a)(d:inI x b)(e:Nat): ∃g,(0<e->inI (Ai3 x (e-1)) g)/\a^e-b^e=(e:Rat)*g*(a-b):=by
 cases e with
 | zero=>exact⟨0,λ h=>by omega,by rw[Rat.pow_zero,Rat.pow_zero];grind⟩
 | succ n=>
  obtain⟨g,h1,f⟩:=Fu7 c d n;exact⟨g,λ _=>h1,f⟩
theorem Hr0 {m:Mon}(hi:i<3)(j:Nat)(c:j<3):mex (Hj5 m i) j=if j=i then mex m i-1 else mex m j:=by
 unfold mex Hj5;rcases(by omega:i=0\/i=1\/i=2) with rfl | rfl | rfl<;>rcases(by omega:j=0\/j=1\/j=2) with rfl | rfl | rfl<;>simp<;>omega
theorem Hg2 (hi:i<3)(f:t.1.ok){w:Nat->Rat}(h: ∀j,j<3->j≠i->inI (Ai3 (b j) (mex t.1 j)) (w j))(g:0<mex t.1 i->inI (Ai3 (b i) (mex t.1 i-1)) (w i)):inI (ovS b (Hc2 i t)) (wv (t.2*((mex t.1 i:Nat):Rat)) w 3):=by
 have he:An6 t.1 i=((mex t.1 i:Nat):Int):=by
  have:=He6 t.1 i;have o:=(Dg9 f i).1;omega
 unfold Hc2;rw[he]
 by_cases n:0<mex t.1 i
 ·rw[if_pos (by omega)]
  have:=Hd8 (Hs0 (b:=b) (m:=Hj5 t.1 i) (c:=t.2*(((mex t.1 i:Nat):Int):Rat)) (w:=w) (λ j d=>by
   rw[Hr0 hi j d];split
   ·rename_i e;subst e;exact g n
   ·rename_i e;exact h j d e) 3 (Nat.le_refl _)) (y:=(0,0)) (w:=0) ⟨Rat.le_refl,Rat.le_refl⟩
  rw[Rat.add_zero] at this;exact this
 ·rw[if_neg (by omega),show mex t.1 i=0 by omega]
  have:wv (t.2*((0:Nat):Rat)) w 3=0:=by
   simp only[wv];show t.2*0*w 0*w 1*w 2=0;grind
  rw[this];exact⟨Rat.le_refl,Rat.le_refl⟩
theorem Hs5 (u:Pt):ctm t u 3=t.2*u.x^mex t.1 0*u.y^mex t.1 1*u.z^mex t.1 2:=by
 simp only[ctm,<-He6];rfl
theorem Ho5 {u:Pt}{v:Pt}(hu:Ha3 b u)(c:Ha3 b v)(d:t.1.ok): ∃e h1 f:Rat,inI (ovS b (Hc2 0 t)) e/\inI (ovS b (Hc2 1 t)) h1/\inI (ovS b (Hc2 2 t)) f/\
  ctm t u 3=ctm t v 3+e*(u.x-v.x)+h1*(u.y-v.y)+f*(u.z-v.z):=by
 have B:inI (b 0) u.x:=hu 0 (by omega);have g:inI (b 1) u.y:=hu 1 (by omega);have n:inI (b 2) u.z:=hu 2 (by omega);have v0:inI (b 0) v.x:=c 0 (by omega);have v1:inI (b 1) v.y:=c 1 (by omega);have v2:inI (b 2) v.z:=c 2 (by omega);obtain⟨g0,a0,C⟩:=He7 B v0 (mex t.1 0);obtain⟨g1,D,E⟩:=He7 g v1 (mex t.1 1);obtain⟨g2,a2,F⟩:=He7 n v2 (mex t.1 2);have G:=Da5 g (mex t.1 1);have o:=Da5 n (mex t.1 2);have r:=Da5 v0 (mex t.1 0);have q1:=Da5 v1 (mex t.1 1);refine⟨_,_,_,Hg2 (i:=0) (w:=λ j=>if j=0 then g0 else if j=1 then u.y^mex t.1 1 else u.z^mex t.1 2) (by omega) d (λ j z A=>?_) (λ h=>a0 h),Hg2 (i:=1) (w:=λ j=>if j=0 then v.x^mex t.1 0 else if j=1 then g1 else u.z^mex t.1 2) (by omega) d (λ j z A=>?_) (λ h=>D h),
  Hg2 (i:=2) (w:=λ j=>if j=0 then v.x^mex t.1 0 else if j=1 then v.y^mex t.1 1 else g2) (by omega) d (λ j z A=>?_) (λ h=>a2 h),?_⟩
 ·rcases(by omega:j=1\/j=2) with rfl | rfl
  ·exact G
  ·exact o
 ·rcases(by omega:j=0\/j=2) with rfl | rfl
  ·exact r
  ·exact o
 ·rcases(by omega:j=0\/j=1) with rfl | rfl
  ·exact r
  ·exact q1
 ·rw[Hs5,Hs5]
  show _=_+t.2*((mex t.1 0:Nat):Rat)*g0*u.y^mex t.1 1*u.z^mex t.1 2*(u.x-v.x)+t.2*((mex t.1 1:Nat):Rat)*v.x^mex t.1 0*g1*u.z^mex t.1 2*(u.y-v.y)+t.2*((mex t.1 2:Nat):Rat)*v.x^mex t.1 0*v.y^mex t.1 1*g2*(u.z-v.z);rw[show t.2*((mex t.1 0:Nat):Rat)*g0*u.y^mex t.1 1*u.z^mex t.1 2*(u.x-v.x)=t.2*(((mex t.1 0:Nat):Rat)*g0*(u.x-v.x))*u.y^mex t.1 1*u.z^mex t.1 2 by grind,<-C,
   show t.2*((mex t.1 1:Nat):Rat)*v.x^mex t.1 0*g1*u.z^mex t.1 2*(u.y-v.y)=t.2*v.x^mex t.1 0*(((mex t.1 1:Nat):Rat)*g1*(u.y-v.y))*u.z^mex t.1 2 by grind,<-E,
   show t.2*((mex t.1 2:Nat):Rat)*v.x^mex t.1 0*v.y^mex t.1 1*g2*(u.z-v.z)=t.2*v.x^mex t.1 0*v.y^mex t.1 1*(((mex t.1 2:Nat):Rat)*g2*(u.z-v.z)) by grind,<-F]
  grind
def atS (u:Pt):List Tm->Rat
 | []=>0
 | t::p=>ctm t u 3+atS u p
theorem Hr9 (u:Pt)(p:List Tm):atQ u p=atS u p:=by
 have key: ∀(p:List Tm) (a:Rat),p.foldl (λ a t=>a+ctm t u 3) a=a+atS u p:=by
  intro p
  induction p with
  | nil=>intro a;exact(Rat.add_zero a).symm
  | cons t p ih=>intro a;rw[List.foldl_cons,ih,atS,Rat.add_assoc]
 rw[atQ,key,Rat.zero_add]
theorem Hc6 (t:Tm)(p:List Tm)(i:Nat):Hc1 (t::p) i=Hc2 i t ++ Hc1 p i:=rfl
theorem Hj6 {b:Nat->Iv}{u v:Pt}(hu:Ha3 b u)(e:Ha3 b v): ∀p:List Tm,POk p->∃c h1 d:Rat,inI (ovS b (Hc1 p 0)) c/\inI (ovS b (Hc1 p 1)) h1/\inI (ovS b (Hc1 p 2)) d/\
  atS u p=atS v p+c*(u.x-v.x)+h1*(u.y-v.y)+d*(u.z-v.z)
 | [],_=>⟨0,0,0,⟨Rat.le_refl,Rat.le_refl⟩,⟨Rat.le_refl,Rat.le_refl⟩,⟨Rat.le_refl,Rat.le_refl⟩,by show(0:Rat)=0+0*_+0*_+0*_;grind⟩
 | t::p,f=>by
  obtain⟨g0,g1,g2,g,k1,h,j⟩:=Ho5 hu e (f t (by simp));obtain⟨c,h1,d,n,o,r,w⟩:=Hj6 hu e p λ x z=>f x (by simp[z]);refine⟨g0+c,g1+h1,g2+d,?_,?_,?_,?_⟩
  ·rw[Hc6,Hf9];exact Hd8 g n
  ·rw[Hc6,Hf9];exact Hd8 k1 o
  ·rw[Hc6,Hf9];exact Hd8 h r
  ·rw[atS,atS,j,w]
   grind
theorem dec_lt {a b:Mon}(h : a.lt b)(i : Nat): (Hj5 a i).lt (Hj5 b i) := by
  unfold Mon.lt Mon.deg at *;unfold Hj5
  (repeat' split)<;>dsimp only<;>omega
theorem Hj9 {x:Tm}(h:x∈Hc1 p i): ∃s∈p,0<An6 s.1 i/\x=(Hj5 s.1 i,s.2*((An6 s.1 i:Int):Rat)):=by
 obtain⟨s,d,c⟩:=List.mem_flatMap.1 h;unfold Hc2 at c;split at c
 ·exact⟨s,d,by assumption,List.mem_singleton.1 c⟩
 ·cases c
theorem Hk1: ∀{p:List Tm} (_:p.Pairwise λ a b=>a.1.lt b.1) (i:Nat),(Hc1 p i).Pairwise λ a b=>a.1.lt b.1
 | [],_,_=>List.Pairwise.nil
 | t::p,h,i=>by
  obtain⟨h1,c⟩:=List.pairwise_cons.1 h;have ih:=Hk1 c i;rw[Hc6];unfold Hc2;split
  ·refine List.pairwise_cons.2 ⟨λ x d=>?_,ih⟩
   obtain⟨s,e,_,rfl⟩:=Hj9 d;exact dec_lt (h1 s e) i
  ·exact ih
theorem Hn6 (h:Av6 p)(i:Nat):Av6 (Hc1 p i):=⟨Hk1 h.srt i,λ x d=>by
 obtain⟨s,f,g,rfl⟩:=Hj9 d;have h1:=h.nz s f;have c:(0:Rat)<((An6 s.1 i:Int):Rat):=Rat.intCast_pos.2 g;show s.2*((An6 s.1 i:Int):Rat)≠0;rw[ne_eq,Rat.mul_eq_zero];rintro(e | e)
 ·exact h1 e
 ·rw[e] at c;exact absurd c (by decide)⟩
theorem Hp8 (h:Av6 p)(hi:i<3):Hc3 p (i:Int)=Hc1 p i:=by
 unfold Hc3;rw[if_pos ⟨by omega,by omega⟩,Int.toNat_natCast];exact(Ce8 _).uniq (Hn6 h i) λ m=>Bh2 _ m
def Hb9 (bs : List Iv) : Pt := ⟨Ga6 (Bm3 bs 0), Ga6 (Bm3 bs 1), Ga6 (Bm3 bs 2)⟩
theorem Hd5 (bs:List Iv)(hi:i<3):(Hb9 bs).get i=Ga6 (Bm3 bs i):=by
 rcases(by omega:i=0\/i=1\/i=2) with rfl | rfl | rfl<;>rfl
theorem Hr3 (h:x.1<=x.2):inI x (Ga6 x):=by
 unfold Ga6;have two:(0:Rat)<2:=by decide
 exact⟨Rat.not_lt.1 λ e=>by have:=(Rat.div_lt_iff two).1 e;grind,Rat.not_lt.1 λ e=>by have:=(Rat.lt_div_iff two).1 e;grind⟩
theorem Hq3 {bs:List Iv}(h: ∀x∈bs,x.1<=x.2):Ha3 (Bm3 bs) (Hb9 bs):=λ i hi=>by
 rw[Hd5 bs hi];exact Hr3 (Ey5 h i)
end Go.Proofs.YtkgeopnakkcdoaaGreatDoor
namespace Go.Proofs.YtkgeopnakkcdoaaGreatDoor
open Go Go.SX
variable {K:Value->PW->Prop}{M:Nat->Prop}{W W0:PW}{a q:Rat}{b:Bool}{bs:List Iv}{k m:Nat}{l2:List Value}{p:List Tm}{s t:Sl}{x y:Iv}
theorem Hm9 {l1:List Value}(h1:SpV 257 W0 l1 x)(c:SpV 257 W0 l2 y)(d:IvS k x)(e:IvS k y)(hk:k<=8589934592):
  Aa0 Tryz.prog 66 [.agg ⟨l1⟩,.agg ⟨l2⟩] W0 M λ v W'=>∃(l:List Value),v = .agg ⟨l⟩/\SpV 257 W' l (He4 x y):=by
 obtain⟨s0,b0,t0,s1,b1,t1,rfl,h1,h⟩:=h1;obtain⟨s2,b2,t2,s3,A,t3,rfl,c,j⟩:=c;apply Hj2;exact Gr0 h1 j d.1 e.2 hk hk λ s3 n o B f g1=>⟨s3,n,o,rfl,Gr0 (h.ext f) (c.ext f) d.2 e.1 hk hk λ r u w C z g2=>⟨r,u,w,rfl,λ D g=>⟨_,rfl,SpV.mk (x:=He4 x y) (g1.ext (z.trans g)) (g2.ext g)⟩⟩⟩
theorem Hi9 {l1:List Value}(h1:SpV 257 W l1 x)(d:SpV 257 W l2 y)(e:IvS k x)(f:IvS k y)(hk:k<=8589934592)(g: ∀(l:List Value) (W':PW),Ext W W'->(SpV 257 W' l (He4 x y))->K (.agg ⟨l⟩) W'):
  Aa1 Tryz.prog W0 M 66 [.agg ⟨l1⟩,.agg ⟨l2⟩] W K:=
 Mi4 (λ _ c=>Hm9 (h1.ext c) (d.ext c) e f hk) fun | _,W',c,⟨l,rfl,h⟩=>g l W' c h
theorem Ge1:Sz 1 ((2:Int):Rat):=⟨by rw[Rat.num_intCast];exact Bc6 (by decide),by rw[Rat.den_intCast,Ax0];omega⟩
theorem Gb3 (h:Ab3 257 W0 s b t q)(g:Sz k q)(hk:k<=8589934592):
  Aa0 Tryz.prog 247 [.agg ⟨[s.v,.bool b,t.v]⟩] W0 M λ v W'=>∃(r:Sl),∃(c:Bool),∃(u:Sl),v = .agg ⟨[Sl.v r,.bool c,Sl.v u]⟩/\Ab3 257 W' r c u (q/2):=by
 apply Fz1;exact Ay8 (z:=2) (by unfold I64;omega) λ s3 j n C o w=>⟨s3,j,n,rfl,Gb1 (h.ext o) w g Ge1 hk (by omega) (by omega) λ d e f D E A=>⟨d,e,f,_,rfl,λ F B=>⟨d,e,f,rfl,A.ext B⟩⟩⟩
theorem Fz7 (h:Ab3 257 W s b t q)(e:Sz k q)(hk:k<=8589934592)(f: ∀(r:Sl) (c:Bool) (u:Sl) (W':PW),Ext W W'->(Ab3 257 W' r c u (q/2))->K (.agg ⟨[Sl.v r,.bool c,Sl.v u]⟩) W'):
  Aa1 Tryz.prog W0 M 247 [.agg ⟨[s.v,.bool b,t.v]⟩] W K:=
 Mi4 (λ _ d=>Gb3 (h.ext d) e hk) fun | _,W',d,⟨r,c,u,rfl,h⟩=>f r c u W' d h
theorem Gd0 {l1:List Value}(h1:SpV 257 W0 l1 x)(d:IvS k x)(hk:k<=1073741824):
  Aa0 Tryz.prog 202 [.agg ⟨l1⟩] W0 M λ v W'=>∃(r:Sl),∃(c:Bool),∃(u:Sl),v = .agg ⟨[Sl.v r,.bool c,Sl.v u]⟩/\Ab3 257 W' r c u (Ga6 x):=by
 obtain⟨s0,b0,t0,s1,b1,t1,rfl,h1,h⟩:=h1;apply Ga3;exact At2 h1 h d.1 d.2 (by omega) (by omega) λ s3 j n A B o=>⟨s3,j,n,rfl,Fz7 o (d.1.add d.2) (by omega) λ e f g C D w=>⟨e,f,g,rfl,λ E z=>⟨e,f,g,rfl,w.ext z⟩⟩⟩
theorem Ga1 {l1:List Value}(h1:SpV 257 W l1 x)(e:IvS k x)(hk:k<=1073741824)(f: ∀(r:Sl) (c:Bool) (u:Sl) (W':PW),Ext W W'->(Ab3 257 W' r c u (Ga6 x))->K (.agg ⟨[Sl.v r,.bool c,Sl.v u]⟩) W'):
  Aa1 Tryz.prog W0 M 202 [.agg ⟨l1⟩] W K:=
 Mi4 (λ _ d=>Gd0 (h1.ext d) e hk) fun | _,W',d,⟨r,c,u,rfl,h⟩=>f r c u W' d h
instance (x y:Iv):Decidable (Ft1 x y):=by unfold Ft1;infer_instance
theorem Hp0 {b:Rat}(c:Sz k a)(d:Sz k b):Sz k (Az9 a b):=by rcases Dj0 a b with e | e<;>rw[e]<;>assumption
theorem Hp2 {b:Rat}(c:Sz k a)(d:Sz k b):Sz k (Au7 a b):=by rcases Dj7 a b with e | e<;>rw[e]<;>assumption
def An3 (p:List Tm) (bs:List Iv):Prop:=Cn7 bs/\Fd0 Cx8 0 p<=(bs.length:Int)
instance (p:List Tm) (bs:List Iv):Decidable (An3 p bs):=by unfold An3;infer_instance
theorem Cm8 {sb:Sl}(h:Ab0 257 169 W0 s p)(d:Bc3 257 W0 sb bs)(hk: ∀x∈bs,IvS k x)(f:k<=1048576)(g:bs.length<=1048576)(j:p.length<=1099511627776):
  Aa0 Tryz.prog 84 [.agg ⟨[s.v]⟩,sb.v] W0 M λ v W'=>v = .bool (decide (An3 p bs))/\True:=by
 apply Bw2;have n:=d.n;refine Cm2 d hk f g λ r o _=>⟨_,rfl,λ c=>Co3 (h.ext o) j λ u w _=>⟨_,rfl,λ z _=>⟨?_,trivial⟩⟩,λ c A _=>⟨?_,trivial⟩⟩
 ·have c:=of_decide_eq_true c
  congr 1;rw[decide_eq_decide,n];exact⟨λ e=>⟨c,e⟩,λ e=>e.2⟩
 ·have c:=of_decide_eq_false c
  rw[decide_eq_false (p:=An3 p bs) λ e=>c e.1]
theorem Bv2 {sb:Sl}(h:Ab0 257 169 W s p)(d:Bc3 257 W sb bs)(hk: ∀x∈bs,IvS k x)(e:k<=1048576)(f:bs.length<=1048576)(g:p.length<=1099511627776)(j: ∀(W':PW),Ext W W'->(True)->K (.bool (decide (An3 p bs))) W'):
  Aa1 Tryz.prog W0 M 84 [.agg ⟨[s.v]⟩,sb.v] W K:=
 Mi4 (λ _ c=>Cm8 (h.ext c) (d.ext c) hk e f g) fun | _,W',c,⟨rfl,h⟩=>j W' c h
theorem Cj1 {sb:Sl}(d:Bc3 257 W0 sb bs):
  Aa0 Tryz.prog 86 [sb.v] W0 M λ v W'=>∃(l:List Value),v = .agg ⟨l⟩/\DmV 257 W' l (Bm3 bs):=by
 apply Bx9;obtain⟨e,f,g⟩:=d;have c:=Br4 g;refine⟨e,f,c.shp,λ s2 j s4 n o r u w z A B C D E F G H I he J h=>⟨_,rfl,?_⟩⟩;rw[he];exact c.ext h
theorem Bu1 {sb:Sl}(d:Bc3 257 W sb bs)(e: ∀(l:List Value) (W':PW),Ext W W'->(DmV 257 W' l (Bm3 bs))->K (.agg ⟨l⟩) W'):
  Aa1 Tryz.prog W0 M 86 [sb.v] W K:=
 Mi4 (λ _ c=>Cj1 (d.ext c)) fun | _,W',c,⟨l,rfl,h⟩=>e l W' c h
structure BxN (k m:Nat) (p:List Tm) (bs:List Iv):Prop where
 bd:Bd k p
 sd: ∀x∈bs,IvS m x
 ok:POk p
 len:p.length<=20000000
 k1:k<=100000000
 m1:m<=100
 bl:bs.length<=1000
structure BxB (k m:Nat) (p:List Tm) (bs:List Iv):Prop where
 n:BxN k m p bs
 len:p.length<=30
 k1:k<=300000
 bl:bs.length<=100
theorem BxN.side (h:BxN k m p bs)(i:Nat):BdI (2*m+1) (Bm3 bs i):=Ep8 h.sd i
theorem Cl1 (h:POk p): ∀t∈p,∀i,mex t.1 i<=255:=λ t c i=>by
 have:=h t c;unfold Mon.ok at this;unfold SX.mex
 (repeat' split)<;>omega
theorem Bs5 {sb:Sl}(h:Ab0 257 169 W0 s p)(g:Bc3 257 W0 sb bs)(c:BxN k m p bs):
  Aa0 Tryz.prog 25 [.agg ⟨[s.v]⟩,sb.v] W0 M λ v W'=>∃(l:List Value),v = .tuple ⟨[.agg ⟨l⟩,.bool (decide (An3 p bs))]⟩/\SpV 257 W' l (if An3 p bs then Aq8 (Bm3 bs) p else(0,0)):=by
 apply Bh7;have T:=c.m1;have z2:=c.len;have z3:=c.k1;have z4:=c.bl;refine Bv2 h g c.sd (by omega) (by omega) (by omega) λ U j _=>⟨_,rfl,λ d o V=>?_,λ e=>?_⟩
 ·have d:¬An3 p bs:=by simpa using d
  rw[if_neg d,decide_eq_false d];exact⟨_,rfl,SpV.zero o⟩
 ·have e:An3 p bs:=by simpa using e
  rw[if_pos e,decide_eq_true e];refine Bu1 (g.ext j) λ l X u n=>?_;obtain⟨w,z,A,B,C,D,E,F,G,H,I,J,L,N,O,P,Q,R,rfl,Y⟩:=id n;refine⟨w,z,A,B,C,D,E,F,G,H,I,J,L,N,O,P,Q,R,rfl,?_⟩;exact Az5 (h.ext (j.trans u)) n c.bd c.side (Cl1 c.ok) (Nat.le_refl 255) (by omega) (by omega) (by omega) λ r Z aa f=>f.out λ ab ac ad ae af ag f ah S=>⟨_,rfl,f.ext S⟩
theorem Bi4 {sb:Sl}(h:Ab0 257 169 W s p)(d:Bc3 257 W sb bs)(e:BxN k m p bs)(f: ∀(l:List Value) (W':PW),Ext W W'->(SpV 257 W' l (if An3 p bs then Aq8 (Bm3 bs) p else(0,0)))->K (.tuple ⟨[.agg ⟨l⟩,.bool (decide (An3 p bs))]⟩) W'):
  Aa1 Tryz.prog W0 M 25 [.agg ⟨[s.v]⟩,sb.v] W K:=
 Mi4 (λ _ c=>Bs5 (h.ext c) (d.ext c) e) fun | _,W',c,⟨l,rfl,h⟩=>f l W' c h
def cnB (n:Nat) (L:List PL) (_:PW):Nat:=match L with
 | [_,.val (.int .i64 z)]=>n-z.toNat
 | _=>0
def Hq4 (bs:List Iv):List Rat:=bs.map Ga6
def bmI (W0:PW) (bs:List Iv) (L:List PL) (W:PW):Prop:=match L with
 | [.row l,.val (.int .i64 i)]=>∃j:Nat,i=(j:Int)/\j<=bs.length/\Ext W0 W/\An5 (QtV 257 W) l (Hq4 (bs.take j))
 | _=>False
theorem Ho2 {sb:Sl}(d:Bc3 257 W0 sb bs)(hk: ∀x∈bs,IvS k x)(C:k<=1048576)(D:bs.length<=1048576):
  Aa0 Tryz.prog 138 [sb.v] W0 M λ v W'=>∃(s:Sl),v=Sl.v s/\Hq6 257 W' s (if Cn7 bs then Hq4 bs else[]):=by
 apply Hk8;have Q:=d.n;refine Cm2 d hk C D λ E F _=>⟨_,rfl,λ e G R=>⟨⟨none,0,0⟩,rfl,?_⟩,λ f=>?_⟩
 ·have e:¬Cn7 bs:=by simpa using e
  rw[if_neg e];exact Dr1.nil G
 have f:Cn7 bs:=by simpa using f
 rw[if_pos f];refine⟨bmI E bs,cnB bs.length,⟨0,rfl,Nat.zero_le _,Ext.refl _,trivial⟩,?_⟩;rintro H i8 S ⟨j,rfl,T,n,c⟩;have o:=c.len;unfold Hq4 at o;rw[List.length_map,List.length_take] at o;refine⟨λ U=>?_,λ V I X J hO _ Y r=>⟨I,rfl,⟨H,⟨_,hO.row.ext r⟩,?_⟩⟩⟩
 ·have g:j<bs.length:=by omega
  have u:=d.ext (F.trans n);obtain⟨x,⟨s,b,t,s',b',L,rfl,q1,N⟩,O⟩:=u.at g;refine⟨u.inB (by omega) (by omega),s,b,t,s',b',L,O 0 rfl,?_⟩;refine Ga1 (SpV.mk q1 N) (hk _ (List.getElem_mem g)) (by omega) λ w z A Z B P=>⟨w,z,A,rfl,by simp only[List.length_cons,List.length_nil];omega,by unfold I64;omega,⟨j+1,by push_cast;rfl,by omega,n.trans B,?_⟩,?_⟩
  ·unfold Hq4 at c⊢
   rw[List.take_succ_eq_append_getElem g,List.map_append];exact(c.mono λ _ _ h=>h.ext B).append ⟨⟨w,z,A,rfl,P⟩,trivial⟩
  ·show bs.length-Int.toNat ((j:Int)+1)<bs.length-Int.toNat (j:Int)
   omega
 ·have:j=bs.length:=by omega
  subst this;rw[List.take_length] at c;exact c.mono λ _ _ h=>h.ext (J.trans r)
theorem Hk9 {sb:Sl}(d:Bc3 257 W sb bs)(hk: ∀x∈bs,IvS k x)(e:k<=1048576)(f:bs.length<=1048576)(g: ∀(s:Sl) (W':PW),Ext W W'->(Hq6 257 W' s (if Cn7 bs then Hq4 bs else[]))->K (Sl.v s) W'):
  Aa1 Tryz.prog W0 M 138 [sb.v] W K:=
 Mi4 (λ _ c=>Ho2 (d.ext c) hk e f) fun | _,W',c,⟨s,rfl,h⟩=>g s W' c h
end Go.Proofs.YtkgeopnakkcdoaaGreatDoor
namespace Go.Proofs.YtkgeopnakkcdoaaGreatDoor
open Go Go.SX
variable {bs:List Iv}{k m:Nat}{p:List Tm}
theorem Hl9 {i:Nat}(bs:List Iv)(hi:i<3):(Hq4 bs).getD i 0=(Hb9 bs).get i:=by
 rw[Hd5 bs hi];unfold Hq4 Bm3;rw[List.getD_eq_getElem?_getD,List.getD_eq_getElem?_getD,List.getElem?_map]
 cases bs[i]? with
 | none=>show(0:Rat)=(0+0)/2;decide +kernel
 | some x=>rfl
theorem Hq1 {x:Iv}(h:BdI m x):Sz (2*m+2) (Ga6 x):=by
 have:=(h.sz.1.add h.sz.2).div Ge1 (Nat.le_refl 1);exact this.mono (by omega)
theorem Hc8 (h:BxB k m p bs)(i:Nat):Sz 404 ((Hb9 bs).get i):=by
 have hm:=h.n.m1;have e:=λ i=>(Hq1 (h.n.side i)).mono (show 2*(2*m+1)+2<=404 by omega);unfold Pt.get
 (repeat' split)
 ·exact e 0
 ·exact e 1
 ·exact e 2
theorem Hh1 {a:Nat}(h1:a<=30)(e:k<=300000):a*(k+3*(404*255+1)+1)+1<=19000000:=by
 have c:k+3*(404*255+1)+1<=609064:=by omega
 have d:a*(k+3*(404*255+1)+1)<=30*609064:=Nat.mul_le_mul h1 c;exact Nat.le_trans (Nat.add_le_add_right d 1) (by decide)
theorem BxB.Hs2 (h:BxB k m p bs):Sz 19000000 (atQ (Hb9 bs) p):=
 (Gx6 h.n.bd.sz (Hc8 h) (e:=255) λ t c i=>Gq6 (h.n.ok t c) i).mono (Hh1 h.len h.k1)
theorem BxB.Hp1 (h:BxB k m p bs)(i:Int):BdI 460000 (Aq8 (Bm3 bs) (Hc3 p i)):=by
 have c:=h.k1;have d:=h.n.m1;exact(Cv6 (Hg1 h.n.bd h.n.ok i) h.n.side (Cl1 (Hh5 h.n.ok i))).mono (by omega)
theorem BxB.Hr8 (h:BxB k m p bs)(i j:Nat):BdI 2000 (He4 (Bm3 bs i) (Eb6 ((Hb9 bs).get j))):=by
 have d:=h.n.m1;have c:=(h.n.side i).sz;have z2:=Hc8 h j;exact(BdI.Co7 (x:=He4 (Bm3 bs i) (Eb6 ((Hb9 bs).get j))) ⟨(c.1.sub z2).mono (show _<=700 by omega),(c.2.sub z2).mono (by omega)⟩).mono (by omega)
end Go.Proofs.YtkgeopnakkcdoaaGreatDoor
namespace Go.Proofs.YtkgeopnakkcdoaaGreatDoor
open Go Go.SX
variable {a:Mon}
def Ic6 (m:Mon) (k:Nat):Mon:=if k=0 then⟨m.x+1,m.y,m.z⟩ else if k=1 then⟨m.x,m.y+1,m.z⟩ else⟨m.x,m.y,m.z+1⟩
theorem Hz0 {b:Mon}:a=b↔a.x=b.x/\a.y=b.y/\a.z=b.z:=⟨λ h=>by rw[h];exact⟨rfl,rfl,rfl⟩,λ h=>Mon.Fp2 h.1 h.2.1 h.2.2⟩
theorem Ia1 {m:Mon}{k:Nat}:Hj5 a k=m↔a=Ic6 m k:=by
 unfold Hj5 Ic6
 (repeat' split)<;>(rw[Hz0,Hz0];dsimp only;omega)
theorem Ib8 (m:Mon)(k:Nat):An6 (Ic6 m k) k=An6 m k+1:=by
 unfold An6 Ic6
 (repeat' split)<;>rfl
theorem Ia8 (t:Tm)(r:List Tm)(k:Nat):Hc1 (t::r) k=Hc2 k t ++ Hc1 r k:=rfl
theorem Ia5 {p:List Tm}(c:POk p)(k:Nat)(m:Mon):Aj5 (Hc1 p k) m=Aj5 p (Ic6 m k)*((An6 m k+1:Int):Rat):=by
 induction p with
 | nil=>simp[Hc1,Aj5,Rat.zero_mul]
 | cons t r ih=>
  have e:=(Dg9 (c t (by simp)) k).1;rw[Ia8,Au2,ih λ x d=>c x (by simp[d]),Aj5,Rat.add_mul];congr 1
  by_cases h:t.1=Ic6 m k
  ·have f:An6 t.1 k=An6 m k+1:=by rw[h,Ib8]
   rw[if_pos h,<-f];unfold Hc2;split
   ·rw[Aj5,if_pos (Ia1.2 h),Aj5,Rat.add_zero]
   ·have:An6 t.1 k=0:=by omega
    rw[this];simp[Aj5,Rat.mul_zero]
  ·rw[if_neg h,Rat.zero_mul]
   unfold Hc2;split
   ·rw[Aj5,if_neg λ g=>h (Ia1.1 g),Aj5,Rat.add_zero]
   ·rfl
end Go.Proofs.YtkgeopnakkcdoaaGreatDoor
