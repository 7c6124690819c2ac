import Derived.Test.YtkgeopnakkcdoaaGreatDoorW2
import Derived.Test.YtkgeopnakkcdoaaGreatDoorW6
import Derived.Test.YtkgeopnakkcdoaaGreatDoorW7
import Derived.Test.YtkgeopnakkcdoaaGreatDoorR7
import Derived.Test.YtkgeopnakkcdoaaGreatDoorW8
import Derived.Test.YtkgeopnakkcdoaaGreatDoorLib4
import Derived.Test.YtkgeopnakkcdoaaGreatDoorW9
import Derived.Test.YtkgeopnakkcdoaaGreatDoorR9
import Derived.Test.YtkgeopnakkcdoaaGreatDoorLib5
import Derived.Test.YtkgeopnakkcdoaaGreatDoorR3
import Derived.Test.YtkgeopnakkcdoaaGreatDoorW3
import Derived.Test.YtkgeopnakkcdoaaGreatDoorLib2
import Derived.Test.YtkgeopnakkcdoaaGreatDoorLib1
set_option linter.unusedVariables false
set_option linter.unusedSimpArgs false
namespace Go.Proofs.YtkgeopnakkcdoaaGreatDoor
open Go Go.SX Go.RowKit Go.Shelf
variable {M:Nat->Prop}{W0:PW}{m:Mon}
attribute [local go_sem] Oper.semAt_some
def Fk6 (c:Nat) (v:Value) (b off:Nat) (zs:List Nat) (pre:List (Nat×Nat)) (W:World):Prop:=W.cell? ⟨c,0,none⟩=some v/\∀j,j<zs.length-pre.length->W.cell? ⟨b,off+j,none⟩=some (.int .u8 ((zs[j]?.getD 0:Nat):Int))
def Cy9 (x:Nat×Nat):Array Value:=#[.int .i64 (x.1:Int),.int .u8 (x.2:Int)]
set_option maxRecDepth 100000 in
set_option maxHeartbeats 2000000 in
theorem Ee1 (n:Nat)(G:1<=n)(c b off cap:Nat)(zs:List Nat)(H:zs.length<=1099511627776):
  Bv9 Fence.wide n Tryz.prog 265 #[.pointer (some ⟨c,0,none⟩)] Cy9 (Fk6 c (.slice (some ⟨b,off,none⟩) zs.length cap) b off zs) (Fi6 zs) (λ xs=>xs=bks zs zs.length) (λ pre=>∃k,k<zs.length/\pre=bks zs (k+1)):=by
 intro l J I W j B o;refine callsIn_of_wp Tryz.func265 rfl trivial ?_ rfl;simp only[Tryz.ntmps265,List.size_toArray,List.length_cons,List.length_nil,Nat.reduceAdd,Nat.reduceSub,Array.replicate_succ,Array.replicate_zero,List.push_toArray,List.append_toArray,List.nil_append,List.cons_append];have L:W.cell? ⟨c,0,none⟩=some (.slice (some ⟨b,off,none⟩) zs.length cap):=(j _ _ o).1
 gi_wp2
 gi_loopw [3,7,8,9,10,11,12,13,14,15,16,17,18] (λ i _ _ _ _ _ _ _ _ _ _ _ _ wr=>∃m:Nat,m<=zs.length/\i = .int .i64 ((m:Int)-1)/\J (bks zs (zs.length-m)) wr)
  (λ i _ _ _ _ _ _ _ _ _ _ _ _ _=>(intOf i+1).toNat)
 case atStart=>exact⟨zs.length,Nat.le_refl _,rfl,by simpa[bks] using o⟩
 case round=>
  obtain⟨m,hm,rfl,g⟩:=hrel;obtain⟨N,C⟩:=j _ _ g
  cases m with
  | zero=>
   gi_wp2
   go_end0
   exact⟨⟨_,rfl⟩,.inl ⟨_,rfl,by simpa using g⟩⟩
  | succ k=>
   have hk:k<zs.length:=by omega
   have D:wr.cell? ⟨b,off+k,none⟩=some (.int .u8 ((zs[k]?.getD 0:Nat):Int)):=C k (by rw[Ah8];omega);have E:((k+1:Nat):Int)-1=(k:Int):=by omega
   have h:bk zs (zs.length-(k+1))=(k,zs[k]?.getD 0):=by simp only[bk];rw[show zs.length-1-(zs.length-(k+1))=k by omega]
   obtain⟨fn,tmps,assign,body,u,v⟩:=B _ (bk zs (zs.length-(k+1))) wr g ⟨by rw[Ah8];omega,by rw[Ah8],by rw[Ah8]⟩;obtain⟨d,F⟩: ∃d,zs[k]?.getD 0=d:=⟨_,rfl⟩;rw[F] at D h;rw[h] at u v;rw[E];dsimp only[Cy9] at u;have w:bks zs (zs.length-(k+1)) ++ [(k,d)]=bks zs (zs.length-(k+1)+1):=by rw[Bo8,h]
   gi_wp2
   refine v.mono ?_;rintro e O (⟨rfl,z⟩ | ⟨rfl,A⟩)
   ·rw[w,show zs.length-(k+1)+1=zs.length-k by omega] at z
    gi_wp2
    go_roundw
    case rel=>exact⟨k,by omega,rfl,z⟩
    case measure=>simp[intOf]
   ·rw[w] at A
    gi_wp2
    refine bodyPost_ret (results_none rfl _ _ _) rfl ?_;exact⟨⟨_,rfl⟩,.inr ⟨_,⟨_,by omega,rfl⟩,A⟩⟩
set_option maxRecDepth 100000 in
set_option maxHeartbeats 2000000 in
theorem Cm4 (n:Nat)(o:1<=n)(c:Nat)(A:Option Addr)(cap:Nat)(Mem:List (Nat×Nat)->World->Prop)(g: ∀pre W,Mem pre W->W.cell? ⟨c,0,none⟩=some (.slice A 0 cap)):
  Bv9 Fence.wide n Tryz.prog 265 #[.pointer (some ⟨c,0,none⟩)] Cy9 Mem (Fi6 []) (λ xs=>xs=bks [] 0) (λ pre=>∃k,k<0/\pre=bks [] (k+1)):=by
 intro l J u W h v e;refine callsIn_of_wp Tryz.func265 rfl trivial ?_ rfl;simp only[Tryz.ntmps265,List.size_toArray,List.length_cons,List.length_nil,Nat.reduceAdd,Nat.reduceSub,Array.replicate_succ,Array.replicate_zero,List.push_toArray,List.append_toArray,List.nil_append,List.cons_append];have w:W.cell? ⟨c,0,none⟩=some (.slice A 0 cap):=g _ _ (h _ _ e)
 gi_wp2
 gi_loopw [3,7,8] (λ i _ _ wr=>i = .int .i64 (-1)/\J [] wr) (λ _ _ _ _=>0)
 case atStart=>exact⟨by simp,e⟩
 case round=>
  obtain⟨rfl,j⟩:=hrel
  gi_wp2
  go_end0
  exact⟨⟨_,rfl⟩,.inl ⟨_,rfl,j⟩⟩
def Fw0 (c:Nat) (A:Option Addr) (cap:Nat) (zs:List Nat) (pre:List (Nat×Nat)) (W:World):Prop:=W.cell? ⟨c,0,none⟩=some (.slice A zs.length cap)/\∀b off,A=some ⟨b,off,none⟩->∀j,j<zs.length-pre.length->W.cell? ⟨b,off+j,none⟩=some (.int .u8 ((zs[j]?.getD 0:Nat):Int))
theorem Fb7 (n:Nat)(e:1<=n)(c:Nat)(A:Option Addr)(cap:Nat)(zs:List Nat)(j:zs.length<=1099511627776)(o:zs = []\/∃b off,A=some ⟨b,off,none⟩):
  Bv9 Fence.wide n Tryz.prog 265 #[.pointer (some ⟨c,0,none⟩)] Cy9 (Fw0 c A cap zs) (Fi6 zs) (λ xs=>xs=bks zs zs.length) (λ pre=>∃k,k<zs.length/\pre=bks zs (k+1)):=by
 rcases o with rfl | ⟨b,off,rfl⟩
 ·exact Cm4 n e c A cap _ λ pre W h=>h.1
 ·intro l J u W g v w
  exact Ee1 n e c b off cap zs j l J u W (λ pre W' h=>⟨(g pre W' h).1,(g pre W' h).2 b off rfl⟩) v w
set_option maxHeartbeats 1000000 in
theorem Cz7 (n:Nat)(a:Option Addr)(len cap:Nat)(w:World):
  CallsIn Fence.wide n Tryz.prog 253 #[.slice a len cap] w λ e w'=>e = .returned (.func (.func 265) #[] #[.pointer (some ⟨w.heap.size,0,none⟩)])/\w'=w.alloc (.cells #[.slice a len cap] 320):=by
 refine callsIn_of_wp Tryz.func253 rfl trivial ?_ rfl;simp only[Tryz.ntmps253,List.size_toArray,List.length_cons,List.length_nil,Nat.reduceAdd,Nat.reduceSub,Array.replicate_succ,Array.replicate_zero,List.push_toArray,List.append_toArray,List.nil_append,List.cons_append]
 gi_wp2
 go_ret
 exact⟨rfl,rfl⟩
def Dn7 (zs:List Nat):Nat:=if 0<zs[2]?.getD 0 then 3 else if 0<zs[1]?.getD 0 then 2 else if 0<zs[0]?.getD 0 then 1 else 0
set_option maxRecDepth 100000 in
set_option maxHeartbeats 4000000 in
theorem Ff2 (n:Nat)(hn:3<=n)(x y z:Nat)(w:World):
  CallsIn Fence.wide n Tryz.prog 221 #[.agg #[.int .u8 (x:Int),.int .u8 (y:Int),.int .u8 (z:Int)]] w λ e W'=>e = .returned (.int .i64 (Dn7 [x,y,z]:Nat))/\An0 w W':=by
 refine callsIn_of_wp_marks Tryz.func221 rfl trivial ?_ rfl;simp only[Tryz.ntmps221,List.size_toArray,List.length_cons,List.length_nil,Nat.reduceAdd,Nat.reduceSub,Array.replicate_succ,Array.replicate_zero,List.push_toArray,List.append_toArray,List.nil_append,List.cons_append]
 gi_wp2
 refine⟨trivial,λ _=>by omega,(Cz7 (n-1) _ _ _ _).mono ?_⟩;rintro e w' ⟨rfl,rfl⟩
 gi_wp2
 obtain⟨u,H⟩: ∃u,(((w.alloc (.cells #[.int .u8 (x:Int),.int .u8 (y:Int),.int .u8 (z:Int)] 146)).alloc (.cells #[.int .i64 0] 3)).alloc (.cells #[.slice (some ⟨w.heap.size,0,none⟩) 3 3] 320))=u:=⟨_,rfl⟩;have ar:u.heap.size=w.heap.size+1+1+1:=by rw[<-H];simp
 have ab:An0 w u:=by rw[<-H];exact⟨((((Below.refl _ w).alloc (Nat.le_refl _) _).alloc (by simp) _).alloc (by simp;omega) _),Nat.le_refl _⟩
 have bL:Boxed u (w.heap.size+1+1) 320 (.slice (some ⟨w.heap.size,0,none⟩) 3 3):=by
  rw[<-H];have:=Boxed.new ((w.alloc (.cells #[.int .u8 (x:Int),.int .u8 (y:Int),.int .u8 (z:Int)] 146)).alloc (.cells #[.int .i64 0] 3)) 320 (.slice (some ⟨w.heap.size,0,none⟩) 3 3)
  simpa using this
 have X:Boxed u (w.heap.size+1) 3 (.int .i64 0):=by
  rw[<-H];have:=Boxed.new (w.alloc (.cells #[.int .u8 (x:Int),.int .u8 (y:Int),.int .u8 (z:Int)] 146)) 3 (.int .i64 0)
  simpa using this.alloc (.cells #[.slice (some ⟨w.heap.size,0,none⟩) 3 3] 320)
 have ad:u.heap[w.heap.size]?=some (.cells #[.int .u8 (x:Int),.int .u8 (y:Int),.int .u8 (z:Int)] 146):=by
  rw[<-H];rw[Below.heap_alloc _ _ _ (by simp;omega),Below.heap_alloc _ _ _ (by simp)];exact World.alloc_heap_new w _
 have hX: ∀j,j<3->u.cell? ⟨w.heap.size,0+j,none⟩=some (.int .u8 ((([x,y,z]:List Nat)[j]?.getD 0:Nat):Int)):=λ j I=>by
  simp only[World.cell?,ad];rcases(by omega:j=0\/j=1\/j=2) with rfl | rfl | rfl<;>rfl
 rw[H];refine As7 (α:=Nat×Nat) (n:=n) rfl (by omega) (gf:=265) (lb:=#[.pointer (some ⟨w.heap.size+1+1,0,none⟩)]) rfl trivial (enters_of Tryz.func265 (by kernel_rfl) rfl)
  (Fb7 (n-1) (by omega) (w.heap.size+1+1) (some ⟨w.heap.size,0,none⟩) 3 [x,y,z] (by simp) (.inr ⟨_,_,rfl⟩)) (λ _=>rfl)
  (λ pre W=>((∀p∈pre,p.2=0)/\W.cell? ⟨w.heap.size+1,0,none⟩=some (.int .i64 0)/\W.frozen? ⟨w.heap.size+1,0,none⟩=false/\(∀j,j<3->W.cell? ⟨w.heap.size,0+j,none⟩=some (.int .u8 ((([x,y,z]:List Nat)[j]?.getD 0:Nat):Int)))/\W.cell? ⟨w.heap.size+1+1,0,none⟩=some (.slice (some ⟨w.heap.size,0,none⟩) 3 3))/\An0 w W)
  (λ c pre W=>(c = .ret/\∃O last,pre=O ++ [last]/\(∀p∈O,p.2=0)/\0<last.2/\W.cell? ⟨w.heap.size+1,0,none⟩=some (.int .i64 ((last.1:Int)+1)))/\An0 w W)
  ?_ ?_ ?_ ?_
  (λ v=>{tmps:=#[.agg #[.int .u8 (x:Int),.int .u8 (y:Int),.int .u8 (z:Int)],.pointer (some ⟨w.heap.size,0,none⟩),.pointer (some ⟨w.heap.size+1,0,none⟩),.int .i64 (v.1:Int),.int .u8 (v.2:Int),.slice (some ⟨w.heap.size,0,none⟩) 3 3,
    .func (.func 265) #[] #[.pointer (some ⟨w.heap.size+1+1,0,none⟩)],.int .i64 (v.1:Int),.int .u8 (v.2:Int),undef,undef,undef,undef],defers:=[] }) ?assign ?body ?done ?stop
 case assign=>
  intro l p W K E;simp only[Cy9]
  gi_wp2
  exact E
 case body=>
  rintro l pre p W ⟨⟨Y,J,Z,P,Q⟩,F⟩ ⟨hlen,au,af⟩;have hi:p.1<3:=by rw[af];simp only[bk];simp;omega
  obtain⟨i,v⟩:=p;dsimp only at *
  gi_wp2
  ·have ag:0<v:=by first | assumption | omega
   exact⟨(KeepsOthers.setCell _ _ _).from _,⟨rfl,pre,(i,v),rfl,Y,ag,World.cell?_setCell_same' _ _ _ (by rw[J];rfl)⟩,F.setCell (p:=⟨w.heap.size+1,0,none⟩) (by show w.heap.size<=w.heap.size+1;omega) _⟩
  ·have o:v=0:=by omega
   refine⟨KeepsFrom.refl _ _,trivial,⟨λ p ah=>?_,J,Z,P,Q⟩,F⟩;rcases List.mem_append.1 ah with h | h
   ·exact Y p h
   ·simp at h;subst h;exact o
 case done=>
  rintro D ps W hD rfl ⟨⟨aj,J,Z,P,Q⟩,F⟩ E
  gi_wp2
  have S:=(KeepsOthers.setCell W ⟨w.heap.size+1,0,none⟩ (.int .i64 0)).same D _ E rfl;refine⟨by simp,.inl ⟨_,_,rfl,run_takeDeferred S,?_⟩⟩;have U:=cell_kept (World.cell?_setCell_same' W ⟨w.heap.size+1,0,none⟩ (.int .i64 0) (by rw[J];rfl)) (grownBy_putObj' _ D (.deferred none)) (λ r e=>by cases e;exact⟨_,S,rfl⟩);refine⟨.int .i64 0,?_,?_,(F.setCell (p:=⟨w.heap.size+1,0,none⟩) (by show w.heap.size<=w.heap.size+1;omega) _).put (by omega) S rfl rfl⟩
  ·simp[results,Tryz.f221,go_sem,U]
  ·have G: ∀k,k<3->([x,y,z]:List Nat)[3-1-k]?.getD 0=0:=λ k hk=>aj (bk [x,y,z] k) (List.mem_map.2 ⟨k,List.mem_range.2 (by simpa using hk),rfl⟩)
   have o:=G 0 (by omega);have h1:=G 1 (by omega);have h2:=G 2 (by omega);simp at o h1 h2;simp[Dn7,o,h1,h2]
 case stop=>
  rintro D c pre W hD ⟨k,hk,rfl⟩ ⟨⟨rfl,O,last,R,V,g,J⟩,F⟩ E
  gi_wp2
  refine⟨by simp,.inl ⟨_,_,rfl,run_takeDeferred E,?_⟩⟩;rw[Bo8] at R;obtain⟨rfl,e5⟩:=List.append_inj' R rfl;have e6:last=bk [x,y,z] k:=by simpa using e5.symm
  subst e6;have am:=F.put (o':=.deferred none) (by omega) E rfl rfl;have U:=cell_kept J (grownBy_putObj' _ D (.deferred none)) (λ r e=>by cases e;exact⟨_,E,rfl⟩);have G: ∀j,j<k->([x,y,z]:List Nat)[3-1-j]?.getD 0=0:=λ j I=>V (bk [x,y,z] j) (List.mem_map.2 ⟨j,List.mem_range.2 I,rfl⟩);refine⟨.int .i64 (((bk [x,y,z] k).1:Int)+1),by simp[results,Tryz.f221,go_sem,U],?_,am⟩;have av:k<3:=by simpa using hk
  rcases(by omega:k=0\/k=1\/k=2) with rfl | rfl | rfl
  ·have g:0<z:=g
   simp[Dn7,bk,g]
  ·have o:=G 0 (by omega)
   have g:0<y:=g;simp at o;simp[Dn7,bk,g,o]
  ·have o:=G 0 (by omega)
   have h1:=G 1 (by omega);have g:0<x:=g;simp at o h1;simp[Dn7,bk,g,o,h1]
 ·exact Af7.and (Own.Ey9 (λ s A B row C L N=>⟨C.1,cell_kept C.2.1 L N,(frozen_kept C.2.1 L N).trans C.2.2.1,λ j I=>cell_kept (C.2.2.2.1 j I) L N,cell_kept C.2.2.2.2 L N⟩) _) (Am0 (by omega))
 ·exact λ c=>Af7.and (Own.Ey9 (λ s A B row C L N=>by
   obtain⟨hc,O,last,R,V,g,e4⟩:=C;exact⟨hc,O,last,R,V,g,cell_kept e4 L N⟩) _) (Am0 (by omega))
 ·rintro pre W ⟨⟨_,_,_,P,Q⟩,F⟩
  refine⟨Q,λ b off hA j I=>?_⟩;cases hA;exact P j (by simp at I;omega)
 ·exact⟨⟨by simp,X.cell,X.frozen,hX,bL.cell⟩,ab⟩
def Cx8 (m:Mon):Int:=if 0<m.z then 3 else if 0<m.y then 2 else if 0<m.x then 1 else 0
theorem Dj6 (hm:m.ok):
  Aa0 Tryz.prog 221 [.agg ⟨[.int .u8 m.x,.int .u8 m.y,.int .u8 m.z]⟩] W0 M λ v W'=>v = .int .i64 (Cx8 m)/\True:=by
 refine⟨⟨_,Tryz.func221,rfl,rfl⟩,λ _=>?_⟩;obtain⟨⟨c,_⟩,⟨g,_⟩,z0,_⟩:=hm;obtain⟨mx,j,n⟩:=m;obtain⟨x,rfl⟩:=Int.eq_ofNat_of_zero_le c;obtain⟨y,rfl⟩:=Int.eq_ofNat_of_zero_le g;obtain⟨z,rfl⟩:=Int.eq_ofNat_of_zero_le z0;have:=callsIn_wide.1 (Ff2 5 (by omega) x y z W0.w);have e:((Dn7 [x,y,z]:Nat):Int)=Cx8 ⟨x,y,z⟩:=by
  simp only[Dn7,Cx8];show((if 0<z then 3 else if 0<y then 2 else if 0<x then 1 else 0:Nat):Int)=_
  (repeat' split)<;>omega
 rw[e] at this;exact Calls.mono this λ e w' ⟨he,h⟩=>⟨_,he,Bd7 h,rfl,trivial⟩
theorem Cj8 {W:PW}{K:Value->PW->Prop}(hm:m.ok)(e: ∀(W':PW),Ext W W'->(True)->K (.int .i64 (Cx8 m)) W'):
  Aa1 Tryz.prog W0 M 221 [.agg ⟨[.int .u8 m.x,.int .u8 m.y,.int .u8 m.z]⟩] W K:=
 Mi4 (λ _ c=>Dj6 hm) fun | _,W',c,⟨rfl,h⟩=>e W' c h
end Go.Proofs.YtkgeopnakkcdoaaGreatDoor
set_option maxRecDepth 100000
namespace Go.Proofs.YtkgeopnakkcdoaaGreatDoor
open Go Go.SX
variable {M:Nat->Prop}{W0:PW}{p:List Tm}{s:Sl}
def Fv8 (i:Int) (m:Mon):Int:=if 0<=i/\i<3 then An6 m i.toNat else 0
def Fw5 (W0:PW) (p:List Tm) (i:Int) (L:List PL) (W:PW):Prop:=match L with
 | [.val (.int .i64 a),.val (.int .i64 k)]=>∃j:Nat,k=(j:Int)/\j<=p.length/\Ext W0 W/\a=Fd0 (Fv8 i) 0 (p.take j)
 | _=>False
def Fv5 (p:List Tm) (L:List PL) (_:PW):Nat:=match L with
 | [_,.val (.int .i64 k)]=>p.length-k.toNat
 | _=>0
def Fw1 (W0:PW) (p:List Tm) (L:List PL) (W:PW):Prop:=match L with
 | [.val (.int .i64 a),.val (.int .i64 k)]=>∃j:Nat,k=(j:Int)/\j<=p.length/\Ext W0 W/\a=Fd0 Cx8 0 (p.take j)
 | _=>False
theorem Dd3 (h:Ab0 257 169 W0 s p)(z:p.length<=1099511627776):
  Aa0 Tryz.prog 166 [.agg ⟨[s.v]⟩] W0 M λ v W'=>v = .int .i64 (Fd0 Cx8 0 p)/\True:=by
 apply Cn0;have A:=h.n;refine⟨Fw1 W0 p,Fv5 p,⟨0,rfl,by omega,Ext.refl _,rfl⟩,?_⟩;rintro i3 i4 B ⟨j,rfl,C,c,rfl⟩;refine⟨λ D=>?_,λ E n _=>⟨?_,trivial⟩⟩
 ·have e:j<p.length:=by omega
  have g:=h.ext c;obtain⟨k0,c1,d1,c2,o,_,_,F⟩:=g.at (List.getElem?_eq_getElem e);have u:p.length-Int.toNat ((j:Int)+1)<p.length-Int.toNat (j:Int):=by omega
  refine⟨g.inB (by omega) (by omega),_,_,_,c1,d1,c2,o,Cj8 k0 λ n w _=>⟨_,rfl,by unfold I64;omega,⟨j+1,by push_cast;rfl,by omega,c.trans w,by rw[Ce0 e,Em4]⟩,u⟩⟩
 ·have:j=p.length:=by omega
  subst this;rw[List.take_length]
theorem Co3 {W:PW}{K:Value->PW->Prop}(h:Ab0 257 169 W s p)(e:p.length<=1099511627776)(g: ∀(W':PW),Ext W W'->(True)->K (.int .i64 (Fd0 Cx8 0 p)) W'):
  Aa1 Tryz.prog W0 M 166 [.agg ⟨[s.v]⟩] W K:=
 Mi4 (λ _ c=>Dd3 (h.ext c) e) fun | _,W',c,⟨rfl,h⟩=>g W' c h
end Go.Proofs.YtkgeopnakkcdoaaGreatDoor
namespace Go.Proofs.YtkgeopnakkcdoaaGreatDoor
open Go Go.SX
variable {K:Value->PW->Prop}{M:Nat->Prop}{W W0:PW}{a q:Rat}{b:Bool}{bs:List Iv}{k m:Nat}{l2:List Value}{p:List Tm}{s t:Sl}{x y:Iv}
theorem Hm9 {l1:List Value}(h1:SpV 257 W0 l1 x)(c:SpV 257 W0 l2 y)(e:IvS k x)(g:IvS k y)(hk:k<=8589934592):
  Aa0 Tryz.prog 66 [.agg ⟨l1⟩,.agg ⟨l2⟩] W0 M λ v W'=>∃(l:List Value),v = .agg ⟨l⟩/\SpV 257 W' l (He4 x y):=by
 obtain⟨s0,b0,t0,s1,b1,t1,rfl,h1,n⟩:=h1;obtain⟨s2,b2,t2,s3,D,t3,rfl,c,o⟩:=c;apply Hj2;exact Gr0 h1 o e.1 g.2 hk hk λ s3 u w E h g1=>⟨s3,u,w,rfl,Gr0 (n.ext h) (c.ext h) e.2 g.1 hk hk λ z A B F C g2=>⟨z,A,B,rfl,λ G j=>⟨_,rfl,SpV.mk (x:=He4 x y) (g1.ext (C.trans j)) (g2.ext j)⟩⟩⟩
theorem Hi9 {l1:List Value}(h1:SpV 257 W l1 x)(e:SpV 257 W l2 y)(g:IvS k x)(j:IvS k y)(hk:k<=8589934592)(n: ∀(l:List Value) (W':PW),Ext W W'->(SpV 257 W' l (He4 x y))->K (.agg ⟨l⟩) W'):
  Aa1 Tryz.prog W0 M 66 [.agg ⟨l1⟩,.agg ⟨l2⟩] W K:=
 Mi4 (λ _ c=>Hm9 (h1.ext c) (e.ext c) g j hk) fun | _,W',c,⟨l,rfl,h⟩=>n l W' c h
theorem Ge1:Sz 1 ((2:Int):Rat):=⟨by rw[Rat.num_intCast];exact Bc6 (by decide),by rw[Rat.den_intCast,Ax0];omega⟩
theorem Gb3 (h:Ab3 257 W0 s b t q)(n:Sz k q)(hk:k<=8589934592):
  Aa0 Tryz.prog 247 [.agg ⟨[s.v,.bool b,t.v]⟩] W0 M λ v W'=>∃(r:Sl),∃(c:Bool),∃(u:Sl),v = .agg ⟨[Sl.v r,.bool c,Sl.v u]⟩/\Ab3 257 W' r c u (q/2):=by
 apply Fz1;exact Ay8 (z:=2) (by unfold I64;omega) λ s3 o w E A B=>⟨s3,o,w,rfl,Gb1 (h.ext A) B n Ge1 hk (by omega) (by omega) λ e g j F G C=>⟨e,g,j,_,rfl,λ H D=>⟨e,g,j,rfl,C.ext D⟩⟩⟩
theorem Fz7 (h:Ab3 257 W s b t q)(g:Sz k q)(hk:k<=8589934592)(j: ∀(r:Sl) (c:Bool) (u:Sl) (W':PW),Ext W W'->(Ab3 257 W' r c u (q/2))->K (.agg ⟨[Sl.v r,.bool c,Sl.v u]⟩) W'):
  Aa1 Tryz.prog W0 M 247 [.agg ⟨[s.v,.bool b,t.v]⟩] W K:=
 Mi4 (λ _ e=>Gb3 (h.ext e) g hk) fun | _,W',e,⟨r,c,u,rfl,h⟩=>j r c u W' e h
theorem Gd0 {l1:List Value}(h1:SpV 257 W0 l1 x)(e:IvS k x)(hk:k<=1073741824):
  Aa0 Tryz.prog 202 [.agg ⟨l1⟩] W0 M λ v W'=>∃(r:Sl),∃(c:Bool),∃(u:Sl),v = .agg ⟨[Sl.v r,.bool c,Sl.v u]⟩/\Ab3 257 W' r c u (Ga6 x):=by
 obtain⟨s0,b0,t0,s1,b1,t1,rfl,h1,n⟩:=h1;apply Ga3;exact At2 h1 n e.1 e.2 (by omega) (by omega) λ s3 o w C D z=>⟨s3,o,w,rfl,Fz7 z (e.1.add e.2) (by omega) λ g h j E F A=>⟨g,h,j,rfl,λ G B=>⟨g,h,j,rfl,A.ext B⟩⟩⟩
theorem Ga1 {l1:List Value}(h1:SpV 257 W l1 x)(g:IvS k x)(hk:k<=1073741824)(j: ∀(r:Sl) (c:Bool) (u:Sl) (W':PW),Ext W W'->(Ab3 257 W' r c u (Ga6 x))->K (.agg ⟨[Sl.v r,.bool c,Sl.v u]⟩) W'):
  Aa1 Tryz.prog W0 M 202 [.agg ⟨l1⟩] W K:=
 Mi4 (λ _ e=>Gd0 (h1.ext e) g hk) fun | _,W',e,⟨r,c,u,rfl,h⟩=>j r c u W' e h
instance (x y:Iv):Decidable (Ft1 x y):=by unfold Ft1;infer_instance
theorem Hp0 {b:Rat}(c:Sz k a)(g:Sz k b):Sz k (Az9 a b):=by rcases Dj0 a b with e | e<;>rw[e]<;>assumption
theorem Hp2 {b:Rat}(c:Sz k a)(g:Sz k b):Sz k (Au7 a b):=by rcases Dj7 a b with e | e<;>rw[e]<;>assumption
def An3 (p:List Tm) (bs:List Iv):Prop:=Cn7 bs/\Fd0 Cx8 0 p<=(bs.length:Int)
instance (p:List Tm) (bs:List Iv):Decidable (An3 p bs):=by unfold An3;infer_instance
theorem Cm8 {sb:Sl}(h:Ab0 257 169 W0 s p)(g:Bc3 257 W0 sb bs)(hk: ∀x∈bs,IvS k x)(j:k<=1048576)(n:bs.length<=1048576)(o:p.length<=1099511627776):
  Aa0 Tryz.prog 84 [.agg ⟨[s.v]⟩,sb.v] W0 M λ v W'=>v = .bool (decide (An3 p bs))/\True:=by
 apply Bw2;have u:=g.n;refine Cm2 g hk j n λ z w _=>⟨_,rfl,λ c=>Co3 (h.ext w) o λ A B _=>⟨_,rfl,λ C _=>⟨?_,trivial⟩⟩,λ c D _=>⟨?_,trivial⟩⟩
 ·have c:=of_decide_eq_true c
  congr 1;rw[decide_eq_decide,u];exact⟨λ e=>⟨c,e⟩,λ e=>e.2⟩
 ·have c:=of_decide_eq_false c
  rw[decide_eq_false (p:=An3 p bs) λ e=>c e.1]
theorem Bv2 {sb:Sl}(h:Ab0 257 169 W s p)(e:Bc3 257 W sb bs)(hk: ∀x∈bs,IvS k x)(g:k<=1048576)(j:bs.length<=1048576)(n:p.length<=1099511627776)(o: ∀(W':PW),Ext W W'->(True)->K (.bool (decide (An3 p bs))) W'):
  Aa1 Tryz.prog W0 M 84 [.agg ⟨[s.v]⟩,sb.v] W K:=
 Mi4 (λ _ c=>Cm8 (h.ext c) (e.ext c) hk g j n) fun | _,W',c,⟨rfl,h⟩=>o W' c h
theorem Cj1 {sb:Sl}(e:Bc3 257 W0 sb bs):
  Aa0 Tryz.prog 86 [sb.v] W0 M λ v W'=>∃(l:List Value),v = .agg ⟨l⟩/\DmV 257 W' l (Bm3 bs):=by
 apply Bx9;obtain⟨g,h,j⟩:=e;have c:=Br4 j;refine⟨g,h,c.shp,λ s2 o s4 u w z A B C D E F G H I J L N he O n=>⟨_,rfl,?_⟩⟩;rw[he];exact c.ext n
theorem Bu1 {sb:Sl}(e:Bc3 257 W sb bs)(g: ∀(l:List Value) (W':PW),Ext W W'->(DmV 257 W' l (Bm3 bs))->K (.agg ⟨l⟩) W'):
  Aa1 Tryz.prog W0 M 86 [sb.v] W K:=
 Mi4 (λ _ c=>Cj1 (e.ext c)) fun | _,W',c,⟨l,rfl,h⟩=>g l W' c h
structure BxN (k m:Nat) (p:List Tm) (bs:List Iv):Prop where
 bd:Bd k p
 sd: ∀x∈bs,IvS m x
 ok:POk p
 len:p.length<=20000000
 k1:k<=100000000
 m1:m<=100
 bl:bs.length<=1000
structure BxB (k m:Nat) (p:List Tm) (bs:List Iv):Prop where
 n:BxN k m p bs
 len:p.length<=30
 k1:k<=300000
 bl:bs.length<=100
theorem BxN.side (h:BxN k m p bs)(i:Nat):BdI (2*m+1) (Bm3 bs i):=Ep8 h.sd i
theorem Cl1 (h:POk p): ∀t∈p,∀i,mex t.1 i<=255:=λ t c i=>by
 have:=h t c;unfold Mon.ok at this;unfold SX.mex
 (repeat' split)<;>omega
theorem BxN.over (h:BxN k m p bs):BdI (k+3*((2*m+1+1)*255+1)) (Aq8 (Bm3 bs) p):=Cv6 h.bd h.side (Cl1 h.ok)
theorem Bs5 {sb:Sl}(h:Ab0 257 169 W0 s p)(n:Bc3 257 W0 sb bs)(c:BxN k m p bs):
  Aa0 Tryz.prog 25 [.agg ⟨[s.v]⟩,sb.v] W0 M λ v W'=>∃(l:List Value),v = .tuple ⟨[.agg ⟨l⟩,.bool (decide (An3 p bs))]⟩/\SpV 257 W' l (if An3 p bs then Aq8 (Bm3 bs) p else(0,0)):=by
 apply Bh7;have X:=c.m1;have z2:=c.len;have z3:=c.k1;have z4:=c.bl;refine Bv2 h n c.sd (by omega) (by omega) (by omega) λ Y o _=>⟨_,rfl,λ e w Z=>?_,λ g=>?_⟩
 ·have e:¬An3 p bs:=by simpa using e
  rw[if_neg e,decide_eq_false e];exact⟨_,rfl,SpV.zero w⟩
 ·have g:An3 p bs:=by simpa using g
  rw[if_pos g,decide_eq_true g];refine Bu1 (n.ext o) λ l W6 z u=>?_;obtain⟨A,B,C,D,E,F,G,H,I,J,L,N,O,P,Q,R,S,U,rfl,ab⟩:=id u;refine⟨A,B,C,D,E,F,G,H,I,J,L,N,O,P,Q,R,S,U,rfl,?_⟩;exact Az5 (h.ext (o.trans z)) u c.bd c.side (Cl1 c.ok) (Nat.le_refl 255) (by omega) (by omega) (by omega) λ r ac ad j=>j.out λ ae af ag ah ai aj j ak V=>⟨_,rfl,j.ext V⟩
theorem Bi4 {sb:Sl}(h:Ab0 257 169 W s p)(e:Bc3 257 W sb bs)(g:BxN k m p bs)(j: ∀(l:List Value) (W':PW),Ext W W'->(SpV 257 W' l (if An3 p bs then Aq8 (Bm3 bs) p else(0,0)))->K (.tuple ⟨[.agg ⟨l⟩,.bool (decide (An3 p bs))]⟩) W'):
  Aa1 Tryz.prog W0 M 25 [.agg ⟨[s.v]⟩,sb.v] W K:=
 Mi4 (λ _ c=>Bs5 (h.ext c) (e.ext c) g) fun | _,W',c,⟨l,rfl,h⟩=>j l W' c h
def cnB (n:Nat) (L:List PL) (_:PW):Nat:=match L with
 | [_,.val (.int .i64 z)]=>n-z.toNat
 | _=>0
def Hq4 (bs:List Iv):List Rat:=bs.map Ga6
def bmI (W0:PW) (bs:List Iv) (L:List PL) (W:PW):Prop:=match L with
 | [.row l,.val (.int .i64 i)]=>∃j:Nat,i=(j:Int)/\j<=bs.length/\Ext W0 W/\An5 (QtV 257 W) l (Hq4 (bs.take j))
 | _=>False
theorem Ho2 {sb:Sl}(e:Bc3 257 W0 sb bs)(hk: ∀x∈bs,IvS k x)(F:k<=1048576)(G:bs.length<=1048576):
  Aa0 Tryz.prog 138 [sb.v] W0 M λ v W'=>∃(s:Sl),v=Sl.v s/\Hq6 257 W' s (if Cn7 bs then Hq4 bs else[]):=by
 apply Hk8;have U:=e.n;refine Cm2 e hk F G λ H I _=>⟨_,rfl,λ g J V=>⟨⟨none,0,0⟩,rfl,?_⟩,λ n=>?_⟩
 ·have g:¬Cn7 bs:=by simpa using g
  rw[if_neg g];exact Dr1.nil J
 have n:Cn7 bs:=by simpa using n
 rw[if_pos n];refine⟨bmI H bs,cnB bs.length,⟨0,rfl,Nat.zero_le _,Ext.refl _,trivial⟩,?_⟩;rintro L i8 X ⟨j,rfl,Y,u,c⟩;have w:=c.len;unfold Hq4 at w;rw[List.length_map,List.length_take] at w;refine⟨λ Z=>?_,λ aa N ab O hO _ ac z=>⟨N,rfl,⟨L,⟨_,hO.row.ext z⟩,?_⟩⟩⟩
 ·have o:j<bs.length:=by omega
  have A:=e.ext (I.trans u);obtain⟨x,⟨s,b,t,s',b',P,rfl,q1,Q⟩,R⟩:=A.at o;refine⟨A.inB (by omega) (by omega),s,b,t,s',b',P,R 0 rfl,?_⟩;refine Ga1 (SpV.mk q1 Q) (hk _ (List.getElem_mem o)) (by omega) λ B C D ad E S=>⟨B,C,D,rfl,by simp only[List.length_cons,List.length_nil];omega,by unfold I64;omega,⟨j+1,by push_cast;rfl,by omega,u.trans E,?_⟩,?_⟩
  ·unfold Hq4 at c⊢
   rw[List.take_succ_eq_append_getElem o,List.map_append];exact(c.mono λ _ _ h=>h.ext E).append ⟨⟨B,C,D,rfl,S⟩,trivial⟩
  ·show bs.length-Int.toNat ((j:Int)+1)<bs.length-Int.toNat (j:Int)
   omega
 ·have:j=bs.length:=by omega
  subst this;rw[List.take_length] at c;exact c.mono λ _ _ h=>h.ext (O.trans z)
theorem Hk9 {sb:Sl}(e:Bc3 257 W sb bs)(hk: ∀x∈bs,IvS k x)(g:k<=1048576)(j:bs.length<=1048576)(n: ∀(s:Sl) (W':PW),Ext W W'->(Hq6 257 W' s (if Cn7 bs then Hq4 bs else[]))->K (Sl.v s) W'):
  Aa1 Tryz.prog W0 M 138 [sb.v] W K:=
 Mi4 (λ _ c=>Ho2 (e.ext c) hk g j) fun | _,W',c,⟨s,rfl,h⟩=>n s W' c h
end Go.Proofs.YtkgeopnakkcdoaaGreatDoor
namespace Go.Proofs.YtkgeopnakkcdoaaGreatDoor
open Go Go.SX
variable {bs:List Iv}{k m:Nat}{p:List Tm}
theorem Hl9 {i:Nat}(bs:List Iv)(hi:i<3):(Hq4 bs).getD i 0=(Hb9 bs).get i:=by
 rw[Hd5 bs hi];unfold Hq4 Bm3;rw[List.getD_eq_getElem?_getD,List.getD_eq_getElem?_getD,List.getElem?_map]
 cases bs[i]? with
 | none=>show(0:Rat)=(0+0)/2;decide +kernel
 | some x=>rfl
theorem Hq1 {x:Iv}(h:BdI m x):Sz (2*m+2) (Ga6 x):=by
 have:=(h.sz.1.add h.sz.2).div Ge1 (Nat.le_refl 1);exact this.mono (by omega)
theorem Hc8 (h:BxB k m p bs)(i:Nat):Sz 404 ((Hb9 bs).get i):=by
 have hm:=h.n.m1;have e:=λ i=>(Hq1 (h.n.side i)).mono (show 2*(2*m+1)+2<=404 by omega);unfold Pt.get
 (repeat' split)
 ·exact e 0
 ·exact e 1
 ·exact e 2
theorem Hh1 {a:Nat}(h1:a<=30)(g:k<=300000):a*(k+3*(404*255+1)+1)+1<=19000000:=by
 have c:k+3*(404*255+1)+1<=609064:=by omega
 have e:a*(k+3*(404*255+1)+1)<=30*609064:=Nat.mul_le_mul h1 c;exact Nat.le_trans (Nat.add_le_add_right e 1) (by decide)
theorem BxB.Hs2 (h:BxB k m p bs):Sz 19000000 (atQ (Hb9 bs) p):=
 (Gx6 h.n.bd.sz (Hc8 h) (e:=255) λ t c i=>Gq6 (h.n.ok t c) i).mono (Hh1 h.len h.k1)
theorem BxB.Hp1 (h:BxB k m p bs)(i:Int):BdI 460000 (Aq8 (Bm3 bs) (Hc3 p i)):=by
 have c:=h.k1;have e:=h.n.m1;exact(Cv6 (Hg1 h.n.bd h.n.ok i) h.n.side (Cl1 (Hh5 h.n.ok i))).mono (by omega)
theorem BxB.Hr8 (h:BxB k m p bs)(i j:Nat):BdI 2000 (He4 (Bm3 bs i) (Eb6 ((Hb9 bs).get j))):=by
 have e:=h.n.m1;have c:=(h.n.side i).sz;have z2:=Hc8 h j;exact(BdI.Co7 (x:=He4 (Bm3 bs i) (Eb6 ((Hb9 bs).get j))) ⟨(c.1.sub z2).mono (show _<=700 by omega),(c.2.sub z2).mono (by omega)⟩).mono (by omega)
end Go.Proofs.YtkgeopnakkcdoaaGreatDoor
namespace Go.Proofs.YtkgeopnakkcdoaaGreatDoor
open Go Go.SX
variable {bs:List Iv}{f:List (List Tm)}{i k l m:Nat}{x:Iv}{y:Nat->Nat->Rat}
def fAt (f:List (List Tm)) (n:Nat):List Tm:=f.getD n []
theorem Mq1 {n:Nat}(h:n<f.length):fAt f n=f[n]:=by
 unfold fAt;rw[List.getD_eq_getElem?_getD,List.getElem?_eq_getElem h];rfl
def krS (f:List (List Tm)) (y:Nat->Nat->Rat) (bs:List Iv) (i k:Nat):Nat->Iv
 | 0=>Eb6 (if i=k then 1 else 0)
 | n+1=>He4 (krS f y bs i k n) (De8 (Aq8 (Bm3 bs) (Hc3 (fAt f n) (k:Int))) (y i n))
def krA (f:List (List Tm)) (y:Nat->Nat->Rat) (bs:List Iv) (i:Nat):Nat->Rat
 | 0=>(Hb9 bs).get i
 | n+1=>krA f y bs i n-y i n*atQ (Hb9 bs) (fAt f n)
def krR (f:List (List Tm)) (y:Nat->Nat->Rat) (bs:List Iv) (i:Nat):Nat->Iv
 | 0=>Eb6 (krA f y bs i f.length)
 | k+1=>Cb5 (krR f y bs i k) (Ay9 (krS f y bs i k f.length) (He4 (Bm3 bs k) (Eb6 ((Hb9 bs).get k))))
def krK (f:List (List Tm)) (y:Nat->Nat->Rat) (bs:List Iv):List Iv:=(List.range bs.length).map λ i=>krR f y bs i bs.length
def Mk5 (f:List (List Tm)) (bs:List Iv):Prop:=(∀p∈f,An3 p bs)/\f.length=bs.length/\Cn7 bs
instance (f:List (List Tm)) (bs:List Iv):Decidable (Mk5 f bs):=by unfold Mk5;infer_instance
def Mr9 (x y:Iv):Prop:=y.1<x.1/\x.2<y.2
instance (x y:Iv):Decidable (Mr9 x y):=by unfold Mr9;infer_instance
def Mq8 (f:List (List Tm)) (y:Nat->Nat->Rat) (bs:List Iv):Prop:=∀i,i<bs.length->Mr9 (krR f y bs i bs.length) (Bm3 bs i)
theorem Mk0 (f:List (List Tm))(y:Nat->Nat->Rat)(bs:List Iv):(krK f y bs).length=bs.length:=by unfold krK;rw[List.length_map,List.length_range]
theorem Mr2 (h:i<(krK f y bs).length):(krK f y bs)[i]=krR f y bs i bs.length:=by
 simp only[krK,List.getElem_map,List.getElem_range]
theorem Mp8 {p:List Tm}(h:An3 p bs)(o:POk p)(hk:k<3):An3 (Hc3 p (k:Int)) bs:=by
 refine⟨h.1,Hx0 (by have:=h.1.1.1;omega) λ t c=>?_⟩;unfold Hc3 at c;rw[if_pos (by omega)] at c;obtain⟨u,hu,e⟩:=Gu2 c;obtain⟨s,g,j,rfl⟩:=Hj9 hu;rw[e];have h1:=(Hv3 (w:=Cx8) (n:=0) (p:=p)).2 s g;have v:=h.2;have z:=o s g;unfold Mon.ok at z;refine Int.le_trans ?_ (Int.le_trans h1 v);rw[Int.toNat_natCast] at j⊢;unfold An6 at j;unfold Cx8 Hj5
 (repeat' split)<;>simp_all<;>omega
structure KrB (k m l:Nat) (f:List (List Tm)) (y:Nat->Nat->Rat) (bs:List Iv):Prop where
 p: ∀q∈f,BxB k m q bs
 n:f.length<=3
 y: ∀i j,i<f.length->j<f.length->Sz l (y i j)
 l1:l<=100000000
theorem IvS.sub {y:Iv}(h:IvS k x)(c:IvS l y):IvS (k+l+1) (He4 x y):=⟨h.1.sub c.2,h.2.sub c.1⟩
theorem IvS.add {y:Iv}(h:IvS k x)(c:IvS l y):IvS (k+l+1) (Cb5 x y):=⟨h.1.add c.1,h.2.add c.2⟩
theorem IvS.mono (h:IvS k x)(c:k<=l):IvS l x:=⟨h.1.mono c,h.2.mono c⟩
theorem IvS.Em8 {a:Rat}{b:Rat}(h:Sz k a)(c:Sz k b):IvS k (Ag0 a b):=⟨Hp0 h c,Hp2 h c⟩
theorem IvS.scale {r:Rat}(h:IvS k x)(c:Sz l r):IvS (k+l) (De8 x r):=IvS.Em8 (h.1.mul c) (h.2.mul c)
theorem IvS.Fv1 {y:Iv}(h:IvS k x)(c:IvS k y):IvS k (Bu9 x y):=⟨Hp0 h.1 c.1,Hp2 h.2 c.2⟩
theorem IvS.mul {y:Iv}(h:IvS k x)(c:IvS l y):IvS (k+l) (Ay9 x y):=IvS.Fv1 (IvS.Em8 (h.1.mul c.1) (h.2.mul c.2)) (IvS.Em8 (h.1.mul c.2) (h.2.mul c.1))
theorem Mn7 (i k:Nat):Sz 1 (if i=k then(1:Rat) else 0):=by
 split
 ·exact⟨Bc6 (by decide +kernel),Bc6 (by decide +kernel)⟩
 ·exact Sz.zero (Nat.le_refl 1)
theorem KrB.at (h:KrB k m l f y bs){n:Nat}(c:n<f.length):BxB k m (fAt f n) bs:=by rw[Mq1 c];exact h.p _ (List.getElem_mem c)
theorem KrB.S (h:KrB k m l f y bs)(hi:i<f.length)(j:Nat): ∀n,n<=f.length->IvS (1+n*(460000+l+1)) (krS f y bs i j n)
 | 0,_=>⟨(Mn7 i j).mono (by omega),(Mn7 i j).mono (by omega)⟩
 | n+1,e=>by
  have c:IvS 460000 (Aq8 (Bm3 bs) (Hc3 (fAt f n) (j:Int))):=((h.at (by omega)).Hp1 (j:Int)).sz;refine IvS.mono (IvS.sub (h.S hi j n (by omega)) (IvS.scale c (h.y i n hi (by omega)))) ?_;rw[Nat.add_mul];omega
theorem KrB.S3 (h:KrB k m l f y bs)(hi:i<f.length)(j:Nat){n:Nat}(c:n<=f.length):IvS 302000000 (krS f y bs i j n):=by
 have e:=h.n;have g:=h.l1;refine IvS.mono (h.S hi j n c) ?_;have:=Nat.mul_le_mul (show n<=3 by omega) (show 460000+l+1<=100460001 by omega);omega
theorem KrB.mid (h:KrB k m l f y bs)(h1:1<=f.length)(i:Nat):Sz 404 ((Hb9 bs).get i):=Hc8 (h.at (n:=0) h1) i
theorem KrB.A (h:KrB k m l f y bs)(hi:i<f.length): ∀n,n<=f.length->Sz (404+n*(l+19000000+1)) (krA f y bs i n)
 | 0,_=>(h.mid (by omega) i).mono (by omega)
 | n+1,c=>by
  refine((h.A hi n (by omega)).sub ((h.y i n hi (by omega)).mul (h.at (n:=n) (by omega)).Hs2)).mono ?_;rw[Nat.add_mul];omega
theorem KrB.A3 (h:KrB k m l f y bs)(hi:i<f.length){n:Nat}(c:n<=f.length):Sz 358000000 (krA f y bs i n):=by
 have e:=h.n;have g:=h.l1;refine(h.A hi n c).mono ?_;have:=Nat.mul_le_mul (show n<=3 by omega) (show l+19000000+1<=119000001 by omega);omega
theorem KrB.Hr8 (h:KrB k m l f y bs)(h1:1<=f.length)(i:Nat):IvS 2000 (He4 (Bm3 bs i) (Eb6 ((Hb9 bs).get i))):=((h.at (n:=0) h1).Hr8 i i).sz
theorem KrB.R (h:KrB k m l f y bs)(hi:i<f.length): ∀n,n<=f.length->IvS (358000000+n*302002001) (krR f y bs i n)
 | 0,_=>⟨(h.A3 hi (Nat.le_refl _)).mono (by omega),(h.A3 hi (Nat.le_refl _)).mono (by omega)⟩
 | n+1,c=>by
  refine IvS.mono (IvS.add (h.R hi n (by omega)) (IvS.mul (h.S3 hi n (Nat.le_refl _)) (h.Hr8 (by omega) n))) ?_;rw[Nat.add_mul];omega
theorem KrB.R3 (h:KrB k m l f y bs)(hi:i<f.length){n:Nat}(c:n<=f.length):IvS 1300000000 (krR f y bs i n):=by
 have e:=h.n;refine IvS.mono (h.R hi n c) ?_;have:=Nat.mul_le_mul_right 302002001 (show n<=3 by omega);omega
end Go.Proofs.YtkgeopnakkcdoaaGreatDoor
namespace Go.Proofs.YtkgeopnakkcdoaaGreatDoor
open Go Go.SX
variable {bs:List Iv}{d:Nat->Rat}{f:List (List Tm)}{i k:Nat}{s y:Nat->Nat->Rat}{x:Iv}
def Mw1 (x:Rat):Rat:=if x<0 then -x else x
theorem Mv1 (x:Rat):0<=Mw1 x:=by unfold Mw1;split<;>grind
theorem Mu9 (x:Rat):x<=Mw1 x/\-x<=Mw1 x:=by unfold Mw1;split<;>grind
theorem Mw9 {x c:Rat}(h1:x<=c)(e: -x<=c):Mw1 x<=c:=by unfold Mw1;split<;>grind
theorem Na9 (x y:Rat):Mw1 (x*y)<=Mw1 x*Mw1 y:=by
 have h1:=Mu9 x;have n:=Mu9 y;have c:=Mv1 x;have e:=Mv1 y;unfold Mw1 at *
 by_cases g:x<0<;>by_cases h:y<0<;>by_cases j:x*y<0<;>simp only[g,h,j,if_true,if_false] at *<;>first | grind | (have:=Rat.mul_nonneg c e;grind)
def mg (x:Iv):Rat:=Au7 (-x.1) x.2
theorem Nf3 {s:Rat}(h:inI x s):Mw1 s<=mg x:=by
 have h1:=(Cl6 (-x.1) x.2);exact Mw9 (Rat.le_trans h.2 h1.2) (Rat.le_trans (by have:=h.1;grind) h1.1)
theorem Ng0 (h:x.1<=x.2):0<=mg x:=Rat.le_trans (Mv1 x.1) (Nf3 ⟨Rat.le_refl,h⟩)
theorem Ne5 (h:x.1<=x.2){w:Rat}(hw:0<=w):(Ay9 x (-w,w)).1<=-(mg x*w)/\mg x*w<=(Ay9 x (-w,w)).2:=by
 have k1:inI (-w,w) (-w):=⟨Rat.le_refl,by show -w<=w;grind⟩;have k2:inI (-w,w) w:=⟨by show -w<=w;grind,Rat.le_refl⟩;have c:=Gc0 (x:=x) (v:=x.1) ⟨Rat.le_refl,h⟩ k1;have a2:=Gc0 (x:=x) (v:=x.1) ⟨Rat.le_refl,h⟩ k2;have b1:=Gc0 (x:=x) (v:=x.2) ⟨h,Rat.le_refl⟩ k1;have b2:=Gc0 (x:=x) (v:=x.2) ⟨h,Rat.le_refl⟩ k2;unfold mg;rcases Dj7 (-x.1) x.2 with e | e<;>rw[e]
 ·exact⟨by have:=a2.1;grind,by have:=c.2;grind⟩
 ·exact⟨by have:=b1.1;grind,by have:=b2.2;grind⟩
def wid (bs:List Iv) (k:Nat):Rat:=((Bm3 bs k).2-(Bm3 bs k).1)/2
theorem Na6 (x:Iv):x.1-Ga6 x = -((x.2-x.1)/2)/\x.2-Ga6 x=(x.2-x.1)/2:=by
 unfold Ga6;rw[Rat.div_def,Rat.div_def];exact⟨by grind,by grind⟩
theorem Nc5 (bs:List Iv)(hk:k<3):He4 (Bm3 bs k) (Eb6 ((Hb9 bs).get k))=(-(wid bs k),wid bs k):=by
 rw[Hd5 bs hk];obtain⟨h1,c⟩:=Na6 (Bm3 bs k);exact Prod.ext h1 c
theorem Na5 (h: ∀x∈bs,x.1<=x.2)(k:Nat):0<=wid bs k:=by
 have:=Ey5 h k;unfold wid;rw[Rat.div_def];exact Rat.mul_nonneg (by grind) (by decide +kernel)
theorem Mw6 (h: ∀x∈bs,x.1<x.2)(hk:k<bs.length):0<wid bs k:=by
 have:=h _ (List.getElem_mem hk);unfold wid;rw[Fi1 hk,Rat.div_def];exact Rat.mul_pos (by grind) (by decide +kernel)
theorem Na2 {f:List (List Tm)}{y:Nat->Nat->Rat}{bs:List Iv}(i k:Nat): ∀n,(krS f y bs i k n).1<=(krS f y bs i k n).2
 | 0=>Rat.le_refl
 | n+1=>by
  have h:=Na2 (f:=f) (y:=y) (bs:=bs) i k n;rw[krS];have c:(De8 (Aq8 (Bm3 bs) (Hc3 (fAt f n) (k:Int))) (y i n)).1<=(De8 (Aq8 (Bm3 bs) (Hc3 (fAt f n) (k:Int))) (y i n)).2:=by
   rw[<-Ez7];exact Ew6 _ _
  show _-_<=_-_;grind
def reach (f:List (List Tm)) (y:Nat->Nat->Rat) (bs:List Iv) (i:Nat) (n:Nat):Rat:=Mu5 (λ k=>mg (krS f y bs i k f.length)*wid bs k) n
theorem Mx1 {f:List (List Tm)}{y:Nat->Nat->Rat}{bs:List Iv}(c: ∀x∈bs,x.1<=x.2)(i:Nat): ∀n,n<=3->(krR f y bs i n).1<=krA f y bs i f.length-reach f y bs i n/\krA f y bs i f.length+reach f y bs i n<=(krR f y bs i n).2
 | 0,_=>by
  unfold reach Mu5;exact⟨by show krA f y bs i f.length<=_;grind,by show _<=krA f y bs i f.length;grind⟩
 | n+1,g=>by
  obtain⟨h1,h⟩:=Mx1 (f:=f) (y:=y) c i n (by omega);obtain⟨k1,k2⟩:=Ne5 (Na2 (f:=f) (y:=y) (bs:=bs) i n f.length) (Na5 c n);rw[krR,Nc5 bs (by omega)];have e:reach f y bs i (n+1)=reach f y bs i n+mg (krS f y bs i n f.length)*wid bs n:=rfl;rw[e];exact⟨by show _+_<=_;grind,by show _<=_+_;grind⟩
theorem Nb1 (hF:Mk5 f bs)(c:Mq8 f y bs)(hi:i<bs.length):reach f y bs i bs.length<wid bs i:=by
 have e: ∀x∈bs,x.1<=x.2:=λ x g=>Rat.le_of_lt (hF.2.2.2 x g);obtain⟨h1,h⟩:=Mx1 (f:=f) (y:=y) e i bs.length hF.2.2.1.2;obtain⟨k1,k2⟩:=c i hi;have:wid bs i+wid bs i=(Bm3 bs i).2-(Bm3 bs i).1:=by
  unfold wid;rw[Rat.div_def];grind
 grind
theorem Na1 {f g:Nat->Rat}: ∀{n:Nat} (_: ∀j,j<n->f j<=g j),Mu5 f n<=Mu5 g n
 | 0,_=>Rat.le_refl
 | n+1,h=>by
  have:=Na1 (n:=n) λ j c=>h j (by omega);have:=h n (by omega);show Mu5 f n+f n<=Mu5 g n+g n;grind
theorem Na8 {g:Nat->Rat}{f:Nat->Rat}{n:Nat}(h: ∀j,j<n->Mw1 (f j)<=g j):Mw1 (Mu5 f n)<=Mu5 g n:=by
 refine Mw9 (Na1 λ j c=>Rat.le_trans (Mu9 _).1 (h j c)) ?_;have e: -(Mu5 f n)=Mu5 (λ j=>(-1)*f j) n:=by rw[Mu8];grind
 rw[e];refine Na1 λ j c=>?_;have:=(Mu9 (f j)).2;have:=h j c;grind
theorem Mv3 {rho:Rat}(c:0<=rho)(g: ∀x∈bs,x.1<=x.2)(h: ∀k,k<bs.length->inI (krS f y bs i k f.length) (s i k))(j: ∀k,k<bs.length->Mw1 (d k)<=rho*wid bs k):Mw1 (Mu5 (λ k=>s i k*d k) bs.length)<=rho*reach f y bs i bs.length:=by
 have e:rho*reach f y bs i bs.length=Mu5 (λ k=>rho*(mg (krS f y bs i k f.length)*wid bs k)) bs.length:=by rw[Mu8];rfl
 rw[e];refine Na8 λ k hk=>?_;have h1:=Na9 (s i k) (d k);have n:=Nf3 (h k hk);have o:=j k hk;have u:=Rat.mul_le_mul_of_nonneg_left o (Mv1 (s i k));have v:=Rat.mul_le_mul_of_nonneg_right n (Rat.mul_nonneg c (Na5 g k));grind
theorem Mw2 (g:Nat->Rat): ∀{n:Nat},0<n->∃i,i<n/\∀k,k<n->g k<=g i
 | n+1,_=>by
  by_cases j:n=0
  ·subst j
   refine⟨0,by omega,λ k hk=>?_⟩;have:k=0:=by omega
   subst this;exact Rat.le_refl
  ·obtain⟨i,hi,h⟩:=Mw2 g (n:=n) (by omega)
   by_cases c:g i<=g n
   ·refine⟨n,by omega,λ k hk=>?_⟩
    by_cases e:k=n
    ·subst e;exact Rat.le_refl
    ·exact Rat.le_trans (h k (by omega)) c
   ·refine⟨i,by omega,λ k hk=>?_⟩
    by_cases e:k=n
    ·subst e;exact Rat.le_of_lt (Rat.not_le.1 c)
    ·exact h k (by omega)
theorem My1 (d:Nat->Rat)(h: ∀x∈bs,x.1<x.2)(h1:1<=bs.length): ∃i rho,i<bs.length/\0<=rho/\Mw1 (d i)=rho*wid bs i/\∀k,k<bs.length->Mw1 (d k)<=rho*wid bs k:=by
 obtain⟨i,hi,hm⟩:=Mw2 (λ k=>Mw1 (d k)/wid bs k) (n:=bs.length) (by omega);refine⟨i,Mw1 (d i)/wid bs i,hi,?_,?_,λ k hk=>?_⟩
 ·rw[Rat.div_def]
  exact Rat.mul_nonneg (Mv1 _) (Rat.le_of_lt (Rat.inv_pos.2 (Mw6 h hi)))
 ·rw[Rat.div_mul_cancel (Rat.ne_of_gt (Mw6 h hi))]
 ·have hw:=Mw6 h hk
  have c:=Rat.mul_le_mul_of_nonneg_right (hm k hk) (Rat.le_of_lt hw);rw[Rat.div_mul_cancel (Rat.ne_of_gt hw)] at c;exact c
theorem Ne0 (hF:Mk5 f bs)(c:Mq8 f y bs)(h: ∀i k,i<bs.length->k<bs.length->inI (krS f y bs i k f.length) (s i k))(he: ∀i,i<bs.length->d i=Mu5 (λ k=>s i k*d k) bs.length): ∀i,i<bs.length->d i=0:=by
 have j: ∀x∈bs,x.1<=x.2:=λ x n=>Rat.le_of_lt (hF.2.2.2 x n);obtain⟨i,rho,hi,o,h1,g⟩:=My1 d hF.2.2.2 hF.2.2.1.1;have u:=Mv3 (f:=f) (y:=y) (s:=s) (d:=d) o j (i:=i) (λ k hk=>h i k hi hk) g;rw[<-he i hi,h1] at u;have v:=Nb1 hF c hi;have w:rho=0:=by
  by_cases e:rho=0
  ·exact e
  ·have c:0<rho:=by grind
   have:=Rat.mul_lt_mul_of_pos_left v c;grind
 intro k hk;have:=g k hk;rw[w,Rat.zero_mul] at this;have:=Mv1 (d k);have:=Mu9 (d k);grind
end Go.Proofs.YtkgeopnakkcdoaaGreatDoor
namespace Go.Proofs.YtkgeopnakkcdoaaGreatDoor
open Go Go.SX
variable {M:Nat->Prop}{T:List (List (Mon×ByteArray))}{W0:PW}{ps:List (List Tm)}{s:Sl}
abbrev Ps (W:PW) (s:Sl) (ps:List (List Tm)):Prop:=Gf4 257 169 W s ps
abbrev RPs (W:PW) (s:Sl) (ps:List (List Tm)):Prop:=Jz0 257 148 W s ps
def Kj9 (T:List (List (Mon×ByteArray))) (exp:Int) (ps:List (List Tm)):Prop:=An5 (λ l p=>Ff1 l exp p) T ps
theorem Kj9.at {i:Nat}{exp:Int}(h:Kj9 T exp ps)(hi:i<ps.length): ∃l,Ff1 l exp ps[i]/\T[i]?=some l:=by
 obtain⟨l,c,e⟩:=An5.get h (List.getElem?_eq_getElem hi);exact⟨l,e,c⟩
theorem Kj9.mem {p:List Tm}{exp:Int}(h:Kj9 T exp ps)(c:p∈ps): ∃l,Ff1 l exp p:=by
 obtain⟨i,hi,rfl⟩:=List.mem_iff_getElem.1 c;obtain⟨l,e,_⟩:=h.at hi;exact⟨l,e⟩
def Kq0 (n:Nat) (l:List PL) (_:PW):Nat:=match l with
 | [.val (.int .i64 i)]=>n-i.toNat
 | _=>0
def Kr2 (W0:PW) (T:List (List (Mon×ByteArray))) (exp:Int) (L:List PL) (W:PW):Prop:=match L with
 | [.row xs,.row c,.val (.int .i64 i)]=>∃(j:Nat) (ps:List (List Tm)),i=(j:Int)/\j<=T.length/\Ext W0 W/\Kj9 (T.take j) exp ps/\An5 (Gx4 257 169 W) xs ps/\An5 (Ke9 257 148 W) c ps
 | _=>False
theorem Kh1 {exp:Int}(h:Jz1 W0 s T)(G: ∀l∈T,l.length<=1099511627776/\∀t∈l,t.2.size<=1099511627776):
  Aa0 Tryz.prog 9 [s.v,.int .i64 exp] W0 M λ v W'=>∃(s1:Sl),∃(s2:Sl),∃(b:Bool),v = .tuple ⟨[Sl.v s1,Sl.v s2,.bool b]⟩/\(b=true->∃ps,Kj9 T exp ps/\T.length<=4/\Ps W' s1 ps/\RPs W' s2 ps):=by
 apply Kc1;have Z:=h.n;refine⟨λ _ W1 _=>⟨⟨none,0,0⟩,⟨none,0,0⟩,false,rfl,λ e=>by cases e⟩,λ h4=>⟨Kr2 W0 T exp,λ L _=>match L with | [_,_,.val (.int .i64 i)]=>T.length-i.toNat | _=>0,⟨0,[],rfl,Nat.zero_le _,Ext.refl _,trivial,trivial,trivial⟩,?_⟩⟩;rintro H I i6 W7 ⟨j,ps,rfl,hj,B,c,o,u⟩;have ae:=o.len;have af:=u.len;have J:=An5.len c;rw[List.length_take] at J;refine⟨λ ag=>?_,λ ah N ai C hO _ O aj w P _ ak n=>⟨N,O,true,rfl,λ _=>?_⟩⟩
 ·have z:j<T.length:=by omega
  have D:=h.ext B;obtain⟨x,Q,R⟩:=D.at z;obtain⟨S,z2⟩:=G _ (List.getElem_mem z);refine⟨D.inB (by omega) (by omega),x,Q,Dn6 R S z2 λ E F U al A g=>⟨E,F,U,rfl,λ _ am _=>⟨⟨none,0,0⟩,⟨none,0,0⟩,false,rfl,λ e=>(by cases e)⟩,λ V=>?_⟩⟩;obtain⟨p,op,X,Y⟩:=g (by simpa using V);refine⟨by simp only[List.length_cons,List.length_nil];omega,by simp only[List.length_cons,List.length_nil];omega,by unfold I64;omega,⟨j+1,ps ++ [p],by push_cast;rfl,by omega,B.trans A,?_,(o.mono λ _ _ h=>h.ext A).snoc ⟨E,rfl,X⟩,(u.mono λ _ _ h=>h.ext A).snoc ⟨F,rfl,Y⟩⟩,?_⟩
  ·have e:T.take (j+1)=T.take j ++ [T[j]]:=by rw[List.take_add_one,List.getElem?_eq_getElem z];rfl
   rw[e];exact An5.snoc c op
  ·show T.length-Int.toNat ((j:Int)+1)<T.length-Int.toNat (j:Int)
   omega
 ·have:j=T.length:=by omega
  subst this;rw[List.take_length] at c;exact⟨ps,c,by omega,⟨H,⟨_,((hO.ext w).ext n).row⟩,o.mono λ _ _ h=>h.ext (C.trans (w.trans n))⟩,⟨I,⟨_,(P.ext n).row⟩,u.mono λ _ _ h=>h.ext (C.trans (w.trans n))⟩⟩
theorem Ke6 {W:PW}{K:Value->PW->Prop}{exp:Int}(h:Jz1 W s T)(e: ∀l∈T,l.length<=1099511627776/\∀t∈l,t.2.size<=1099511627776)(g: ∀(s1:Sl) (s2:Sl) (b:Bool) (W':PW),Ext W W'->((b=true->∃ps,Kj9 T exp ps/\T.length<=4/\Ps W' s1 ps/\RPs W' s2 ps))->K (.tuple ⟨[Sl.v s1,Sl.v s2,.bool b]⟩) W'):
  Aa1 Tryz.prog W0 M 9 [s.v,.int .i64 exp] W K:=
 Mi4 (λ _ c=>Kh1 (h.ext c) e) fun | _,W',c,⟨s1,s2,b,rfl,h⟩=>g s1 s2 b W' c h
end Go.Proofs.YtkgeopnakkcdoaaGreatDoor
namespace Go.Proofs.YtkgeopnakkcdoaaGreatDoor
open Go Go.SX
variable {K:Value->PW->Prop}{M:Nat->Prop}{W W0:PW}{m:Nat->Nat->Rat}{n0 r:Nat}{s:Sl}
theorem Gy4 {t:TypeId}(W:PW)(c:Nat):Qs t W (List.replicate c [.slice none 0 0,.bool false,.slice none 0 0]) c (λ _=>0):=
 ⟨by simp,λ i hi=>⟨⟨none,0,0⟩,false,⟨none,0,0⟩,by simp[hi],Ar9 W⟩⟩
def Ha8 (n0:Nat) (W0:PW) (r c:Nat) (l:List PL) (W:PW):Prop:=
 match l with
 | [.val (.int .i64 i),.row l3]=>Ext W0 W/\∃(k:Nat) (e:List Sl),i=(k:Int)/\k<=r/\e.length=k/\l3=(e.map λ x=>[x.v]) ++ List.replicate (r-k) [.slice none 0 0]/\
   (∀i (h:i<e.length),∃xs,Go.SX.Own W 50 3 e[i] xs/\Qs 257 W xs c (λ _=>0)/\∀g,e[i].v.ownBlock=some g->n0<=g)/\
   ∀i j (hi:i<e.length) (n:j<e.length),i≠j->∀g,e[i].v.ownBlock=some g->e[j].v.ownBlock≠some g
 | _=>False
def Ha5 (r:Nat) (l:List PL) (W:PW):Nat:=
 match l with
 | [.val (.int .i64 i),_]=>r-i.toNat
 | _=>0
theorem Gt9 {c:Nat}(H:Gf6 n0 W0)(hr:r<=1048576)(hc:c<=1048576):
  Aa0 Tryz.prog 93 [.int .i64 (r:Int),.int .i64 (c:Int)] W0 M λ v W'=>∃(s':Sl),v=Sl.v s'/\Gl4 257 50 84 (n0<=·) W' s' r c (λ _ _=>0):=by
 apply Gn9;refine⟨⟨rfl,by omega,by omega⟩,Ha8 n0 W0 r c,Ha5 r,⟨Ext.refl _,0,[],rfl,Nat.zero_le _,rfl,by simp,λ i h=>by simp at h,λ i j h=>by simp at h⟩,?_⟩;rintro l3 i4 W5 ⟨R,k,n,rfl,hk,w,rfl,B,I⟩;rw[List.length_replicate,show Int.toNat (r:Int)=r from rfl,show Int.toNat (c:Int)=c from rfl,show Int.toNat (k:Int)=k from rfl];have hlen:((n.map λ x=>[x.v]) ++ List.replicate (r-k) [Value.slice none 0 0]).length=r:=by simp;omega
 refine⟨λ ad=>⟨⟨rfl,by omega,by omega⟩,⟨by omega,by rw[hlen];omega⟩,λ J S C hO z=>⟨by rw[hlen];omega,by unfold I64;omega,⟨R.trans C,k+1,n ++ [J],by push_cast;rfl,by omega,by simp[w],?_,?_,?_⟩,?_⟩⟩,λ ae U af L hO z ag D=>⟨U,rfl,?_⟩⟩
 ·rw[List.set_append_right _ _ (by simp[w])]
  simp only[List.length_map,w,Nat.sub_self,List.map_append,List.map_cons,List.map_nil];rw[show r-k=(r-(k+1))+1 by omega,List.replicate_succ,List.set_cons_zero];simp
 ·intro i h
  by_cases e:i<n.length
  ·obtain⟨xs,k1,k2,A⟩:=B i e
   rw[List.getElem_append_left e];exact⟨xs,k1.ext C,k2.ext C,A⟩
  ·have:i=n.length:=by simp at h;omega
   subst this;rw[List.getElem_concat_length rfl];refine⟨_,hO,Gy4 S c,λ g u=>?_⟩;exact Nat.le_trans H (z g u).1
 ·have key: ∀i (hi:i<n.length) g,J.v.ownBlock=some g->n[i].v.ownBlock≠some g:=by
   intro i hi g u o;obtain⟨xs,k1,k2,A⟩:=B i hi
   by_cases N:xs = []
   ·have H:=k1.n
    subst N;have h6:=hO.n;rcases k1.1.2.2 with⟨E,_⟩ | ⟨g1,cap,cur,E,_,F,_⟩
    ·rw[E] at o
     simp[Value.ownBlock] at o
    ·have O:n[i].v.ownBlock=some g1:=by rw[E];rfl
     rw[o] at O;cases O;exact k1.2 g o ((z g u).2 (Array.getElem?_eq_some_iff.1 F).1)
   ·obtain⟨g1,cs,_,P,V,F,_⟩:=k1.at N
    rw[o] at P;cases P;exact V ((z g u).2 (Array.getElem?_eq_some_iff.1 F).1)
  intro i j hi X Y g u o;simp only[List.length_append,List.length_cons,List.length_nil] at hi X
  by_cases G:i<n.length
  ·rw[List.getElem_append_left G] at u
   by_cases Q:j<n.length
   ·rw[List.getElem_append_left Q] at o
    exact I i j G Q Y g u o
   ·have:j=n.length:=by omega
    subst this;rw[List.getElem_concat_length rfl] at o;exact key i G g o u
  ·have:i=n.length:=by omega
   subst this;rw[List.getElem_concat_length rfl] at u;rw[List.getElem_append_left (by omega)] at o;exact key j (by omega) g u o
 ·show r-Int.toNat ((k:Int)+1)<r-Int.toNat (k:Int)
  omega
 ·have Z:k=r:=by omega
  subst Z;rw[Nat.sub_self,List.replicate_zero,List.append_nil] at hO;exact⟨n,w,(hO.ext D).row,λ i hi=>let⟨xs,k1,k2,A⟩:=B i hi;⟨xs,(k1.ext L).ext D,(k2.ext L).ext D,A⟩,I⟩
theorem Gp0 {c:Nat}(g:Gf6 n0 W)(j:r<=1048576)(n:c<=1048576)(o: ∀(s':Sl) (W':PW),Ext W W'->(Gl4 257 50 84 (n0<=·) W' s' r c (λ _ _=>0))->K (Sl.v s') W'):
  Aa1 Tryz.prog W0 M 93 [.int .i64 (r:Int),.int .i64 (c:Int)] W K:=
 Mi4 (λ _ e=>Gt9 (g.ext e) j n) fun | _,W',e,⟨s',rfl,h⟩=>o s' W' e h
def Gf8 (r:Nat) (c:Nat->Nat):Prop:=(∀i,i<r->c i=c 0)/\1<=r/\r<=12/\1<=c 0/\c 0<=12
theorem Gt0 {c:Nat->Nat}(h:Gf9 257 50 84 W0 s r c m)(C:r<=1099511627776):
  Aa0 Tryz.prog 137 [s.v] W0 M λ v W'=>∃(b:Bool),v = .bool b/\(b=true↔Gf8 r c):=by
 apply Gg2;have D:=h.n;refine⟨λ l W=>match l with | [.val (.int .i64 i)]=>Ext W0 W/\∃k:Nat,i=(k:Int)/\k<=r/\∀i,i<k->c i=c 0 | _=>False,λ l _=>match l with | [.val (.int .i64 i)]=>r-i.toNat | _=>0,⟨Ext.refl _,0,rfl,Nat.zero_le _,λ i h=>(by omega)⟩,?_⟩;rintro i3 E ⟨j,k,rfl,hk,n⟩;have g:=h.ext j;refine⟨λ F=>?_,λ G=>⟨λ h1=>⟨λ u=>?_,λ u=>λ H _=>⟨false,rfl,?_⟩⟩,λ h1=>λ I _=>⟨false,rfl,?_⟩⟩⟩
 ·obtain⟨x,w,z⟩:=g.at (i:=k) (by omega)
  obtain⟨y,f1,f2⟩:=g.at (i:=0) (by omega);have J:=z.n;have A:=f2.n;refine⟨g.inB (by omega) (by omega),x,w,g.inB (by omega) (by omega),y,f1,λ L N _=>⟨false,rfl,?_⟩,λ heq=>⟨by unfold I64;omega,⟨j,k+1,by push_cast;rfl,by omega,λ i hi=>?_⟩,?_⟩⟩
  ·refine⟨λ h=>(by cases h),λ h=>?_⟩
   have:=h.1 k (by omega);omega
  ·by_cases e:i=k
   ·subst e;omega
   ·exact n i (by omega)
  ·show r-Int.toNat ((k:Int)+1)<r-Int.toNat (k:Int)
   omega
 ·have O:k=r:=by omega
  obtain⟨y,f1,f2⟩:=g.at (i:=0) (by omega);have A:=f2.n;have o:=g.inB (i:=0) (by omega) (by omega);refine⟨o,y,f1,λ B=>⟨o,y,f1,λ P _=>⟨_,rfl,?_⟩⟩,λ B Q _=>⟨false,rfl,?_⟩⟩
  ·rw[decide_eq_true_iff]
   exact⟨λ h=>⟨λ i hi=>n i (by omega),by omega,by omega,by omega,by omega⟩,λ h=>by have:=h.2.2.2.2;omega⟩
  ·refine⟨λ h=>(by cases h),λ h=>?_⟩
   have:=h.2.2.2.1;omega
 ·refine⟨λ h=>(by cases h),λ h=>?_⟩
  have:=h.2.2.1;omega
 ·refine⟨λ h=>(by cases h),λ h=>?_⟩
  have:=h.2.1;omega
theorem Go6 {c:Nat->Nat}(h:Gf9 257 50 84 W s r c m)(g:r<=1099511627776)(j: ∀(b:Bool) (W':PW),Ext W W'->((b=true↔Gf8 r c))->K (.bool b) W'):
  Aa1 Tryz.prog W0 M 137 [s.v] W K:=
 Mi4 (λ _ e=>Gt0 (h.ext e) g) fun | _,W',e,⟨b,rfl,h⟩=>j b W' e h
theorem Gr7 {c:Nat->Nat}(h:Gf9 257 50 84 W0 s r c m)(e:r<=1099511627776):
  Aa0 Tryz.prog 58 [s.v] W0 M λ v W'=>∃(b:Bool),v = .bool b/\(b=true↔Gf8 r c):=by
 apply Gm1;exact Go6 h e λ b j n g=>⟨b,rfl,λ o u=>⟨b,rfl,g⟩⟩
theorem Gn0 {c:Nat->Nat}(h:Gf9 257 50 84 W s r c m)(g:r<=1099511627776)(j: ∀(b:Bool) (W':PW),Ext W W'->((b=true↔Gf8 r c))->K (.bool b) W'):
  Aa1 Tryz.prog W0 M 58 [s.v] W K:=
 Mi4 (λ _ e=>Gr7 (h.ext e) g) fun | _,W',e,⟨b,rfl,h⟩=>j b W' e h
def Ms0:Nat->Nat->Rat:=λ i j=>if i=j then 1 else 0
theorem Mq2 {n:Nat}(A:Gf6 n0 W0)(h1:1<=n)(O:n<=12):
  Aa0 Tryz.prog 56 [.int .i64 (n:Int)] W0 M λ v W'=>∃(s':Sl),v=Sl.v s'/\Gl4 257 50 84 (n0<=·) W' s' n n Ms0:=by
 apply Mo7;have B:mn (mx (n:Int) 1) 12=(n:Int):=by unfold mn mx;split<;>(try split)<;>omega
 rw[B];have C:Gf6 W0.w.heap.size W0:=Nat.le_refl _;refine Gp0 C (by omega) (by omega) λ s3 P Q D=>⟨s3,rfl,?_⟩;refine⟨λ l W=>match l with | [.val (.int .i64 i)]=>∃k:Nat,i=(k:Int)/\k<=n/\Gl4 257 50 84 (W0.w.heap.size<=·) W s3 n n (λ a b=>if a=b/\a<k then 1 else 0) | _=>False,λ l _=>match l with | [.val (.int .i64 i)]=>n-i.toNat | _=>0,⟨0,rfl,Nat.zero_le _,D.congr λ i j _ _=>by simp⟩,?_⟩;rintro i6 R ⟨k,rfl,hk,c⟩;have S:=c.mat.n;refine⟨λ U=>?_,λ V X E=>⟨s3,rfl,?_⟩⟩
 ·obtain⟨x,w,h⟩:=c.mat.at (i:=k) (by omega)
  refine⟨c.mat.inB (by omega) (by omega),x,w,Ay8 (z:=1) (by unfold I64;omega) λ F G H Y o I=>⟨F,G,H,rfl,o,(h.ext o).inB (by omega) (by omega),?_⟩⟩;have J:=c.ext o;have L:=w.ext o;refine J.store (j:=k) L (by omega) (by omega) I (by decide) (by decide) (λ g u=>.inr u) λ Z _ N=>⟨by unfold I64;omega,⟨k+1,by push_cast;rfl,by omega,N.congr λ a b ha hb=>?_⟩,?_⟩
  ·unfold Ha2
   by_cases e:a=k/\b=k
   ·rw[if_pos e,if_pos (by omega)];rfl
   ·rw[if_neg e]
    dsimp only
    by_cases h:a=b/\a<k
    ·rw[if_pos h,if_pos (by omega)]
    ·rw[if_neg h,if_neg (by omega)]
  ·show n-Int.toNat ((k:Int)+1)<n-Int.toNat (k:Int)
   omega
 ·refine((c.ext E).mono λ g u=>Nat.le_trans A u).congr λ i j hi hj=>?_
  unfold Ms0
  by_cases e:i=j
  ·rw[if_pos e,if_pos ⟨e,by omega⟩]
  ·rw[if_neg e,if_neg (by omega)]
theorem Mj8 {n:Nat}(e:Gf6 n0 W)(h1:1<=n)(g:n<=12)(j: ∀(s':Sl) (W':PW),Ext W W'->(Gl4 257 50 84 (n0<=·) W' s' n n Ms0)->K (Sl.v s') W'):
  Aa1 Tryz.prog W0 M 56 [.int .i64 (n:Int)] W K:=
 Mi4 (λ _ c=>Mq2 (e.ext c) h1 g) fun | _,W',c,⟨s',rfl,h⟩=>j s' W' c h
end Go.Proofs.YtkgeopnakkcdoaaGreatDoor
