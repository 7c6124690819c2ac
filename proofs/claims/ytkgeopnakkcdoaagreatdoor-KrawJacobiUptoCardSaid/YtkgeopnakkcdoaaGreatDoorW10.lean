import Derived.Test.YtkgeopnakkcdoaaGreatDoorW2
import Derived.Test.YtkgeopnakkcdoaaGreatDoorW6
import Derived.Test.YtkgeopnakkcdoaaGreatDoorW7
import Derived.Test.YtkgeopnakkcdoaaGreatDoorR7
import Derived.Test.YtkgeopnakkcdoaaGreatDoorW8
import Derived.Test.YtkgeopnakkcdoaaGreatDoorLib4
import Derived.Test.YtkgeopnakkcdoaaGreatDoorW9
import Derived.Test.YtkgeopnakkcdoaaGreatDoorR9
import Derived.Test.YtkgeopnakkcdoaaGreatDoorR3
import Derived.Test.YtkgeopnakkcdoaaGreatDoorW3
import Derived.Test.YtkgeopnakkcdoaaGreatDoorLib2
import Derived.Test.YtkgeopnakkcdoaaGreatDoorLib1
set_option linter.unusedVariables false
set_option linter.unusedSimpArgs false
namespace Go.Proofs.YtkgeopnakkcdoaaGreatDoor
open Go Go.SX Go.RowKit Go.Shelf
variable {M:Nat->Prop}{W0:PW}{m:Mon}
attribute [local go_sem] Oper.semAt_some
def Fk6 (c:Nat) (v:Value) (b off:Nat) (zs:List Nat) (pre:List (Nat×Nat)) (W:World):Prop:=W.cell? ⟨c,0,none⟩=some v/\∀j,j<zs.length-pre.length->W.cell? ⟨b,off+j,none⟩=some (.int .u8 ((zs[j]?.getD 0:Nat):Int))
def Cy9 (x:Nat×Nat):Array Value:=#[.int .i64 (x.1:Int),.int .u8 (x.2:Int)]
set_option maxRecDepth 100000 in
set_option maxHeartbeats 2000000 in
theorem Ee1 (n:Nat)(G:1<=n)(c b off cap:Nat)(zs:List Nat)(H:zs.length<=1099511627776):
  Bv9 Fence.wide n Tryz.prog 265 #[.pointer (some ⟨c,0,none⟩)] Cy9 (Fk6 c (.slice (some ⟨b,off,none⟩) zs.length cap) b off zs) (Fi6 zs) (λ xs=>xs=bks zs zs.length) (λ pre=>∃k,k<zs.length/\pre=bks zs (k+1)):=by
 intro l J I W j B o;refine callsIn_of_wp Tryz.func265 rfl trivial ?_ rfl;simp only[Tryz.ntmps265,List.size_toArray,List.length_cons,List.length_nil,Nat.reduceAdd,Nat.reduceSub,Array.replicate_succ,Array.replicate_zero,List.push_toArray,List.append_toArray,List.nil_append,List.cons_append];have L:W.cell? ⟨c,0,none⟩=some (.slice (some ⟨b,off,none⟩) zs.length cap):=(j _ _ o).1
 gi_wp2
 gi_loopw [3,7,8,9,10,11,12,13,14,15,16,17,18] (λ i _ _ _ _ _ _ _ _ _ _ _ _ wr=>∃m:Nat,m<=zs.length/\i = .int .i64 ((m:Int)-1)/\J (bks zs (zs.length-m)) wr)
  (λ i _ _ _ _ _ _ _ _ _ _ _ _ _=>(intOf i+1).toNat)
 case atStart=>exact⟨zs.length,Nat.le_refl _,rfl,by simpa[bks] using o⟩
 case round=>
  obtain⟨m,hm,rfl,g⟩:=hrel;obtain⟨N,C⟩:=j _ _ g
  cases m with
  | zero=>
   gi_wp2
   go_end0
   exact⟨⟨_,rfl⟩,.inl ⟨_,rfl,by simpa using g⟩⟩
  | succ k=>
   have hk:k<zs.length:=by omega
   have D:wr.cell? ⟨b,off+k,none⟩=some (.int .u8 ((zs[k]?.getD 0:Nat):Int)):=C k (by rw[Ah8];omega);have E:((k+1:Nat):Int)-1=(k:Int):=by omega
   have h:bk zs (zs.length-(k+1))=(k,zs[k]?.getD 0):=by simp only[bk];rw[show zs.length-1-(zs.length-(k+1))=k by omega]
   obtain⟨fn,tmps,assign,body,u,v⟩:=B _ (bk zs (zs.length-(k+1))) wr g ⟨by rw[Ah8];omega,by rw[Ah8],by rw[Ah8]⟩;obtain⟨d,F⟩: ∃d,zs[k]?.getD 0=d:=⟨_,rfl⟩;rw[F] at D h;rw[h] at u v;rw[E];dsimp only[Cy9] at u;have w:bks zs (zs.length-(k+1)) ++ [(k,d)]=bks zs (zs.length-(k+1)+1):=by rw[Bo8,h]
   gi_wp2
   refine v.mono ?_;rintro e O (⟨rfl,z⟩ | ⟨rfl,A⟩)
   ·rw[w,show zs.length-(k+1)+1=zs.length-k by omega] at z
    gi_wp2
    go_roundw
    case rel=>exact⟨k,by omega,rfl,z⟩
    case measure=>simp[intOf]
   ·rw[w] at A
    gi_wp2
    refine bodyPost_ret (results_none rfl _ _ _) rfl ?_;exact⟨⟨_,rfl⟩,.inr ⟨_,⟨_,by omega,rfl⟩,A⟩⟩
set_option maxRecDepth 100000 in
set_option maxHeartbeats 2000000 in
theorem Cm4 (n:Nat)(j:1<=n)(c:Nat)(A:Option Addr)(cap:Nat)(Mem:List (Nat×Nat)->World->Prop)(e: ∀pre W,Mem pre W->W.cell? ⟨c,0,none⟩=some (.slice A 0 cap)):
  Bv9 Fence.wide n Tryz.prog 265 #[.pointer (some ⟨c,0,none⟩)] Cy9 Mem (Fi6 []) (λ xs=>xs=bks [] 0) (λ pre=>∃k,k<0/\pre=bks [] (k+1)):=by
 intro l J o W g u d;refine callsIn_of_wp Tryz.func265 rfl trivial ?_ rfl;simp only[Tryz.ntmps265,List.size_toArray,List.length_cons,List.length_nil,Nat.reduceAdd,Nat.reduceSub,Array.replicate_succ,Array.replicate_zero,List.push_toArray,List.append_toArray,List.nil_append,List.cons_append];have v:W.cell? ⟨c,0,none⟩=some (.slice A 0 cap):=e _ _ (g _ _ d)
 gi_wp2
 gi_loopw [3,7,8] (λ i _ _ wr=>i = .int .i64 (-1)/\J [] wr) (λ _ _ _ _=>0)
 case atStart=>exact⟨by simp,d⟩
 case round=>
  obtain⟨rfl,h⟩:=hrel
  gi_wp2
  go_end0
  exact⟨⟨_,rfl⟩,.inl ⟨_,rfl,h⟩⟩
def Fw0 (c:Nat) (A:Option Addr) (cap:Nat) (zs:List Nat) (pre:List (Nat×Nat)) (W:World):Prop:=W.cell? ⟨c,0,none⟩=some (.slice A zs.length cap)/\∀b off,A=some ⟨b,off,none⟩->∀j,j<zs.length-pre.length->W.cell? ⟨b,off+j,none⟩=some (.int .u8 ((zs[j]?.getD 0:Nat):Int))
theorem Fb7 (n:Nat)(d:1<=n)(c:Nat)(A:Option Addr)(cap:Nat)(zs:List Nat)(g:zs.length<=1099511627776)(j:zs = []\/∃b off,A=some ⟨b,off,none⟩):
  Bv9 Fence.wide n Tryz.prog 265 #[.pointer (some ⟨c,0,none⟩)] Cy9 (Fw0 c A cap zs) (Fi6 zs) (λ xs=>xs=bks zs zs.length) (λ pre=>∃k,k<zs.length/\pre=bks zs (k+1)):=by
 rcases j with rfl | ⟨b,off,rfl⟩
 ·exact Cm4 n d c A cap _ λ pre W h=>h.1
 ·intro l J o W e u v
  exact Ee1 n d c b off cap zs g l J o W (λ pre W' h=>⟨(e pre W' h).1,(e pre W' h).2 b off rfl⟩) u v
set_option maxHeartbeats 1000000 in
theorem Cz7 (n:Nat)(a:Option Addr)(len cap:Nat)(w:World):
  CallsIn Fence.wide n Tryz.prog 253 #[.slice a len cap] w λ e w'=>e = .returned (.func (.func 265) #[] #[.pointer (some ⟨w.heap.size,0,none⟩)])/\w'=w.alloc (.cells #[.slice a len cap] 320):=by
 refine callsIn_of_wp Tryz.func253 rfl trivial ?_ rfl;simp only[Tryz.ntmps253,List.size_toArray,List.length_cons,List.length_nil,Nat.reduceAdd,Nat.reduceSub,Array.replicate_succ,Array.replicate_zero,List.push_toArray,List.append_toArray,List.nil_append,List.cons_append]
 gi_wp2
 go_ret
 exact⟨rfl,rfl⟩
def Dn7 (zs:List Nat):Nat:=if 0<zs[2]?.getD 0 then 3 else if 0<zs[1]?.getD 0 then 2 else if 0<zs[0]?.getD 0 then 1 else 0
set_option maxRecDepth 100000 in
set_option maxHeartbeats 4000000 in
theorem Ff2 (n:Nat)(hn:3<=n)(x y z:Nat)(w:World):
  CallsIn Fence.wide n Tryz.prog 221 #[.agg #[.int .u8 (x:Int),.int .u8 (y:Int),.int .u8 (z:Int)]] w λ e W'=>e = .returned (.int .i64 (Dn7 [x,y,z]:Nat))/\An0 w W':=by
 refine callsIn_of_wp_marks Tryz.func221 rfl trivial ?_ rfl;simp only[Tryz.ntmps221,List.size_toArray,List.length_cons,List.length_nil,Nat.reduceAdd,Nat.reduceSub,Array.replicate_succ,Array.replicate_zero,List.push_toArray,List.append_toArray,List.nil_append,List.cons_append]
 gi_wp2
 refine⟨trivial,λ _=>by omega,(Cz7 (n-1) _ _ _ _).mono ?_⟩;rintro e w' ⟨rfl,rfl⟩
 gi_wp2
 obtain⟨o,G⟩: ∃o,(((w.alloc (.cells #[.int .u8 (x:Int),.int .u8 (y:Int),.int .u8 (z:Int)] 146)).alloc (.cells #[.int .i64 0] 3)).alloc (.cells #[.slice (some ⟨w.heap.size,0,none⟩) 3 3] 320))=o:=⟨_,rfl⟩;have aq:o.heap.size=w.heap.size+1+1+1:=by rw[<-G];simp
 have aa:An0 w o:=by rw[<-G];exact⟨((((Below.refl _ w).alloc (Nat.le_refl _) _).alloc (by simp) _).alloc (by simp;omega) _),Nat.le_refl _⟩
 have bL:Boxed o (w.heap.size+1+1) 320 (.slice (some ⟨w.heap.size,0,none⟩) 3 3):=by
  rw[<-G];have:=Boxed.new ((w.alloc (.cells #[.int .u8 (x:Int),.int .u8 (y:Int),.int .u8 (z:Int)] 146)).alloc (.cells #[.int .i64 0] 3)) 320 (.slice (some ⟨w.heap.size,0,none⟩) 3 3)
  simpa using this
 have V:Boxed o (w.heap.size+1) 3 (.int .i64 0):=by
  rw[<-G];have:=Boxed.new (w.alloc (.cells #[.int .u8 (x:Int),.int .u8 (y:Int),.int .u8 (z:Int)] 146)) 3 (.int .i64 0)
  simpa using this.alloc (.cells #[.slice (some ⟨w.heap.size,0,none⟩) 3 3] 320)
 have ac:o.heap[w.heap.size]?=some (.cells #[.int .u8 (x:Int),.int .u8 (y:Int),.int .u8 (z:Int)] 146):=by
  rw[<-G];rw[Below.heap_alloc _ _ _ (by simp;omega),Below.heap_alloc _ _ _ (by simp)];exact World.alloc_heap_new w _
 have hX: ∀j,j<3->o.cell? ⟨w.heap.size,0+j,none⟩=some (.int .u8 ((([x,y,z]:List Nat)[j]?.getD 0:Nat):Int)):=λ j H=>by
  simp only[World.cell?,ac];rcases(by omega:j=0\/j=1\/j=2) with rfl | rfl | rfl<;>rfl
 rw[G];refine As7 (α:=Nat×Nat) (n:=n) rfl (by omega) (gf:=265) (lb:=#[.pointer (some ⟨w.heap.size+1+1,0,none⟩)]) rfl trivial (enters_of Tryz.func265 (by kernel_rfl) rfl)
  (Fb7 (n-1) (by omega) (w.heap.size+1+1) (some ⟨w.heap.size,0,none⟩) 3 [x,y,z] (by simp) (.inr ⟨_,_,rfl⟩)) (λ _=>rfl)
  (λ pre W=>((∀p∈pre,p.2=0)/\W.cell? ⟨w.heap.size+1,0,none⟩=some (.int .i64 0)/\W.frozen? ⟨w.heap.size+1,0,none⟩=false/\(∀j,j<3->W.cell? ⟨w.heap.size,0+j,none⟩=some (.int .u8 ((([x,y,z]:List Nat)[j]?.getD 0:Nat):Int)))/\W.cell? ⟨w.heap.size+1+1,0,none⟩=some (.slice (some ⟨w.heap.size,0,none⟩) 3 3))/\An0 w W)
  (λ c pre W=>(c = .ret/\∃N last,pre=N ++ [last]/\(∀p∈N,p.2=0)/\0<last.2/\W.cell? ⟨w.heap.size+1,0,none⟩=some (.int .i64 ((last.1:Int)+1)))/\An0 w W)
  ?_ ?_ ?_ ?_
  (λ v=>{tmps:=#[.agg #[.int .u8 (x:Int),.int .u8 (y:Int),.int .u8 (z:Int)],.pointer (some ⟨w.heap.size,0,none⟩),.pointer (some ⟨w.heap.size+1,0,none⟩),.int .i64 (v.1:Int),.int .u8 (v.2:Int),.slice (some ⟨w.heap.size,0,none⟩) 3 3,
    .func (.func 265) #[] #[.pointer (some ⟨w.heap.size+1+1,0,none⟩)],.int .i64 (v.1:Int),.int .u8 (v.2:Int),undef,undef,undef,undef],defers:=[] }) ?assign ?body ?done ?stop
 case assign=>
  intro l p W K C;simp only[Cy9]
  gi_wp2
  exact C
 case body=>
  rintro l pre p W ⟨⟨X,I,Y,O,P⟩,E⟩ ⟨hlen,ar,ae⟩;have hi:p.1<3:=by rw[ae];simp only[bk];simp;omega
  obtain⟨i,v⟩:=p;dsimp only at *
  gi_wp2
  ·have af:0<v:=by first | assumption | omega
   exact⟨(KeepsOthers.setCell _ _ _).from _,⟨rfl,pre,(i,v),rfl,X,af,World.cell?_setCell_same' _ _ _ (by rw[I];rfl)⟩,E.setCell (p:=⟨w.heap.size+1,0,none⟩) (by show w.heap.size<=w.heap.size+1;omega) _⟩
  ·have g:v=0:=by omega
   refine⟨KeepsFrom.refl _ _,trivial,⟨λ p ag=>?_,I,Y,O,P⟩,E⟩;rcases List.mem_append.1 ag with h | h
   ·exact X p h
   ·simp at h;subst h;exact g
 case done=>
  rintro D ps W hD rfl ⟨⟨ai,I,Y,O,P⟩,E⟩ C
  gi_wp2
  have R:=(KeepsOthers.setCell W ⟨w.heap.size+1,0,none⟩ (.int .i64 0)).same D _ C rfl;refine⟨by simp,.inl ⟨_,_,rfl,run_takeDeferred R,?_⟩⟩;have S:=cell_kept (World.cell?_setCell_same' W ⟨w.heap.size+1,0,none⟩ (.int .i64 0) (by rw[I];rfl)) (grownBy_putObj' _ D (.deferred none)) (λ r e=>by cases e;exact⟨_,R,rfl⟩);refine⟨.int .i64 0,?_,?_,(E.setCell (p:=⟨w.heap.size+1,0,none⟩) (by show w.heap.size<=w.heap.size+1;omega) _).put (by omega) R rfl rfl⟩
  ·simp[results,Tryz.f221,go_sem,S]
  ·have F: ∀k,k<3->([x,y,z]:List Nat)[3-1-k]?.getD 0=0:=λ k hk=>ai (bk [x,y,z] k) (List.mem_map.2 ⟨k,List.mem_range.2 (by simpa using hk),rfl⟩)
   have g:=F 0 (by omega);have h1:=F 1 (by omega);have Z:=F 2 (by omega);simp at g h1 Z;simp[Dn7,g,h1,Z]
 case stop=>
  rintro D c pre W hD ⟨k,hk,rfl⟩ ⟨⟨rfl,N,last,Q,U,d,I⟩,E⟩ C
  gi_wp2
  refine⟨by simp,.inl ⟨_,_,rfl,run_takeDeferred C,?_⟩⟩;rw[Bo8] at Q;obtain⟨rfl,e5⟩:=List.append_inj' Q rfl;have e6:last=bk [x,y,z] k:=by simpa using e5.symm
  subst e6;have al:=E.put (o':=.deferred none) (by omega) C rfl rfl;have S:=cell_kept I (grownBy_putObj' _ D (.deferred none)) (λ r e=>by cases e;exact⟨_,C,rfl⟩);have F: ∀j,j<k->([x,y,z]:List Nat)[3-1-j]?.getD 0=0:=λ j H=>U (bk [x,y,z] j) (List.mem_map.2 ⟨j,List.mem_range.2 H,rfl⟩);refine⟨.int .i64 (((bk [x,y,z] k).1:Int)+1),by simp[results,Tryz.f221,go_sem,S],?_,al⟩;have au:k<3:=by simpa using hk
  rcases(by omega:k=0\/k=1\/k=2) with rfl | rfl | rfl
  ·have d:0<z:=d
   simp[Dn7,bk,d]
  ·have g:=F 0 (by omega)
   have d:0<y:=d;simp at g;simp[Dn7,bk,d,g]
  ·have g:=F 0 (by omega)
   have h1:=F 1 (by omega);have d:0<x:=d;simp at g h1;simp[Dn7,bk,d,g,h1]
 ·exact Af7.and (Own.Ey9 (λ s A B row u J L=>⟨u.1,cell_kept u.2.1 J L,(frozen_kept u.2.1 J L).trans u.2.2.1,λ j H=>cell_kept (u.2.2.2.1 j H) J L,cell_kept u.2.2.2.2 J L⟩) _) (Am0 (by omega))
 ·exact λ c=>Af7.and (Own.Ey9 (λ s A B row u J L=>by
   obtain⟨hc,N,last,Q,U,d,e4⟩:=u;exact⟨hc,N,last,Q,U,d,cell_kept e4 J L⟩) _) (Am0 (by omega))
 ·rintro pre W ⟨⟨_,_,_,O,P⟩,E⟩
  refine⟨P,λ b off hA j H=>?_⟩;cases hA;exact O j (by simp at H;omega)
 ·exact⟨⟨by simp,V.cell,V.frozen,hX,bL.cell⟩,aa⟩
def Cx8 (m:Mon):Int:=if 0<m.z then 3 else if 0<m.y then 2 else if 0<m.x then 1 else 0
theorem Dj6 (hm:m.ok):
  Aa0 Tryz.prog 221 [.agg ⟨[.int .u8 m.x,.int .u8 m.y,.int .u8 m.z]⟩] W0 M λ v W'=>v = .int .i64 (Cx8 m)/\True:=by
 refine⟨⟨_,Tryz.func221,rfl,rfl⟩,λ _=>?_⟩;obtain⟨⟨c,_⟩,⟨d,_⟩,z0,_⟩:=hm;obtain⟨mx,h,j⟩:=m;obtain⟨x,rfl⟩:=Int.eq_ofNat_of_zero_le c;obtain⟨y,rfl⟩:=Int.eq_ofNat_of_zero_le d;obtain⟨z,rfl⟩:=Int.eq_ofNat_of_zero_le z0;have:=callsIn_wide.1 (Ff2 5 (by omega) x y z W0.w);have e:((Dn7 [x,y,z]:Nat):Int)=Cx8 ⟨x,y,z⟩:=by
  simp only[Dn7,Cx8];show((if 0<z then 3 else if 0<y then 2 else if 0<x then 1 else 0:Nat):Int)=_
  (repeat' split)<;>omega
 rw[e] at this;exact Calls.mono this λ e w' ⟨he,g⟩=>⟨_,he,Bd7 g,rfl,trivial⟩
theorem Cj8 {W:PW}{K:Value->PW->Prop}(hm:m.ok)(d: ∀(W':PW),Ext W W'->(True)->K (.int .i64 (Cx8 m)) W'):
  Aa1 Tryz.prog W0 M 221 [.agg ⟨[.int .u8 m.x,.int .u8 m.y,.int .u8 m.z]⟩] W K:=
 Mi4 (λ _ c=>Dj6 hm) fun | _,W',c,⟨rfl,h⟩=>d W' c h
end Go.Proofs.YtkgeopnakkcdoaaGreatDoor
set_option maxRecDepth 100000
namespace Go.Proofs.YtkgeopnakkcdoaaGreatDoor
open Go Go.SX
variable {M:Nat->Prop}{W0:PW}{p:List Tm}{s:Sl}
def Fv8 (i:Int) (m:Mon):Int:=if 0<=i/\i<3 then An6 m i.toNat else 0
def Fw5 (W0:PW) (p:List Tm) (i:Int) (L:List PL) (W:PW):Prop:=match L with
 | [.val (.int .i64 a),.val (.int .i64 k)]=>∃j:Nat,k=(j:Int)/\j<=p.length/\Ext W0 W/\a=Fd0 (Fv8 i) 0 (p.take j)
 | _=>False
def Fv5 (p:List Tm) (L:List PL) (_:PW):Nat:=match L with
 | [_,.val (.int .i64 k)]=>p.length-k.toNat
 | _=>0
def Fw1 (W0:PW) (p:List Tm) (L:List PL) (W:PW):Prop:=match L with
 | [.val (.int .i64 a),.val (.int .i64 k)]=>∃j:Nat,k=(j:Int)/\j<=p.length/\Ext W0 W/\a=Fd0 Cx8 0 (p.take j)
 | _=>False
theorem Dd3 (h:Ab0 257 169 W0 s p)(z:p.length<=1099511627776):
  Aa0 Tryz.prog 166 [.agg ⟨[s.v]⟩] W0 M λ v W'=>v = .int .i64 (Fd0 Cx8 0 p)/\True:=by
 apply Cn0;have A:=h.n;refine⟨Fw1 W0 p,Fv5 p,⟨0,rfl,by omega,Ext.refl _,rfl⟩,?_⟩;rintro i3 i4 B ⟨j,rfl,C,c,rfl⟩;refine⟨λ D=>?_,λ E g _=>⟨?_,trivial⟩⟩
 ·have d:j<p.length:=by omega
  have e:=h.ext c;obtain⟨n,c1,d1,c2,o,_,_,F⟩:=e.at (List.getElem?_eq_getElem d);have u:p.length-Int.toNat ((j:Int)+1)<p.length-Int.toNat (j:Int):=by omega
  refine⟨e.inB (by omega) (by omega),_,_,_,c1,d1,c2,o,Cj8 n λ g w _=>⟨_,rfl,by unfold I64;omega,⟨j+1,by push_cast;rfl,by omega,c.trans w,by rw[Ce0 d,Em4]⟩,u⟩⟩
 ·have:j=p.length:=by omega
  subst this;rw[List.take_length]
theorem Co3 {W:PW}{K:Value->PW->Prop}(h:Ab0 257 169 W s p)(d:p.length<=1099511627776)(e: ∀(W':PW),Ext W W'->(True)->K (.int .i64 (Fd0 Cx8 0 p)) W'):
  Aa1 Tryz.prog W0 M 166 [.agg ⟨[s.v]⟩] W K:=
 Mi4 (λ _ c=>Dd3 (h.ext c) d) fun | _,W',c,⟨rfl,h⟩=>e W' c h
end Go.Proofs.YtkgeopnakkcdoaaGreatDoor
namespace Go.Proofs.YtkgeopnakkcdoaaGreatDoor
open Go Go.SX
variable {K:Value->PW->Prop}{M:Nat->Prop}{W W0:PW}{a q:Rat}{b:Bool}{bs:List Iv}{k m:Nat}{l2:List Value}{p:List Tm}{s t:Sl}{x y:Iv}
theorem Hm9 {l1:List Value}(h1:SpV 257 W0 l1 x)(c:SpV 257 W0 l2 y)(d:IvS k x)(e:IvS k y)(hk:k<=8589934592):
  Aa0 Tryz.prog 66 [.agg ⟨l1⟩,.agg ⟨l2⟩] W0 M λ v W'=>∃(l:List Value),v = .agg ⟨l⟩/\SpV 257 W' l (He4 x y):=by
 obtain⟨s0,b0,t0,s1,b1,t1,rfl,h1,j⟩:=h1;obtain⟨s2,b2,t2,s3,C,t3,rfl,c,n⟩:=c;apply Hj2;exact Gr0 h1 n d.1 e.2 hk hk λ s3 o u D g g1=>⟨s3,o,u,rfl,Gr0 (j.ext g) (c.ext g) d.2 e.1 hk hk λ w z A E B g2=>⟨w,z,A,rfl,λ F h=>⟨_,rfl,SpV.mk (x:=He4 x y) (g1.ext (B.trans h)) (g2.ext h)⟩⟩⟩
theorem Hi9 {l1:List Value}(h1:SpV 257 W l1 x)(d:SpV 257 W l2 y)(e:IvS k x)(g:IvS k y)(hk:k<=8589934592)(j: ∀(l:List Value) (W':PW),Ext W W'->(SpV 257 W' l (He4 x y))->K (.agg ⟨l⟩) W'):
  Aa1 Tryz.prog W0 M 66 [.agg ⟨l1⟩,.agg ⟨l2⟩] W K:=
 Mi4 (λ _ c=>Hm9 (h1.ext c) (d.ext c) e g hk) fun | _,W',c,⟨l,rfl,h⟩=>j l W' c h
theorem Ge1:Sz 1 ((2:Int):Rat):=⟨by rw[Rat.num_intCast];exact Bc6 (by decide),by rw[Rat.den_intCast,Ax0];omega⟩
theorem Gb3 (h:Ab3 257 W0 s b t q)(j:Sz k q)(hk:k<=8589934592):
  Aa0 Tryz.prog 247 [.agg ⟨[s.v,.bool b,t.v]⟩] W0 M λ v W'=>∃(r:Sl),∃(c:Bool),∃(u:Sl),v = .agg ⟨[Sl.v r,.bool c,Sl.v u]⟩/\Ab3 257 W' r c u (q/2):=by
 apply Fz1;exact Ay8 (z:=2) (by unfold I64;omega) λ s3 n o D w A=>⟨s3,n,o,rfl,Gb1 (h.ext w) A j Ge1 hk (by omega) (by omega) λ d e g E F B=>⟨d,e,g,_,rfl,λ G C=>⟨d,e,g,rfl,B.ext C⟩⟩⟩
theorem Fz7 (h:Ab3 257 W s b t q)(e:Sz k q)(hk:k<=8589934592)(g: ∀(r:Sl) (c:Bool) (u:Sl) (W':PW),Ext W W'->(Ab3 257 W' r c u (q/2))->K (.agg ⟨[Sl.v r,.bool c,Sl.v u]⟩) W'):
  Aa1 Tryz.prog W0 M 247 [.agg ⟨[s.v,.bool b,t.v]⟩] W K:=
 Mi4 (λ _ d=>Gb3 (h.ext d) e hk) fun | _,W',d,⟨r,c,u,rfl,h⟩=>g r c u W' d h
theorem Gd0 {l1:List Value}(h1:SpV 257 W0 l1 x)(d:IvS k x)(hk:k<=1073741824):
  Aa0 Tryz.prog 202 [.agg ⟨l1⟩] W0 M λ v W'=>∃(r:Sl),∃(c:Bool),∃(u:Sl),v = .agg ⟨[Sl.v r,.bool c,Sl.v u]⟩/\Ab3 257 W' r c u (Ga6 x):=by
 obtain⟨s0,b0,t0,s1,b1,t1,rfl,h1,j⟩:=h1;apply Ga3;exact At2 h1 j d.1 d.2 (by omega) (by omega) λ s3 n o B C w=>⟨s3,n,o,rfl,Fz7 w (d.1.add d.2) (by omega) λ e g h D E z=>⟨e,g,h,rfl,λ F A=>⟨e,g,h,rfl,z.ext A⟩⟩⟩
theorem Ga1 {l1:List Value}(h1:SpV 257 W l1 x)(e:IvS k x)(hk:k<=1073741824)(g: ∀(r:Sl) (c:Bool) (u:Sl) (W':PW),Ext W W'->(Ab3 257 W' r c u (Ga6 x))->K (.agg ⟨[Sl.v r,.bool c,Sl.v u]⟩) W'):
  Aa1 Tryz.prog W0 M 202 [.agg ⟨l1⟩] W K:=
 Mi4 (λ _ d=>Gd0 (h1.ext d) e hk) fun | _,W',d,⟨r,c,u,rfl,h⟩=>g r c u W' d h
instance (x y:Iv):Decidable (Ft1 x y):=by unfold Ft1;infer_instance
theorem Hp0 {b:Rat}(c:Sz k a)(d:Sz k b):Sz k (Az9 a b):=by rcases Dj0 a b with e | e<;>rw[e]<;>assumption
theorem Hp2 {b:Rat}(c:Sz k a)(d:Sz k b):Sz k (Au7 a b):=by rcases Dj7 a b with e | e<;>rw[e]<;>assumption
def An3 (p:List Tm) (bs:List Iv):Prop:=Cn7 bs/\Fd0 Cx8 0 p<=(bs.length:Int)
instance (p:List Tm) (bs:List Iv):Decidable (An3 p bs):=by unfold An3;infer_instance
theorem Cm8 {sb:Sl}(h:Ab0 257 169 W0 s p)(d:Bc3 257 W0 sb bs)(hk: ∀x∈bs,IvS k x)(g:k<=1048576)(j:bs.length<=1048576)(n:p.length<=1099511627776):
  Aa0 Tryz.prog 84 [.agg ⟨[s.v]⟩,sb.v] W0 M λ v W'=>v = .bool (decide (An3 p bs))/\True:=by
 apply Bw2;have o:=d.n;refine Cm2 d hk g j λ w u _=>⟨_,rfl,λ c=>Co3 (h.ext u) n λ z A _=>⟨_,rfl,λ B _=>⟨?_,trivial⟩⟩,λ c C _=>⟨?_,trivial⟩⟩
 ·have c:=of_decide_eq_true c
  congr 1;rw[decide_eq_decide,o];exact⟨λ e=>⟨c,e⟩,λ e=>e.2⟩
 ·have c:=of_decide_eq_false c
  rw[decide_eq_false (p:=An3 p bs) λ e=>c e.1]
theorem Bv2 {sb:Sl}(h:Ab0 257 169 W s p)(d:Bc3 257 W sb bs)(hk: ∀x∈bs,IvS k x)(e:k<=1048576)(g:bs.length<=1048576)(j:p.length<=1099511627776)(n: ∀(W':PW),Ext W W'->(True)->K (.bool (decide (An3 p bs))) W'):
  Aa1 Tryz.prog W0 M 84 [.agg ⟨[s.v]⟩,sb.v] W K:=
 Mi4 (λ _ c=>Cm8 (h.ext c) (d.ext c) hk e g j) fun | _,W',c,⟨rfl,h⟩=>n W' c h
theorem Cj1 {sb:Sl}(d:Bc3 257 W0 sb bs):
  Aa0 Tryz.prog 86 [sb.v] W0 M λ v W'=>∃(l:List Value),v = .agg ⟨l⟩/\DmV 257 W' l (Bm3 bs):=by
 apply Bx9;obtain⟨ys,e,g⟩:=d;have c:=Br4 g;refine⟨ys,e,c.shp,λ s2 j s4 n o u w z A B C D E F G H I J he L h=>⟨_,rfl,?_⟩⟩;rw[he];exact c.ext h
theorem Bu1 {sb:Sl}(d:Bc3 257 W sb bs)(e: ∀(l:List Value) (W':PW),Ext W W'->(DmV 257 W' l (Bm3 bs))->K (.agg ⟨l⟩) W'):
  Aa1 Tryz.prog W0 M 86 [sb.v] W K:=
 Mi4 (λ _ c=>Cj1 (d.ext c)) fun | _,W',c,⟨l,rfl,h⟩=>e l W' c h
structure BxN (k m:Nat) (p:List Tm) (bs:List Iv):Prop where
 bd:Bd k p
 sd: ∀x∈bs,IvS m x
 ok:POk p
 len:p.length<=20000000
 k1:k<=100000000
 m1:m<=100
 bl:bs.length<=1000
structure BxB (k m:Nat) (p:List Tm) (bs:List Iv):Prop where
 n:BxN k m p bs
 len:p.length<=30
 k1:k<=300000
 bl:bs.length<=100
theorem BxN.side (h:BxN k m p bs)(i:Nat):BdI (2*m+1) (Bm3 bs i):=Ep8 h.sd i
theorem Cl1 (h:POk p): ∀t∈p,∀i,mex t.1 i<=255:=λ t c i=>by
 have:=h t c;unfold Mon.ok at this;unfold SX.mex
 (repeat' split)<;>omega
theorem Bs5 {sb:Sl}(h:Ab0 257 169 W0 s p)(j:Bc3 257 W0 sb bs)(c:BxN k m p bs):
  Aa0 Tryz.prog 25 [.agg ⟨[s.v]⟩,sb.v] W0 M λ v W'=>∃(l:List Value),v = .tuple ⟨[.agg ⟨l⟩,.bool (decide (An3 p bs))]⟩/\SpV 257 W' l (if An3 p bs then Aq8 (Bm3 bs) p else(0,0)):=by
 apply Bh7;have V:=c.m1;have z2:=c.len;have z3:=c.k1;have z4:=c.bl;refine Bv2 h j c.sd (by omega) (by omega) (by omega) λ X n _=>⟨_,rfl,λ d u Y=>?_,λ e=>?_⟩
 ·have d:¬An3 p bs:=by simpa using d
  rw[if_neg d,decide_eq_false d];exact⟨_,rfl,SpV.zero u⟩
 ·have e:An3 p bs:=by simpa using e
  rw[if_pos e,decide_eq_true e];refine Bu1 (j.ext n) λ l Z w o=>?_;obtain⟨z,A,B,C,D,E,F,G,H,I,J,L,N,O,P,Q,R,S,rfl,aa⟩:=id o;refine⟨z,A,B,C,D,E,F,G,H,I,J,L,N,O,P,Q,R,S,rfl,?_⟩;exact Az5 (h.ext (n.trans w)) o c.bd c.side (Cl1 c.ok) (Nat.le_refl 255) (by omega) (by omega) (by omega) λ r ab ac g=>g.out λ ad ae af ag ah ai g aj U=>⟨_,rfl,g.ext U⟩
theorem Bi4 {sb:Sl}(h:Ab0 257 169 W s p)(d:Bc3 257 W sb bs)(e:BxN k m p bs)(g: ∀(l:List Value) (W':PW),Ext W W'->(SpV 257 W' l (if An3 p bs then Aq8 (Bm3 bs) p else(0,0)))->K (.tuple ⟨[.agg ⟨l⟩,.bool (decide (An3 p bs))]⟩) W'):
  Aa1 Tryz.prog W0 M 25 [.agg ⟨[s.v]⟩,sb.v] W K:=
 Mi4 (λ _ c=>Bs5 (h.ext c) (d.ext c) e) fun | _,W',c,⟨l,rfl,h⟩=>g l W' c h
def cnB (n:Nat) (L:List PL) (_:PW):Nat:=match L with
 | [_,.val (.int .i64 z)]=>n-z.toNat
 | _=>0
def Hq4 (bs:List Iv):List Rat:=bs.map Ga6
def bmI (W0:PW) (bs:List Iv) (L:List PL) (W:PW):Prop:=match L with
 | [.row l,.val (.int .i64 i)]=>∃j:Nat,i=(j:Int)/\j<=bs.length/\Ext W0 W/\An5 (QtV 257 W) l (Hq4 (bs.take j))
 | _=>False
theorem Ho2 {sb:Sl}(d:Bc3 257 W0 sb bs)(hk: ∀x∈bs,IvS k x)(E:k<=1048576)(F:bs.length<=1048576):
  Aa0 Tryz.prog 138 [sb.v] W0 M λ v W'=>∃(s:Sl),v=Sl.v s/\Hq6 257 W' s (if Cn7 bs then Hq4 bs else[]):=by
 apply Hk8;have S:=d.n;refine Cm2 d hk E F λ G H _=>⟨_,rfl,λ e I U=>⟨⟨none,0,0⟩,rfl,?_⟩,λ g=>?_⟩
 ·have e:¬Cn7 bs:=by simpa using e
  rw[if_neg e];exact Dr1.nil I
 have g:Cn7 bs:=by simpa using g
 rw[if_pos g];refine⟨bmI G bs,cnB bs.length,⟨0,rfl,Nat.zero_le _,Ext.refl _,trivial⟩,?_⟩;rintro J i8 V ⟨j,rfl,X,o,c⟩;have u:=c.len;unfold Hq4 at u;rw[List.length_map,List.length_take] at u;refine⟨λ Y=>?_,λ Z L aa N hO _ ab w=>⟨L,rfl,⟨J,⟨_,hO.row.ext w⟩,?_⟩⟩⟩
 ·have n:j<bs.length:=by omega
  have z:=d.ext (H.trans o);obtain⟨x,⟨s,b,t,s',b',O,rfl,q1,P⟩,Q⟩:=z.at n;refine⟨z.inB (by omega) (by omega),s,b,t,s',b',O,Q 0 rfl,?_⟩;refine Ga1 (SpV.mk q1 P) (hk _ (List.getElem_mem n)) (by omega) λ A B C ac D R=>⟨A,B,C,rfl,by simp only[List.length_cons,List.length_nil];omega,by unfold I64;omega,⟨j+1,by push_cast;rfl,by omega,o.trans D,?_⟩,?_⟩
  ·unfold Hq4 at c⊢
   rw[List.take_succ_eq_append_getElem n,List.map_append];exact(c.mono λ _ _ h=>h.ext D).append ⟨⟨A,B,C,rfl,R⟩,trivial⟩
  ·show bs.length-Int.toNat ((j:Int)+1)<bs.length-Int.toNat (j:Int)
   omega
 ·have:j=bs.length:=by omega
  subst this;rw[List.take_length] at c;exact c.mono λ _ _ h=>h.ext (N.trans w)
theorem Hk9 {sb:Sl}(d:Bc3 257 W sb bs)(hk: ∀x∈bs,IvS k x)(e:k<=1048576)(g:bs.length<=1048576)(j: ∀(s:Sl) (W':PW),Ext W W'->(Hq6 257 W' s (if Cn7 bs then Hq4 bs else[]))->K (Sl.v s) W'):
  Aa1 Tryz.prog W0 M 138 [sb.v] W K:=
 Mi4 (λ _ c=>Ho2 (d.ext c) hk e g) fun | _,W',c,⟨s,rfl,h⟩=>j s W' c h
end Go.Proofs.YtkgeopnakkcdoaaGreatDoor
namespace Go.Proofs.YtkgeopnakkcdoaaGreatDoor
open Go Go.SX
variable {bs:List Iv}{k m:Nat}{p:List Tm}
theorem Hl9 {i:Nat}(bs:List Iv)(hi:i<3):(Hq4 bs).getD i 0=(Hb9 bs).get i:=by
 rw[Hd5 bs hi];unfold Hq4 Bm3;rw[List.getD_eq_getElem?_getD,List.getD_eq_getElem?_getD,List.getElem?_map]
 cases bs[i]? with
 | none=>show(0:Rat)=(0+0)/2;decide +kernel
 | some x=>rfl
theorem Hq1 {x:Iv}(h:BdI m x):Sz (2*m+2) (Ga6 x):=by
 have:=(h.sz.1.add h.sz.2).div Ge1 (Nat.le_refl 1);exact this.mono (by omega)
theorem Hc8 (h:BxB k m p bs)(i:Nat):Sz 404 ((Hb9 bs).get i):=by
 have hm:=h.n.m1;have e:=λ i=>(Hq1 (h.n.side i)).mono (show 2*(2*m+1)+2<=404 by omega);unfold Pt.get
 (repeat' split)
 ·exact e 0
 ·exact e 1
 ·exact e 2
theorem Hh1 {a:Nat}(h1:a<=30)(e:k<=300000):a*(k+3*(404*255+1)+1)+1<=19000000:=by
 have c:k+3*(404*255+1)+1<=609064:=by omega
 have d:a*(k+3*(404*255+1)+1)<=30*609064:=Nat.mul_le_mul h1 c;exact Nat.le_trans (Nat.add_le_add_right d 1) (by decide)
theorem BxB.Hs2 (h:BxB k m p bs):Sz 19000000 (atQ (Hb9 bs) p):=
 (Gx6 h.n.bd.sz (Hc8 h) (e:=255) λ t c i=>Gq6 (h.n.ok t c) i).mono (Hh1 h.len h.k1)
theorem BxB.Hp1 (h:BxB k m p bs)(i:Int):BdI 460000 (Aq8 (Bm3 bs) (Hc3 p i)):=by
 have c:=h.k1;have d:=h.n.m1;exact(Cv6 (Hg1 h.n.bd h.n.ok i) h.n.side (Cl1 (Hh5 h.n.ok i))).mono (by omega)
theorem BxB.Hr8 (h:BxB k m p bs)(i j:Nat):BdI 2000 (He4 (Bm3 bs i) (Eb6 ((Hb9 bs).get j))):=by
 have d:=h.n.m1;have c:=(h.n.side i).sz;have z2:=Hc8 h j;exact(BdI.Co7 (x:=He4 (Bm3 bs i) (Eb6 ((Hb9 bs).get j))) ⟨(c.1.sub z2).mono (show _<=700 by omega),(c.2.sub z2).mono (by omega)⟩).mono (by omega)
end Go.Proofs.YtkgeopnakkcdoaaGreatDoor
namespace Go.Proofs.YtkgeopnakkcdoaaGreatDoor
open Go Go.SX
variable {bs:List Iv}{f:List (List Tm)}{i k l m:Nat}{x:Iv}{y:Nat->Nat->Rat}
def fAt (f:List (List Tm)) (n:Nat):List Tm:=f.getD n []
theorem Mq1 {n:Nat}(h:n<f.length):fAt f n=f[n]:=by
 unfold fAt;rw[List.getD_eq_getElem?_getD,List.getElem?_eq_getElem h];rfl
def krS (f:List (List Tm)) (y:Nat->Nat->Rat) (bs:List Iv) (i k:Nat):Nat->Iv
 | 0=>Eb6 (if i=k then 1 else 0)
 | n+1=>He4 (krS f y bs i k n) (De8 (Aq8 (Bm3 bs) (Hc3 (fAt f n) (k:Int))) (y i n))
def krA (f:List (List Tm)) (y:Nat->Nat->Rat) (bs:List Iv) (i:Nat):Nat->Rat
 | 0=>(Hb9 bs).get i
 | n+1=>krA f y bs i n-y i n*atQ (Hb9 bs) (fAt f n)
def krR (f:List (List Tm)) (y:Nat->Nat->Rat) (bs:List Iv) (i:Nat):Nat->Iv
 | 0=>Eb6 (krA f y bs i f.length)
 | k+1=>Cb5 (krR f y bs i k) (Ay9 (krS f y bs i k f.length) (He4 (Bm3 bs k) (Eb6 ((Hb9 bs).get k))))
def krK (f:List (List Tm)) (y:Nat->Nat->Rat) (bs:List Iv):List Iv:=(List.range bs.length).map λ i=>krR f y bs i bs.length
def Mk5 (f:List (List Tm)) (bs:List Iv):Prop:=(∀p∈f,An3 p bs)/\f.length=bs.length/\Cn7 bs
instance (f:List (List Tm)) (bs:List Iv):Decidable (Mk5 f bs):=by unfold Mk5;infer_instance
def Mr9 (x y:Iv):Prop:=y.1<x.1/\x.2<y.2
instance (x y:Iv):Decidable (Mr9 x y):=by unfold Mr9;infer_instance
def Mq8 (f:List (List Tm)) (y:Nat->Nat->Rat) (bs:List Iv):Prop:=∀i,i<bs.length->Mr9 (krR f y bs i bs.length) (Bm3 bs i)
theorem Mk0 (f:List (List Tm))(y:Nat->Nat->Rat)(bs:List Iv):(krK f y bs).length=bs.length:=by unfold krK;rw[List.length_map,List.length_range]
theorem Mr2 (h:i<(krK f y bs).length):(krK f y bs)[i]=krR f y bs i bs.length:=by
 simp only[krK,List.getElem_map,List.getElem_range]
theorem Mp8 {p:List Tm}(h:An3 p bs)(j:POk p)(hk:k<3):An3 (Hc3 p (k:Int)) bs:=by
 refine⟨h.1,Hx0 (by have:=h.1.1.1;omega) λ t c=>?_⟩;unfold Hc3 at c;rw[if_pos (by omega)] at c;obtain⟨u,hu,e⟩:=Gu2 c;obtain⟨s,d,g,rfl⟩:=Hj9 hu;rw[e];have h1:=(Hv3 (w:=Cx8) (n:=0) (p:=p)).2 s d;have o:=h.2;have v:=j s d;unfold Mon.ok at v;refine Int.le_trans ?_ (Int.le_trans h1 o);rw[Int.toNat_natCast] at g⊢;unfold An6 at g;unfold Cx8 Hj5
 (repeat' split)<;>simp_all<;>omega
structure KrB (k m l:Nat) (f:List (List Tm)) (y:Nat->Nat->Rat) (bs:List Iv):Prop where
 p: ∀q∈f,BxB k m q bs
 n:f.length<=3
 y: ∀i j,i<f.length->j<f.length->Sz l (y i j)
 l1:l<=100000000
theorem IvS.sub {y:Iv}(h:IvS k x)(c:IvS l y):IvS (k+l+1) (He4 x y):=⟨h.1.sub c.2,h.2.sub c.1⟩
theorem IvS.add {y:Iv}(h:IvS k x)(c:IvS l y):IvS (k+l+1) (Cb5 x y):=⟨h.1.add c.1,h.2.add c.2⟩
theorem IvS.mono (h:IvS k x)(c:k<=l):IvS l x:=⟨h.1.mono c,h.2.mono c⟩
theorem IvS.Em8 {a:Rat}{b:Rat}(h:Sz k a)(c:Sz k b):IvS k (Ag0 a b):=⟨Hp0 h c,Hp2 h c⟩
theorem IvS.scale {r:Rat}(h:IvS k x)(c:Sz l r):IvS (k+l) (De8 x r):=IvS.Em8 (h.1.mul c) (h.2.mul c)
theorem IvS.Fv1 {y:Iv}(h:IvS k x)(c:IvS k y):IvS k (Bu9 x y):=⟨Hp0 h.1 c.1,Hp2 h.2 c.2⟩
theorem IvS.mul {y:Iv}(h:IvS k x)(c:IvS l y):IvS (k+l) (Ay9 x y):=IvS.Fv1 (IvS.Em8 (h.1.mul c.1) (h.2.mul c.2)) (IvS.Em8 (h.1.mul c.2) (h.2.mul c.1))
theorem Mn7 (i k:Nat):Sz 1 (if i=k then(1:Rat) else 0):=by
 split
 ·exact⟨Bc6 (by decide +kernel),Bc6 (by decide +kernel)⟩
 ·exact Sz.zero (Nat.le_refl 1)
theorem KrB.at (h:KrB k m l f y bs){n:Nat}(c:n<f.length):BxB k m (fAt f n) bs:=by rw[Mq1 c];exact h.p _ (List.getElem_mem c)
theorem KrB.S (h:KrB k m l f y bs)(hi:i<f.length)(j:Nat): ∀n,n<=f.length->IvS (1+n*(460000+l+1)) (krS f y bs i j n)
 | 0,_=>⟨(Mn7 i j).mono (by omega),(Mn7 i j).mono (by omega)⟩
 | n+1,d=>by
  have c:IvS 460000 (Aq8 (Bm3 bs) (Hc3 (fAt f n) (j:Int))):=((h.at (by omega)).Hp1 (j:Int)).sz;refine IvS.mono (IvS.sub (h.S hi j n (by omega)) (IvS.scale c (h.y i n hi (by omega)))) ?_;rw[Nat.add_mul];omega
theorem KrB.S3 (h:KrB k m l f y bs)(hi:i<f.length)(j:Nat){n:Nat}(c:n<=f.length):IvS 302000000 (krS f y bs i j n):=by
 have d:=h.n;have e:=h.l1;refine IvS.mono (h.S hi j n c) ?_;have:=Nat.mul_le_mul (show n<=3 by omega) (show 460000+l+1<=100460001 by omega);omega
theorem KrB.mid (h:KrB k m l f y bs)(h1:1<=f.length)(i:Nat):Sz 404 ((Hb9 bs).get i):=Hc8 (h.at (n:=0) h1) i
theorem KrB.A (h:KrB k m l f y bs)(hi:i<f.length): ∀n,n<=f.length->Sz (404+n*(l+19000000+1)) (krA f y bs i n)
 | 0,_=>(h.mid (by omega) i).mono (by omega)
 | n+1,c=>by
  refine((h.A hi n (by omega)).sub ((h.y i n hi (by omega)).mul (h.at (n:=n) (by omega)).Hs2)).mono ?_;rw[Nat.add_mul];omega
theorem KrB.A3 (h:KrB k m l f y bs)(hi:i<f.length){n:Nat}(c:n<=f.length):Sz 358000000 (krA f y bs i n):=by
 have d:=h.n;have e:=h.l1;refine(h.A hi n c).mono ?_;have:=Nat.mul_le_mul (show n<=3 by omega) (show l+19000000+1<=119000001 by omega);omega
theorem KrB.Hr8 (h:KrB k m l f y bs)(h1:1<=f.length)(i:Nat):IvS 2000 (He4 (Bm3 bs i) (Eb6 ((Hb9 bs).get i))):=((h.at (n:=0) h1).Hr8 i i).sz
theorem KrB.R (h:KrB k m l f y bs)(hi:i<f.length): ∀n,n<=f.length->IvS (358000000+n*302002001) (krR f y bs i n)
 | 0,_=>⟨(h.A3 hi (Nat.le_refl _)).mono (by omega),(h.A3 hi (Nat.le_refl _)).mono (by omega)⟩
 | n+1,c=>by
  refine IvS.mono (IvS.add (h.R hi n (by omega)) (IvS.mul (h.S3 hi n (Nat.le_refl _)) (h.Hr8 (by omega) n))) ?_;rw[Nat.add_mul];omega
theorem KrB.R3 (h:KrB k m l f y bs)(hi:i<f.length){n:Nat}(c:n<=f.length):IvS 1300000000 (krR f y bs i n):=by
 have d:=h.n;refine IvS.mono (h.R hi n c) ?_;have:=Nat.mul_le_mul_right 302002001 (show n<=3 by omega);omega
end Go.Proofs.YtkgeopnakkcdoaaGreatDoor
namespace Go.Proofs.YtkgeopnakkcdoaaGreatDoor
open Go Go.SX
variable {M:Nat->Prop}{T:List (List (Mon×ByteArray))}{W0:PW}{exp:Int}{ps:List (List Tm)}{s:Sl}
abbrev Ps (W:PW) (s:Sl) (ps:List (List Tm)):Prop:=Gf4 257 169 W s ps
abbrev RPs (W:PW) (s:Sl) (ps:List (List Tm)):Prop:=Jz0 257 148 W s ps
def Kj9 (T:List (List (Mon×ByteArray))) (exp:Int) (ps:List (List Tm)):Prop:=An5 (λ l p=>Ff1 l exp p) T ps
theorem Kj9.at {i:Nat}(h:Kj9 T exp ps)(hi:i<ps.length): ∃l,Ff1 l exp ps[i]/\T[i]?=some l:=by
 obtain⟨l,c,d⟩:=An5.get h (List.getElem?_eq_getElem hi);exact⟨l,d,c⟩
theorem Kj9.mem {p:List Tm}(h:Kj9 T exp ps)(c:p∈ps): ∃l,Ff1 l exp p:=by
 obtain⟨i,hi,rfl⟩:=List.mem_iff_getElem.1 c;obtain⟨l,d,_⟩:=h.at hi;exact⟨l,d⟩
def Kq0 (n:Nat) (l:List PL) (_:PW):Nat:=match l with
 | [.val (.int .i64 i)]=>n-i.toNat
 | _=>0
def Kr2 (W0:PW) (T:List (List (Mon×ByteArray))) (exp:Int) (L:List PL) (W:PW):Prop:=match L with
 | [.row xs,.row ys,.val (.int .i64 i)]=>∃(j:Nat) (ps:List (List Tm)),i=(j:Int)/\j<=T.length/\Ext W0 W/\Kj9 (T.take j) exp ps/\An5 (Gx4 257 169 W) xs ps/\An5 (Ke9 257 148 W) ys ps
 | _=>False
theorem Kh1 (h:Jz1 W0 s T)(F: ∀l∈T,l.length<=1099511627776/\∀t∈l,t.2.size<=1099511627776):
  Aa0 Tryz.prog 9 [s.v,.int .i64 exp] W0 M λ v W'=>∃(s1:Sl),∃(s2:Sl),∃(b:Bool),v = .tuple ⟨[Sl.v s1,Sl.v s2,.bool b]⟩/\(b=true->∃ps,Kj9 T exp ps/\T.length<=4/\Ps W' s1 ps/\RPs W' s2 ps):=by
 apply Kc1;have Y:=h.n;refine⟨λ _ Z _=>⟨⟨none,0,0⟩,⟨none,0,0⟩,false,rfl,λ e=>by cases e⟩,λ h4=>⟨Kr2 W0 T exp,λ L _=>match L with | [_,_,.val (.int .i64 i)]=>T.length-i.toNat | _=>0,⟨0,[],rfl,Nat.zero_le _,Ext.refl _,trivial,trivial,trivial⟩,?_⟩⟩;rintro G H i6 W7 ⟨j,ps,rfl,hj,A,c,n,o⟩;have ad:=n.len;have ae:=o.len;have I:=An5.len c;rw[List.length_take] at I;refine⟨λ af=>?_,λ ag J ah B hO _ N ai u O _ aj d=>⟨J,N,true,rfl,λ _=>?_⟩⟩
 ·have w:j<T.length:=by omega
  have C:=h.ext A;obtain⟨x,P,Q⟩:=C.at w;obtain⟨R,z2⟩:=F _ (List.getElem_mem w);refine⟨C.inB (by omega) (by omega),x,P,Dn6 Q R z2 λ D E S ak z g=>⟨D,E,S,rfl,λ _ al _=>⟨⟨none,0,0⟩,⟨none,0,0⟩,false,rfl,λ e=>(by cases e)⟩,λ U=>?_⟩⟩;obtain⟨p,op,V,X⟩:=g (by simpa using U);refine⟨by simp only[List.length_cons,List.length_nil];omega,by simp only[List.length_cons,List.length_nil];omega,by unfold I64;omega,⟨j+1,ps ++ [p],by push_cast;rfl,by omega,A.trans z,?_,(n.mono λ _ _ h=>h.ext z).snoc ⟨D,rfl,V⟩,(o.mono λ _ _ h=>h.ext z).snoc ⟨E,rfl,X⟩⟩,?_⟩
  ·have e:T.take (j+1)=T.take j ++ [T[j]]:=by rw[List.take_add_one,List.getElem?_eq_getElem w];rfl
   rw[e];exact An5.snoc c op
  ·show T.length-Int.toNat ((j:Int)+1)<T.length-Int.toNat (j:Int)
   omega
 ·have:j=T.length:=by omega
  subst this;rw[List.take_length] at c;exact⟨ps,c,by omega,⟨G,⟨_,((hO.ext u).ext d).row⟩,n.mono λ _ _ h=>h.ext (B.trans (u.trans d))⟩,⟨H,⟨_,(O.ext d).row⟩,o.mono λ _ _ h=>h.ext (B.trans (u.trans d))⟩⟩
theorem Ke6 {W:PW}{K:Value->PW->Prop}(h:Jz1 W s T)(d: ∀l∈T,l.length<=1099511627776/\∀t∈l,t.2.size<=1099511627776)(e: ∀(s1:Sl) (s2:Sl) (b:Bool) (W':PW),Ext W W'->((b=true->∃ps,Kj9 T exp ps/\T.length<=4/\Ps W' s1 ps/\RPs W' s2 ps))->K (.tuple ⟨[Sl.v s1,Sl.v s2,.bool b]⟩) W'):
  Aa1 Tryz.prog W0 M 9 [s.v,.int .i64 exp] W K:=
 Mi4 (λ _ c=>Kh1 (h.ext c) d) fun | _,W',c,⟨s1,s2,b,rfl,h⟩=>e s1 s2 b W' c h
end Go.Proofs.YtkgeopnakkcdoaaGreatDoor
namespace Go.Proofs.YtkgeopnakkcdoaaGreatDoor
open Go Go.SX
variable {K:Value->PW->Prop}{M:Nat->Prop}{W W0:PW}{m:Nat->Nat->Rat}{n0 r:Nat}{s:Sl}
theorem Gy4 {t:TypeId}(W:PW)(c:Nat):Qs t W (List.replicate c [.slice none 0 0,.bool false,.slice none 0 0]) c (λ _=>0):=
 ⟨by simp,λ i hi=>⟨⟨none,0,0⟩,false,⟨none,0,0⟩,by simp[hi],Ar9 W⟩⟩
def Ha8 (n0:Nat) (W0:PW) (r c:Nat) (l:List PL) (W:PW):Prop:=
 match l with
 | [.val (.int .i64 i),.row l3]=>Ext W0 W/\∃(k:Nat) (d:List Sl),i=(k:Int)/\k<=r/\d.length=k/\l3=(d.map λ x=>[x.v]) ++ List.replicate (r-k) [.slice none 0 0]/\
   (∀i (h:i<d.length),∃xs,Go.SX.Own W 50 3 d[i] xs/\Qs 257 W xs c (λ _=>0)/\∀g,d[i].v.ownBlock=some g->n0<=g)/\
   ∀i j (hi:i<d.length) (e:j<d.length),i≠j->∀g,d[i].v.ownBlock=some g->d[j].v.ownBlock≠some g
 | _=>False
def Ha5 (r:Nat) (l:List PL) (W:PW):Nat:=
 match l with
 | [.val (.int .i64 i),_]=>r-i.toNat
 | _=>0
theorem Gt9 {c:Nat}(H:Gf6 n0 W0)(hr:r<=1048576)(hc:c<=1048576):
  Aa0 Tryz.prog 93 [.int .i64 (r:Int),.int .i64 (c:Int)] W0 M λ v W'=>∃(s':Sl),v=Sl.v s'/\Gl4 257 50 84 (n0<=·) W' s' r c (λ _ _=>0):=by
 apply Gn9;refine⟨⟨rfl,by omega,by omega⟩,Ha8 n0 W0 r c,Ha5 r,⟨Ext.refl _,0,[],rfl,Nat.zero_le _,rfl,by simp,λ i h=>by simp at h,λ i j h=>by simp at h⟩,?_⟩;rintro l3 i4 W5 ⟨R,k,d,rfl,hk,u,rfl,B,I⟩;rw[List.length_replicate,show Int.toNat (r:Int)=r from rfl,show Int.toNat (c:Int)=c from rfl,show Int.toNat (k:Int)=k from rfl];have hlen:((d.map λ x=>[x.v]) ++ List.replicate (r-k) [Value.slice none 0 0]).length=r:=by simp;omega
 refine⟨λ ad=>⟨⟨rfl,by omega,by omega⟩,⟨by omega,by rw[hlen];omega⟩,λ J S C hO w=>⟨by rw[hlen];omega,by unfold I64;omega,⟨R.trans C,k+1,d ++ [J],by push_cast;rfl,by omega,by simp[u],?_,?_,?_⟩,?_⟩⟩,λ ae U af L hO w ag D=>⟨U,rfl,?_⟩⟩
 ·rw[List.set_append_right _ _ (by simp[u])]
  simp only[List.length_map,u,Nat.sub_self,List.map_append,List.map_cons,List.map_nil];rw[show r-k=(r-(k+1))+1 by omega,List.replicate_succ,List.set_cons_zero];simp
 ·intro i h
  by_cases e:i<d.length
  ·obtain⟨xs,k1,z,A⟩:=B i e
   rw[List.getElem_append_left e];exact⟨xs,k1.ext C,z.ext C,A⟩
  ·have:i=d.length:=by simp at h;omega
   subst this;rw[List.getElem_concat_length rfl];refine⟨_,hO,Gy4 S c,λ g o=>?_⟩;exact Nat.le_trans H (w g o).1
 ·have key: ∀i (hi:i<d.length) g,J.v.ownBlock=some g->d[i].v.ownBlock≠some g:=by
   intro i hi g o n;obtain⟨xs,k1,z,A⟩:=B i hi
   by_cases N:xs = []
   ·have H:=k1.n
    subst N;have h6:=hO.n;rcases k1.1.2.2 with⟨E,_⟩ | ⟨g1,cap,cur,E,_,F,_⟩
    ·rw[E] at n
     simp[Value.ownBlock] at n
    ·have O:d[i].v.ownBlock=some g1:=by rw[E];rfl
     rw[n] at O;cases O;exact k1.2 g n ((w g o).2 (Array.getElem?_eq_some_iff.1 F).1)
   ·obtain⟨g1,cs,_,P,V,F,_⟩:=k1.at N
    rw[n] at P;cases P;exact V ((w g o).2 (Array.getElem?_eq_some_iff.1 F).1)
  intro i j hi X Y g o n;simp only[List.length_append,List.length_cons,List.length_nil] at hi X
  by_cases G:i<d.length
  ·rw[List.getElem_append_left G] at o
   by_cases Q:j<d.length
   ·rw[List.getElem_append_left Q] at n
    exact I i j G Q Y g o n
   ·have:j=d.length:=by omega
    subst this;rw[List.getElem_concat_length rfl] at n;exact key i G g n o
  ·have:i=d.length:=by omega
   subst this;rw[List.getElem_concat_length rfl] at o;rw[List.getElem_append_left (by omega)] at n;exact key j (by omega) g o n
 ·show r-Int.toNat ((k:Int)+1)<r-Int.toNat (k:Int)
  omega
 ·have Z:k=r:=by omega
  subst Z;rw[Nat.sub_self,List.replicate_zero,List.append_nil] at hO;exact⟨d,u,(hO.ext D).row,λ i hi=>let⟨xs,k1,z,A⟩:=B i hi;⟨xs,(k1.ext L).ext D,(z.ext L).ext D,A⟩,I⟩
theorem Gp0 {c:Nat}(e:Gf6 n0 W)(g:r<=1048576)(j:c<=1048576)(n: ∀(s':Sl) (W':PW),Ext W W'->(Gl4 257 50 84 (n0<=·) W' s' r c (λ _ _=>0))->K (Sl.v s') W'):
  Aa1 Tryz.prog W0 M 93 [.int .i64 (r:Int),.int .i64 (c:Int)] W K:=
 Mi4 (λ _ d=>Gt9 (e.ext d) g j) fun | _,W',d,⟨s',rfl,h⟩=>n s' W' d h
def Gf8 (r:Nat) (c:Nat->Nat):Prop:=(∀i,i<r->c i=c 0)/\1<=r/\r<=12/\1<=c 0/\c 0<=12
theorem Gt0 {c:Nat->Nat}(h:Gf9 257 50 84 W0 s r c m)(B:r<=1099511627776):
  Aa0 Tryz.prog 137 [s.v] W0 M λ v W'=>∃(b:Bool),v = .bool b/\(b=true↔Gf8 r c):=by
 apply Gg2;have C:=h.n;refine⟨λ l W=>match l with | [.val (.int .i64 i)]=>Ext W0 W/\∃k:Nat,i=(k:Int)/\k<=r/\∀i,i<k->c i=c 0 | _=>False,λ l _=>match l with | [.val (.int .i64 i)]=>r-i.toNat | _=>0,⟨Ext.refl _,0,rfl,Nat.zero_le _,λ i h=>(by omega)⟩,?_⟩;rintro i3 D ⟨g,k,rfl,hk,j⟩;have d:=h.ext g;refine⟨λ E=>?_,λ F=>⟨λ h1=>⟨λ o=>?_,λ o=>λ G _=>⟨false,rfl,?_⟩⟩,λ h1=>λ H _=>⟨false,rfl,?_⟩⟩⟩
 ·obtain⟨x,u,w⟩:=d.at (i:=k) (by omega)
  obtain⟨y,f1,f2⟩:=d.at (i:=0) (by omega);have I:=w.n;have z:=f2.n;refine⟨d.inB (by omega) (by omega),x,u,d.inB (by omega) (by omega),y,f1,λ J L _=>⟨false,rfl,?_⟩,λ heq=>⟨by unfold I64;omega,⟨g,k+1,by push_cast;rfl,by omega,λ i hi=>?_⟩,?_⟩⟩
  ·refine⟨λ h=>(by cases h),λ h=>?_⟩
   have:=h.1 k (by omega);omega
  ·by_cases e:i=k
   ·subst e;omega
   ·exact j i (by omega)
  ·show r-Int.toNat ((k:Int)+1)<r-Int.toNat (k:Int)
   omega
 ·have N:k=r:=by omega
  obtain⟨y,f1,f2⟩:=d.at (i:=0) (by omega);have z:=f2.n;have n:=d.inB (i:=0) (by omega) (by omega);refine⟨n,y,f1,λ A=>⟨n,y,f1,λ O _=>⟨_,rfl,?_⟩⟩,λ A P _=>⟨false,rfl,?_⟩⟩
  ·rw[decide_eq_true_iff]
   exact⟨λ h=>⟨λ i hi=>j i (by omega),by omega,by omega,by omega,by omega⟩,λ h=>by have:=h.2.2.2.2;omega⟩
  ·refine⟨λ h=>(by cases h),λ h=>?_⟩
   have:=h.2.2.2.1;omega
 ·refine⟨λ h=>(by cases h),λ h=>?_⟩
  have:=h.2.2.1;omega
 ·refine⟨λ h=>(by cases h),λ h=>?_⟩
  have:=h.2.1;omega
theorem Go6 {c:Nat->Nat}(h:Gf9 257 50 84 W s r c m)(e:r<=1099511627776)(g: ∀(b:Bool) (W':PW),Ext W W'->((b=true↔Gf8 r c))->K (.bool b) W'):
  Aa1 Tryz.prog W0 M 137 [s.v] W K:=
 Mi4 (λ _ d=>Gt0 (h.ext d) e) fun | _,W',d,⟨b,rfl,h⟩=>g b W' d h
theorem Gr7 {c:Nat->Nat}(h:Gf9 257 50 84 W0 s r c m)(d:r<=1099511627776):
  Aa0 Tryz.prog 58 [s.v] W0 M λ v W'=>∃(b:Bool),v = .bool b/\(b=true↔Gf8 r c):=by
 apply Gm1;exact Go6 h d λ b g j e=>⟨b,rfl,λ n o=>⟨b,rfl,e⟩⟩
theorem Gn0 {c:Nat->Nat}(h:Gf9 257 50 84 W s r c m)(e:r<=1099511627776)(g: ∀(b:Bool) (W':PW),Ext W W'->((b=true↔Gf8 r c))->K (.bool b) W'):
  Aa1 Tryz.prog W0 M 58 [s.v] W K:=
 Mi4 (λ _ d=>Gr7 (h.ext d) e) fun | _,W',d,⟨b,rfl,h⟩=>g b W' d h
def Ms0:Nat->Nat->Rat:=λ i j=>if i=j then 1 else 0
theorem Mq2 {n:Nat}(w:Gf6 n0 W0)(h1:1<=n)(N:n<=12):
  Aa0 Tryz.prog 56 [.int .i64 (n:Int)] W0 M λ v W'=>∃(s':Sl),v=Sl.v s'/\Gl4 257 50 84 (n0<=·) W' s' n n Ms0:=by
 apply Mo7;have A:mn (mx (n:Int) 1) 12=(n:Int):=by unfold mn mx;split<;>(try split)<;>omega
 rw[A];have B:Gf6 W0.w.heap.size W0:=Nat.le_refl _;refine Gp0 B (by omega) (by omega) λ s3 O P C=>⟨s3,rfl,?_⟩;refine⟨λ l W=>match l with | [.val (.int .i64 i)]=>∃k:Nat,i=(k:Int)/\k<=n/\Gl4 257 50 84 (W0.w.heap.size<=·) W s3 n n (λ a b=>if a=b/\a<k then 1 else 0) | _=>False,λ l _=>match l with | [.val (.int .i64 i)]=>n-i.toNat | _=>0,⟨0,rfl,Nat.zero_le _,C.congr λ i j _ _=>by simp⟩,?_⟩;rintro i6 Q ⟨k,rfl,hk,c⟩;have R:=c.mat.n;refine⟨λ S=>?_,λ U V D=>⟨s3,rfl,?_⟩⟩
 ·obtain⟨x,u,d⟩:=c.mat.at (i:=k) (by omega)
  refine⟨c.mat.inB (by omega) (by omega),x,u,Ay8 (z:=1) (by unfold I64;omega) λ E F G X h H=>⟨E,F,G,rfl,h,(d.ext h).inB (by omega) (by omega),?_⟩⟩;have I:=c.ext h;have J:=u.ext h;refine I.store (j:=k) J (by omega) (by omega) H (by decide) (by decide) (λ g o=>.inr o) λ Y _ L=>⟨by unfold I64;omega,⟨k+1,by push_cast;rfl,by omega,L.congr λ a b Z hb=>?_⟩,?_⟩
  ·unfold Ha2
   by_cases e:a=k/\b=k
   ·rw[if_pos e,if_pos (by omega)];rfl
   ·rw[if_neg e]
    dsimp only
    by_cases d:a=b/\a<k
    ·rw[if_pos d,if_pos (by omega)]
    ·rw[if_neg d,if_neg (by omega)]
  ·show n-Int.toNat ((k:Int)+1)<n-Int.toNat (k:Int)
   omega
 ·refine((c.ext D).mono λ g o=>Nat.le_trans w o).congr λ i j hi hj=>?_
  unfold Ms0
  by_cases e:i=j
  ·rw[if_pos e,if_pos ⟨e,by omega⟩]
  ·rw[if_neg e,if_neg (by omega)]
theorem Mj8 {n:Nat}(d:Gf6 n0 W)(h1:1<=n)(e:n<=12)(g: ∀(s':Sl) (W':PW),Ext W W'->(Gl4 257 50 84 (n0<=·) W' s' n n Ms0)->K (Sl.v s') W'):
  Aa1 Tryz.prog W0 M 56 [.int .i64 (n:Int)] W K:=
 Mi4 (λ _ c=>Mq2 (d.ext c) h1 e) fun | _,W',c,⟨s',rfl,h⟩=>g s' W' c h
end Go.Proofs.YtkgeopnakkcdoaaGreatDoor
