/- Proved here: KrawInsideUptoCardSaid, the given statement of this seat, whole, with no hypothesis ahead of it; its own condition is the bound on the arguments' bulk that it states itself. -/
import Derived.Test.YtkgeopnakkcdoaaGreatDoorW13
import Derived.Test.YtkgeopnakkcdoaaGreatDoorW11
import Derived.Test.YtkgeopnakkcdoaaGreatDoorCards
import Derived.Test.YtkgeopnakkcdoaaGreatDoorTie
import Derived.Deep.DeepHandedRow
import Derived.Lib.LaidTab
import Derived.Test.YtkgeopnakkcdoaaGreatDoorLib4
set_option linter.unusedVariables false
set_option linter.unusedSimpArgs false
set_option maxRecDepth 100000
namespace Go.Proofs.YtkgeopnakkcdoaaGreatDoor
open Go Go.SX Go.ChangeShapes Go.WideShapes Go.ChangeAt Go.RowKit Go.Deep
theorem Mp5:Tryz.prog.cellsOf 76=1:=by kernel_rfl
theorem Mp9 {H:Type}{W:World}{fuel:Nat}{p:List MemPlace}{enc:TypeId×Value->H}{v:Value}{d:DataW H}(h:DataW.trod enc Tryz.prog W 0 (λ _=>true) true fuel 23 [v]=some (d,p)):
  ∃(s:Sl) (T:List (List ByteArray)),v=s.v/\Go3 ⟨W,λ _=>False⟩ s T/\T.length<=Rows.uptoBulk d/\∀l∈T,l.length<=Rows.uptoBulk d/\∀t∈l,t.size<=Rows.uptoBulk d:=by
 rcases open_slice1 Tryz.underlying23 Mp5 h with⟨f,g⟩ | ⟨a,len,cap,m,n,V,D,C,f,_,k,hm,q,g,r⟩
 ·have o:v = .slice none 0 0:=by simpa using f
  subst o;exact⟨⟨none,0,0⟩,[],rfl,⟨[],⟨0,rfl,Nat.le_refl _,Nat.zero_le _,λ x h=>by simp at h,.inl rfl⟩,rfl,λ i h=>by simp at h⟩,Nat.zero_le _,λ l h=>by simp at h⟩
 ·have o:v = .slice (some a) len cap:=by simpa using f
  subst o;simp only[if_true] at q;subst q;simp only[Prod.mk.injEq] at g;obtain⟨rfl,_⟩:=g;obtain⟨y,c⟩:=choose_lt (λ i hi=>Il1 (r i hi).2);have u:=Ig6 (V:=V) (λ j b=>(r j (by omega)).1) k hm (λ j b=>by rw[(c j (by omega)).1];rfl);have w: ∀i,i<len->Rows.uptoBulk (D i)<=Rows.uptoBulkAll ((List.range len).map D):=λ i hi=>Eo6 (List.mem_map.2 ⟨i,List.mem_range.2 hi,rfl⟩);have hlen:=Dj1 ((List.range len).map D);simp only[List.length_map,List.length_range] at hlen;refine⟨⟨some a,len,m⟩,(List.range len).map λ i=>(y i).2,rfl,⟨(List.range len).map λ i=>(y i).1,?_,by simp,λ i hi E=>?_⟩,?_,λ l k=>?_⟩
  ·have e:(((List.range len).map λ i=>(y i).1).map λ x=>[x.v])=(List.range len).map λ j=>[V j]:=by
    rw[List.map_map];apply List.map_congr_left;intro j b;have:=(c j (by have:=List.mem_range.1 b;omega)).1;simp[this]
   rw[e];exact u
  ·have F:i<len:=by simpa using hi
   simp only[List.getElem_map,List.getElem_range];exact(c i (by omega)).2.1
  ·simp only[List.length_map,List.length_range,Rows.uptoBulk]
   omega
  ·obtain⟨j,b,rfl⟩:=List.mem_map.1 k
   have z:=List.mem_range.1 b;have h1:=w j z;obtain⟨_,_,G,A⟩:=c j (by omega);simp only[Rows.uptoBulk];refine⟨by omega,λ t B=>?_⟩;have:=A t B;omega
end Go.Proofs.YtkgeopnakkcdoaaGreatDoor
namespace Go.Proofs.YtkgeopnakkcdoaaGreatDoor
open Go Go.SX Go.ChangeShapes Go.WideShapes Go.ChangeAt Go.RowKit Go.Deep
theorem Fs9:Tryz.prog.globalNamed "math/bits.deBruijn32tab" = some 1:=by kernel_rfl
theorem Ew9:(Tryz.prog.globals[1]?).map (·.type)=some 351:=by kernel_rfl
theorem Ev1:Tryz.prog.cellsOf 351=32:=by kernel_rfl
theorem Fh1:Tryz.prog.cellsOf 5=1:=by kernel_rfl
theorem Fr5 {W:World}(h:laidMetH Tryz.prog Rows.krawInsideUptoRow.laid W):Ac6 ⟨W,λ _=>False⟩:=by
 have c:Go.Lib.TabIs Tryz.prog W "math/bits.deBruijn32tab" .u8 (Go.Lib.deBruijn32tab.map λ n:Nat=>(n:Int)):=Go.Lib.tabIs_of_head (rest:=[]) Fs9 Ew9 Tryz.underlying351 Tryz.underlying5 Fh1 Ev1 h;have a: ∀j,j<32->W.cell? ⟨1,j,none⟩=some (.int .u8 ((Go.Lib.deBruijn32tab.getD j 0:Nat):Int)):=λ j b=>by
  rw[c.cell Fs9 j (by simpa[Go.Lib.deBruijn32tab] using b)];have d: ∀j,j<32->(Go.Lib.deBruijn32tab.map λ n:Nat=>(n:Int)).getD j 0=((Go.Lib.deBruijn32tab.getD j 0:Nat):Int):=by decide
  rw[d j b]
 refine⟨a,?_,λ h=>h⟩;have:=a 0 (by omega);unfold World.cell? at this;split at this
 ·rename_i e
  exact(Array.getElem?_eq_some_iff.1 e).1
 ·cases this
theorem Fa3 (H:Type)(enc:TypeId×Value->H)(W:World)(base:Nat)(args:Array Value)(i gs:List (DataW H))(before:List MemPlace)(f: ∀(j:Nat) t v,Tryz.f3.params[j]?=some t->args[j]?=some v->Value.okWide Tryz.prog W .any base t v)(y:DataW.Whole enc Tryz.prog Tryz.f3.params.toList Rows.krawInsideSpec.vars false W args.toList i gs before)(hk:Rows.uptoSmall H (i ++ gs)=true)(F:laidMetH Tryz.prog Rows.krawInsideUptoRow.laid W):
  Calls Tryz.prog 3 args W λ e W'=>∃v,e = .returned v/\Rows.krawInsideSpec.post enc Tryz.prog Tryz.f3 false true false false W args v W':=by
 have k:=y;obtain⟨p,q,z,G,rfl,am,an⟩:=y;have A:DataW.TrodAll enc Tryz.prog W 0 (λ _=>true) true Tryz.f3.params.toList args.toList i p:=z;rw[Tryz.params3] at A f;obtain⟨v0,ao,d0,ap,m,q0,ar,rfl,rfl,B,I⟩:=trodAll_cons A;obtain⟨v1,au,d1,ds1,n,q1,rfl,rfl,rfl,h1,r1⟩:=trodAll_cons I;obtain⟨v2,av,d2,aw,o,q2,rfl,rfl,rfl,C,J⟩:=trodAll_cons r1;obtain⟨rfl,rfl,rfl⟩:=trodAll_nil J;obtain rfl:args = #[v0,v1,v2]:=by cases args;simp_all
 obtain⟨rfl,rfl⟩:=trodVars_none G;obtain⟨a0,K,L,rfl⟩:=okWide_slice Tryz.underlying22 (f 0 22 v0 rfl rfl);obtain⟨N,O,c1,rfl⟩:=okWide_slice Tryz.underlying23 (f 1 23 v1 rfl rfl);obtain⟨a2,P,c2,rfl⟩:=okWide_slice Tryz.underlying24 (f 2 24 v2 rfl rfl);clear z;simp only[List.append_nil] at k hk;have r: ∀x∈m ++ (n ++ o),x.block<W.heap.size:=λ x a=>by simpa using k.lt x (by simpa using a)
 have Q:Rows.uptoBulkAll [d0,d1,d2]<=1048576:=of_decide_eq_true hk;simp only[Rows.uptoBulkAll] at Q;have R:=B;obtain⟨S,T⟩:=B;have U:DataW.trod enc Tryz.prog W 0 (λ _=>true) true S 22 [.slice a0 K L]=some (d0,m):=by simpa[Value.cells] using T
 obtain⟨s0,L0,s,V,az,D⟩:=Kk2 U;have X:=h1;obtain⟨Y,Z⟩:=h1;have aa:DataW.trod enc Tryz.prog W 0 (λ _=>true) true Y 23 [.slice N O c1]=some (d1,n):=by simpa[Value.cells] using Z
 obtain⟨s1,L1,u,ab,aB,E⟩:=Mp9 aa;have ac:=C;obtain⟨ad,ae⟩:=C;have af:DataW.trod enc Tryz.prog W 0 (λ _=>true) true ad 24 [.slice a2 P c2]=some (d2,o):=by simpa[Value.cells] using ae
 obtain⟨s2,L2,w,ag,aD,ah⟩:=Gc9 af;have hc:=Mn9 (M:=λ _=>False) (Fr5 F) V ab ag (λ l c=>⟨by have:=(D l c).1;omega,λ t d=>by have:=(D l c).2 t d;omega⟩) (by omega) (λ l c=>⟨by have:=(E l c).1;omega,λ t d=>by have:=(E l c).2 t d;omega⟩) (by omega) (λ t d=>by have:=ah t d;omega);have aj:=hc.2 (λ b h=>h.elim);rw[s,u,w];refine aj.mono λ e W' ⟨v,he,ak,hv,_⟩=>⟨v,he,?_⟩;subst hv;have g:=ak.below;refine⟨[d0,d1,d2],[],_,[],m ++ (n ++ o),[],(by rw[<-s,<-u,<-w];simpa using k),trodAll_mk1 (shut_bool Tryz.underlying4 _),(by rw[<-s,<-u,<-w];exact trodAll_mk3 (Below.trod laidOut (by kernel_rfl) (of_decide_eq_true (by kernel_rfl)) R g λ x a=>r x (by simp[a])) (Below.trod laidOut (by kernel_rfl) (of_decide_eq_true (by kernel_rfl)) X g λ x a=>r x (by simp[a])) (Below.trod laidOut (by kernel_rfl) (of_decide_eq_true (by kernel_rfl)) ac g λ x a=>r x (by simp[a]))),rfl,g.frame _,λ h=>by cases h⟩
noncomputable def Bu8 (os:Os):World:=
 {World.holding Tryz.prog os ⟨#[],#[],[]⟩ with heap:=(World.holding Tryz.prog os ⟨#[],#[],[]⟩).heap.modify 1 fun
   | .cells _ t frozen=>.cells #[.int .u8 0,.int .u8 1,.int .u8 28,.int .u8 2,.int .u8 29,.int .u8 14,.int .u8 24,.int .u8 3,.int .u8 30,.int .u8 22,.int .u8 20,.int .u8 15,.int .u8 25,.int .u8 17,.int .u8 4,.int .u8 8,.int .u8 31,.int .u8 27,.int .u8 13,.int .u8 23,.int .u8 21,.int .u8 19,.int .u8 16,.int .u8 7,.int .u8 26,.int .u8 12,.int .u8 18,.int .u8 6,.int .u8 11,.int .u8 5,.int .u8 10,.int .u8 9] t frozen
   | o=>o }
theorem Fa2 (os:Os):laidMet Tryz.prog Rows.krawInsideUptoRow.laid ((Bu8 os).forCall (λ _ _=>0) ⟨#[],#[.slice none 0 0,.slice none 0 0,.slice none 0 0],[]⟩).memory:=
 laidMet_of_run' 8 (by kernel_rfl) (by kernel_rfl)
theorem reads {H:Type}(os:Os)(enc:TypeId×Value->H): ∃places,DataW.whole enc Tryz.prog ((Bu8 os).forCall (λ _ _=>0) ⟨#[],#[.slice none 0 0,.slice none 0 0,.slice none 0 0],[]⟩).memory Tryz.f3.params.toList Rows.krawInsideSpec.vars false (#[.slice none 0 0,.slice none 0 0,.slice none 0 0]:Array Value).toList 8=some ([.nil,.nil,.nil],[],places):=
 ⟨[],by kernel_rfl⟩
theorem lifted (os:Os)(started:os.Started)(H:Type)(enc:TypeId×Value->H)(F:Stop.Interp):
  ReturnsInHanded {} Tryz.checked os 3 .any ((Rows.OpenSpec.upto Rows.krawInsideSpec).preRow enc Tryz.prog Tryz.f3 Rows.krawInsideUptoRow.domain false Rows.krawInsideUptoRow.laid) (((Rows.OpenSpec.upto Rows.krawInsideSpec).at F).post enc Tryz.prog Tryz.f3 false true false false):=by
 obtain⟨places,a⟩:=reads os enc;refine returnsInHanded_of_row (C:=Tryz.checked) (s:=Rows.OpenSpec.upto Rows.krawInsideSpec) Cp9 started (by kernel_rfl) Tryz.func3
  (witness_row_at (enc:=enc) (C:=Tryz.checked) false (Bu8 os) #[.slice none 0 0,.slice none 0 0,.slice none 0 0] rfl (by kernel_rfl) (by kernel_rfl) (by kernel_rfl)
   (OpenSpec.preRow_of_cond 8 a (by kernel_rfl) (λ k hk=>by cases hk;kernel_rfl) (by kernel_rfl) (Fa2 os))) ?_
 intro W base args b gs before c d _ e _ f _ _;exact Fa3 H enc W base args b gs before c d (e _ rfl) f
theorem Fj9:Fc7 Tryz.checked.prog 3 Tryz.f3 (Rows.OpenSpec.upto Rows.krawInsideSpec).bare Rows.krawInsideUptoRow=true:=by kernel_rfl
theorem Fl9:Fd9 Tryz.checked.prog 3 Tryz.f3 (Rows.OpenSpec.upto Rows.krawInsideSpec).bare Rows.krawInsideUptoRow=true:=by kernel_rfl
theorem Fl2:Fe1 Tryz.checked.prog 3 Tryz.f3 (Rows.OpenSpec.upto Rows.krawInsideSpec).bare Rows.krawInsideUptoRow=true:=by kernel_rfl
theorem Fn7:Fd2 Tryz.checked.prog 3 Tryz.f3 (Rows.OpenSpec.upto Rows.krawInsideSpec).bare Rows.krawInsideUptoRow=true:=by kernel_rfl
theorem Fj6:Fd4 Tryz.checked.prog 3 Tryz.f3 (Rows.OpenSpec.upto Rows.krawInsideSpec).bare Rows.krawInsideUptoRow=true:=by kernel_rfl
theorem Et8:Rows.KrawInsideUptoSaid:=
 OpenClaim.holds_of_cond 3 Tryz.f3 rfl rfl rfl rfl rfl rfl rfl ⟨rfl,rfl,rfl,rfl,rfl⟩ rfl rfl rfl rfl rfl (by kernel_rfl) Tryz.func3 (Eo7 Fj9 Fl9 Fl2 Fn7 Fj6)
  (of_decide_eq_true (by kernel_rfl)) (by unfold Func.isWrapper;first | (rw[if_pos (by decide +kernel)];kernel_rfl) | (rw[if_neg (by decide +kernel)];exact⟨rfl,rfl⟩))
  (λ os started H enc _ F=>by rw[OpenClaim.pre_eq_preRow];exact lifted os started H enc F)
theorem plain (f:FuncId)(fn:Func)(b:Tryz.pinned.checked.prog.funcNamed "cincture/cincturelaw12.KrawInside" = some f)(e:Tryz.pinned.checked.prog.funcs[f]?=some fn):
  false=Tryz.pinned.checked.prog.looks []/\∀(j:Nat) t,fn.params[j]?=some t->Tryz.pinned.checked.prog.wantsStandIn t=false:=by
 obtain rfl:f=3:=Option.some.inj ((show Tryz.prog.funcNamed "cincture/cincturelaw12.KrawInside" = some 3 by kernel_rfl).symm.trans b) |>.symm;obtain rfl:fn=Tryz.f3:=(Option.some.inj (Tryz.func3.symm.trans e)).symm;refine⟨by kernel_rfl,λ j t a=>?_⟩;rw[Tryz.params3] at a;have hm:t∈[22,23,24]:=by simpa using Array.mem_of_getElem? a
 have g:([22,23,24].all λ u=>!Tryz.prog.wantsStandIn u)=true:=by kernel_rfl
 exact(show Tryz.prog.wantsStandIn t=false by simpa using List.all_eq_true.1 g t hm)
theorem krawInside_card:Rows.KrawInsideUptoCardSaid:=
 Claim7.holds_tied_plain_at .later [] _ _ _ _ Et8 (λ _ h=>by cases h) (by kernel_rfl) (λ _ h=>by cases h) krawInsideUpto_row_tie rfl ⟨rfl,rfl⟩ (by kernel_rfl) rfl plain (by kernel_rfl)
#print axioms krawInside_card
end Go.Proofs.YtkgeopnakkcdoaaGreatDoor
