/- Proved here: KrawJacobiUptoCardSaid, the given statement of this seat, whole, with no hypothesis ahead of it; its own condition is the bound on the arguments' bulk that it states itself. -/
import Derived.Test.YtkgeopnakkcdoaaGreatDoorW13
import Derived.Test.YtkgeopnakkcdoaaGreatDoorCards
import Derived.Test.YtkgeopnakkcdoaaGreatDoorTie
import Derived.Deep.DeepHandedRow
import Derived.Lib.LaidTab
import Derived.Test.YtkgeopnakkcdoaaGreatDoorLib4
set_option linter.unusedVariables false
set_option linter.unusedSimpArgs false
set_option maxRecDepth 100000
namespace Go.Proofs.YtkgeopnakkcdoaaGreatDoor
open Go Go.SX Go.ChangeShapes Go.WideShapes Go.ChangeAt Go.RowKit Go.Deep
theorem Fs9:Tryz.prog.globalNamed "math/bits.deBruijn32tab" = some 1:=by kernel_rfl
theorem Ew9:(Tryz.prog.globals[1]?).map (·.type)=some 351:=by kernel_rfl
theorem Ev1:Tryz.prog.cellsOf 351=32:=by kernel_rfl
theorem Fh1:Tryz.prog.cellsOf 5=1:=by kernel_rfl
theorem Fr5 {W:World}(h:laidMetH Tryz.prog Rows.krawJacobiUptoRow.laid W):Ac6 ⟨W,λ _=>False⟩:=by
 have c:Go.Lib.TabIs Tryz.prog W "math/bits.deBruijn32tab" .u8 (Go.Lib.deBruijn32tab.map λ n:Nat=>(n:Int)):=Go.Lib.tabIs_of_head (rest:=[]) Fs9 Ew9 Tryz.underlying351 Tryz.underlying5 Fh1 Ev1 h;have a: ∀j,j<32->W.cell? ⟨1,j,none⟩=some (.int .u8 ((Go.Lib.deBruijn32tab.getD j 0:Nat):Int)):=λ j b=>by
  rw[c.cell Fs9 j (by simpa[Go.Lib.deBruijn32tab] using b)];have d: ∀j,j<32->(Go.Lib.deBruijn32tab.map λ n:Nat=>(n:Int)).getD j 0=((Go.Lib.deBruijn32tab.getD j 0:Nat):Int):=by decide
  rw[d j b]
 refine⟨a,?_,λ h=>h⟩;have:=a 0 (by omega);unfold World.cell? at this;split at this
 ·rename_i e
  exact(Array.getElem?_eq_some_iff.1 e).1
 ·cases this
theorem Fa3 (H:Type)(enc:TypeId×Value->H)(W:World)(base:Nat)(args:Array Value)(a gs:List (DataW H))(before:List MemPlace)(i: ∀(j:Nat) t v,Tryz.f4.params[j]?=some t->args[j]?=some v->Value.okWide Tryz.prog W .any base t v)(k:DataW.Whole enc Tryz.prog Tryz.f4.params.toList Rows.krawJacobiSpec.vars false W args.toList a gs before)(hk:Rows.uptoSmall H (a ++ gs)=true)(w:laidMetH Tryz.prog Rows.krawJacobiUptoRow.laid W):
  Calls Tryz.prog 4 args W λ e W'=>∃v,e = .returned v/\Rows.krawJacobiSpec.post enc Tryz.prog Tryz.f4 false true false false W args v W':=by
 have c:=k;obtain⟨p,q,m,y,rfl,Q,R⟩:=k;have n:DataW.TrodAll enc Tryz.prog W 0 (λ _=>true) true Tryz.f4.params.toList args.toList a p:=m;rw[Tryz.params4] at n i;obtain⟨v0,S,d0,T,d,U,V,rfl,rfl,o,z⟩:=trodAll_cons n;obtain⟨rfl,rfl,rfl⟩:=trodAll_nil z;obtain rfl:args = #[v0]:=by cases args;simp_all
 obtain⟨rfl,rfl⟩:=trodVars_none y;obtain⟨a0,A,B,rfl⟩:=okWide_slice Tryz.underlying22 (i 0 22 v0 rfl rfl);clear m;simp only[List.append_nil] at c hk;have C: ∀x∈d,x.block<W.heap.size:=λ x f=>by simpa using c.lt x (by simpa using f)
 have D:Rows.uptoBulkAll [d0]<=1048576:=of_decide_eq_true hk;simp only[Rows.uptoBulkAll] at D;have E:=o;obtain⟨F,G⟩:=o;have I:DataW.trod enc Tryz.prog W 0 (λ _=>true) true F 22 [.slice a0 A B]=some (d0,d):=by simpa[Value.cells] using G
 obtain⟨s0,X,g,J,Y,r⟩:=Kk2 I;have K:=Mu4 (M:=λ _=>False) (Fr5 w) J (λ l s=>⟨by have:=(r l s).1;omega,λ t L=>by have:=(r l s).2 t L;omega⟩);have N:=K.2 (λ b h=>h.elim);rw[g];refine N.mono λ e W' ⟨v,he,O,P,_⟩=>⟨v,he,?_⟩;subst P;have u:=O.below;refine⟨[d0],[],_,[],d,[],(by rw[<-g];simpa using c),trodAll_mk1 (shut_bool Tryz.underlying4 _),(by rw[<-g];exact trodAll_mk1 (Below.trod laidOut (by kernel_rfl) (of_decide_eq_true (by kernel_rfl)) E u λ x f=>C x (by simp[f]))),rfl,u.frame _,λ h=>by cases h⟩
noncomputable def Bu8 (os:Os):World:=
 {World.holding Tryz.prog os ⟨#[],#[],[]⟩ with heap:=(World.holding Tryz.prog os ⟨#[],#[],[]⟩).heap.modify 1 fun
   | .cells _ t frozen=>.cells #[.int .u8 0,.int .u8 1,.int .u8 28,.int .u8 2,.int .u8 29,.int .u8 14,.int .u8 24,.int .u8 3,.int .u8 30,.int .u8 22,.int .u8 20,.int .u8 15,.int .u8 25,.int .u8 17,.int .u8 4,.int .u8 8,.int .u8 31,.int .u8 27,.int .u8 13,.int .u8 23,.int .u8 21,.int .u8 19,.int .u8 16,.int .u8 7,.int .u8 26,.int .u8 12,.int .u8 18,.int .u8 6,.int .u8 11,.int .u8 5,.int .u8 10,.int .u8 9] t frozen
   | o=>o }
theorem Fa2 (os:Os):laidMet Tryz.prog Rows.krawJacobiUptoRow.laid ((Bu8 os).forCall (λ _ _=>0) ⟨#[],#[.slice none 0 0],[]⟩).memory:=
 laidMet_of_run' 8 (by kernel_rfl) (by kernel_rfl)
theorem reads {H:Type}(os:Os)(enc:TypeId×Value->H): ∃places,DataW.whole enc Tryz.prog ((Bu8 os).forCall (λ _ _=>0) ⟨#[],#[.slice none 0 0],[]⟩).memory Tryz.f4.params.toList Rows.krawJacobiSpec.vars false (#[.slice none 0 0]:Array Value).toList 8=some ([.nil],[],places):=
 ⟨[],by kernel_rfl⟩
theorem lifted (os:Os)(started:os.Started)(H:Type)(enc:TypeId×Value->H)(F:Stop.Interp):
  ReturnsInHanded {} Tryz.checked os 4 .any ((Rows.OpenSpec.upto Rows.krawJacobiSpec).preRow enc Tryz.prog Tryz.f4 Rows.krawJacobiUptoRow.domain false Rows.krawJacobiUptoRow.laid) (((Rows.OpenSpec.upto Rows.krawJacobiSpec).at F).post enc Tryz.prog Tryz.f4 false true false false):=by
 obtain⟨places,a⟩:=reads os enc;refine returnsInHanded_of_row (C:=Tryz.checked) (s:=Rows.OpenSpec.upto Rows.krawJacobiSpec) Cp9 started (by kernel_rfl) Tryz.func4
  (witness_row_at (enc:=enc) (C:=Tryz.checked) false (Bu8 os) #[.slice none 0 0] rfl (by kernel_rfl) (by kernel_rfl) (by kernel_rfl)
   (OpenSpec.preRow_of_cond 8 a (by kernel_rfl) (λ k hk=>by cases hk;kernel_rfl) (by kernel_rfl) (Fa2 os))) ?_
 intro W base args b gs before c d _ e _ f _ _;exact Fa3 H enc W base args b gs before c d (e _ rfl) f
theorem Fj9:Fc7 Tryz.checked.prog 4 Tryz.f4 (Rows.OpenSpec.upto Rows.krawJacobiSpec).bare Rows.krawJacobiUptoRow=true:=by kernel_rfl
theorem Fl9:Fd9 Tryz.checked.prog 4 Tryz.f4 (Rows.OpenSpec.upto Rows.krawJacobiSpec).bare Rows.krawJacobiUptoRow=true:=by kernel_rfl
theorem Fl2:Fe1 Tryz.checked.prog 4 Tryz.f4 (Rows.OpenSpec.upto Rows.krawJacobiSpec).bare Rows.krawJacobiUptoRow=true:=by kernel_rfl
theorem Fn7:Fd2 Tryz.checked.prog 4 Tryz.f4 (Rows.OpenSpec.upto Rows.krawJacobiSpec).bare Rows.krawJacobiUptoRow=true:=by kernel_rfl
theorem Fj6:Fd4 Tryz.checked.prog 4 Tryz.f4 (Rows.OpenSpec.upto Rows.krawJacobiSpec).bare Rows.krawJacobiUptoRow=true:=by kernel_rfl
theorem Et8:Rows.KrawJacobiUptoSaid:=
 OpenClaim.holds_of_cond 4 Tryz.f4 rfl rfl rfl rfl rfl rfl rfl ⟨rfl,rfl,rfl,rfl,rfl⟩ rfl rfl rfl rfl rfl (by kernel_rfl) Tryz.func4 (Eo7 Fj9 Fl9 Fl2 Fn7 Fj6)
  (of_decide_eq_true (by kernel_rfl)) (by unfold Func.isWrapper;first | (rw[if_pos (by decide +kernel)];kernel_rfl) | (rw[if_neg (by decide +kernel)];exact⟨rfl,rfl⟩))
  (λ os started H enc _ F=>by rw[OpenClaim.pre_eq_preRow];exact lifted os started H enc F)
theorem plain (f:FuncId)(fn:Func)(b:Tryz.pinned.checked.prog.funcNamed "cincture/cincturelaw12.KrawJacobi" = some f)(e:Tryz.pinned.checked.prog.funcs[f]?=some fn):
  false=Tryz.pinned.checked.prog.looks []/\∀(j:Nat) t,fn.params[j]?=some t->Tryz.pinned.checked.prog.wantsStandIn t=false:=by
 obtain rfl:f=4:=Option.some.inj ((show Tryz.prog.funcNamed "cincture/cincturelaw12.KrawJacobi" = some 4 by kernel_rfl).symm.trans b) |>.symm;obtain rfl:fn=Tryz.f4:=(Option.some.inj (Tryz.func4.symm.trans e)).symm;refine⟨by kernel_rfl,λ j t a=>?_⟩;rw[Tryz.params4] at a;have hm:t∈[22]:=by simpa using Array.mem_of_getElem? a
 have g:([22].all λ u=>!Tryz.prog.wantsStandIn u)=true:=by kernel_rfl
 exact(show Tryz.prog.wantsStandIn t=false by simpa using List.all_eq_true.1 g t hm)
theorem krawJacobi_card:Rows.KrawJacobiUptoCardSaid:=
 Claim7.holds_tied_plain_at .later [] _ _ _ _ Et8 (λ _ h=>by cases h) (by kernel_rfl) (λ _ h=>by cases h) krawJacobiUpto_row_tie rfl ⟨rfl,rfl⟩ (by kernel_rfl) rfl plain (by kernel_rfl)
#print axioms krawJacobi_card
end Go.Proofs.YtkgeopnakkcdoaaGreatDoor
