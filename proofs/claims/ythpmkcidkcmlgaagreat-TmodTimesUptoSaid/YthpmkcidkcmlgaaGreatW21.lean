/- cincturelaw15.TmodTimes answers true for every input whose bulk is at most 1048576 (the second form), and its arguments read behind the call as they did ahead of it. -/
import Derived.Test.YthpmkcidkcmlgaaGreatW20
import Derived.Test.YthpmkcidkcmlgaaGreatLib4
set_option linter.unusedVariables false
set_option linter.unusedSimpArgs false
set_option maxRecDepth 100000
set_option linter.unusedVariables false
set_option linter.unusedSimpArgs false
namespace Go.Proofs.YthpmkcidkcmlgaaGreat
open Go Go.SX Go.ChangeShapes Go.WideShapes Go.ChangeAt Go.RowKit Go.Deep
theorem contract (H:Type) (enc:TypeId×Value→H) (W:World) (base:Nat) (args:Array Value) (ds gs:List (DataW H)) (before:List MemPlace)
  (hval: ∀(j:Nat) t v,Go.Proofs.Tryz.f7.params[j]?=some t→args[j]?=some v→Value.okWide Go.Proofs.Tryz.prog W .any base t v)
  (hW:DataW.Whole enc Go.Proofs.Tryz.prog Go.Proofs.Tryz.f7.params.toList Rows.tmodTimesSpec.vars false W args.toList ds gs before) (hk:Rows.uptoSmall H (ds ++ gs)=true):
  Calls Go.Proofs.Tryz.prog 7 args W fun e W'=>∃v,e = .returned v∧Rows.tmodTimesSpec.post enc Go.Proofs.Tryz.prog Go.Proofs.Tryz.f7 false true false false W args v W':=by
 have hW':=hW
 obtain⟨p,q,hA0,hV,rfl,hfz,hnd⟩:=hW
 have hA:DataW.TrodAll enc Go.Proofs.Tryz.prog W 0 (fun _=>true) true Go.Proofs.Tryz.f7.params.toList args.toList ds p:=hA0
 rw[Go.Proofs.Tryz.params7] at hA hval
 obtain⟨v0,vs0,d0,ds0,p0,q0,hargs,rfl,rfl,h0,r0⟩:=trodAll_cons hA
 obtain⟨v1,vs1,d1,ds1,p1,q1,rfl,rfl,rfl,h1,r1⟩:=trodAll_cons r0
 obtain⟨v2,vs2,d2,ds2,p2,q2,rfl,rfl,rfl,h2,r2⟩:=trodAll_cons r1
 obtain⟨v3,vs3,d3,ds3,p3,q3,rfl,rfl,rfl,h3,r3⟩:=trodAll_cons r2
 obtain⟨rfl,rfl,rfl⟩:=trodAll_nil r3
 obtain rfl:args = #[v0,v1,v2,v3]:=by cases args;simp_all
 obtain⟨rfl,rfl⟩:=trodVars_none hV
 obtain⟨⟨l0⟩,rfl,hx0⟩:=three_pairs_of (hval 0 112 v0 rfl rfl)
 obtain⟨z1,rfl⟩:=okWide_int Go.Proofs.Tryz.underlying3 (hval 1 3 v1 rfl rfl)
 obtain⟨⟨l2⟩,rfl,hx2⟩:=model_of (hval 2 114 v2 rfl rfl)
 obtain⟨y3,rfl⟩:=okWide_bool Go.Proofs.Tryz.underlying4 (hval 3 4 v3 rfl rfl)
 clear hA0
 simp only[List.append_nil] at hW' hk
 have hlt: ∀x∈p0 ++ (p1 ++ (p2 ++ p3)),x.block<W.heap.size:=fun x hx=>by simpa using hW'.lt x (by simpa using hx)
 have hbulk:Rows.uptoBulkAll [d0,d1,d2,d3]≤1048576:=of_decide_eq_true hk
 simp only[Rows.uptoBulkAll] at hbulk
 have h0k:=h0
 obtain⟨fuel0,hf0⟩:=h0
 have hf0':DataW.trod enc Go.Proofs.Tryz.prog W 0 (fun _=>true) true fuel0 112 l0=some (d0,p0):=by simpa[Value.cells] using hf0
 obtain⟨xa0,xb0,xc0,xd0,xe0,xf0,rfl,hxa0,hxb0,hxc0⟩:=open_three_pairs hf0' hx0
 have h1k:=h1
 have h2k:=h2
 obtain⟨fuel2,hf2⟩:=h2
 have hf2':DataW.trod enc Go.Proofs.Tryz.prog W 0 (fun _=>true) true fuel2 114 l2=some (d2,p2):=by simpa[Value.cells] using hf2
 obtain⟨s2,L2,xa2,xb2,rfl,hL2,⟨hb2,hc2⟩,hxa2,hxb2⟩:=open_model hf2' hx2
 have h3k:=h3
 have hc:=tmodTimes_ok (M:=fun _=>False) (n:=z1) (y:=y3) (q0:=xa0) (q1:=xb0) (q2:=xc0) (r0:=xd0) (r1:=xe0) (r2:=xf0) (x2a:=xa2) (x2b:=xb2) hL2 (by omega) (by omega) (by omega) (by omega) (by omega) (by omega) (by omega) (fun t ht=>by have:=hc2 t ht;omega) (by omega) (by omega)
 have hcall:=hc.2 (fun b h=>h.elim)
 skip
 refine hcall.mono fun e W' ⟨v,he,hkeep,hv,_⟩=>⟨v,he,?_⟩
 subst hv
 have hbel:=hkeep.below
 refine⟨[d0,d1,d2,d3],[],_,[],p0 ++ (p1 ++ (p2 ++ p3)),[],(by skip;simpa using hW'),trodAll_mk1 (shut_bool Go.Proofs.Tryz.underlying4 _),(by skip;exact trodAll_cons_mk (Below.trod laidOut (by kernel_rfl) (of_decide_eq_true (by kernel_rfl)) h0k hbel fun x hx=>hlt x (by simp[hx])) (trodAll_mk3 (Below.trod laidOut (by kernel_rfl) (of_decide_eq_true (by kernel_rfl)) h1k hbel fun x hx=>hlt x (by simp[hx])) (Below.trod laidOut (by kernel_rfl) (of_decide_eq_true (by kernel_rfl)) h2k hbel fun x hx=>hlt x (by simp[hx])) (Below.trod laidOut (by kernel_rfl) (of_decide_eq_true (by kernel_rfl)) h3k hbel fun x hx=>hlt x (by simp[hx])))),rfl,hbel.frame _,fun h=>by cases h⟩
theorem lifted (os:Os) (started:os.Started) (H:Type) (enc:TypeId×Value→H) (F:Stop.Interp):
  ReturnsInHanded {} Go.Proofs.Tryz.checked os 7 .any ((Rows.OpenSpec.upto Rows.tmodTimesSpec).pre6 enc Go.Proofs.Tryz.prog Go.Proofs.Tryz.f7 Rows.tmodTimesUptoRow.domain false) (((Rows.OpenSpec.upto Rows.tmodTimesSpec).at F).post enc Go.Proofs.Tryz.prog Go.Proofs.Tryz.f7 false true false false):=by
 refine returnsInHanded_of_cond (C:=Go.Proofs.Tryz.checked) (s:=Rows.OpenSpec.upto Rows.tmodTimesSpec) (k:=Rows.uptoSmall) rfl ownKnob_none started (by kernel_rfl) Go.Proofs.Tryz.func7
  (OpenSpec.witness (enc:=enc) (C:=Go.Proofs.Tryz.checked) (s:=Rows.OpenSpec.upto Rows.tmodTimesSpec) (k:=Rows.uptoSmall) rfl false ⟨#[],#[.agg ⟨[.string ⟨#[]⟩,.string ⟨#[]⟩,.string ⟨#[]⟩,.string ⟨#[]⟩,.string ⟨#[]⟩,.string ⟨#[]⟩]⟩,.int .i64 0,.agg ⟨[.slice none 0 0,.string ⟨#[]⟩,.string ⟨#[]⟩]⟩,.bool false],[]⟩ 8 (by kernel_rfl) (by kernel_rfl) (by kernel_rfl)
   (x:=([.agg [.agg [.lit (.string []),.lit (.string [])],.agg [.lit (.string []),.lit (.string [])],.agg [.lit (.string []),.lit (.string [])]],.lit (.int .i64 0),.agg [.nil,.agg [.lit (.string []),.lit (.string [])]],.lit (.bool false)],[],[])) (by kernel_rfl) rfl (by kernel_rfl)) ?_
 intro W base args ds gs before hval hW _ hk _
 exact contract H enc W base args ds gs before hval hW hk
theorem row_f0:facts0 Go.Proofs.Tryz.checked.prog 7 Go.Proofs.Tryz.f7 (Rows.OpenSpec.upto Rows.tmodTimesSpec).bare Rows.tmodTimesUptoRow=true:=by kernel_rfl
theorem row_f1:facts1 Go.Proofs.Tryz.checked.prog 7 Go.Proofs.Tryz.f7 (Rows.OpenSpec.upto Rows.tmodTimesSpec).bare Rows.tmodTimesUptoRow=true:=by kernel_rfl
theorem row_f2:facts2 Go.Proofs.Tryz.checked.prog 7 Go.Proofs.Tryz.f7 (Rows.OpenSpec.upto Rows.tmodTimesSpec).bare Rows.tmodTimesUptoRow=true:=by kernel_rfl
theorem row_f3:facts3 Go.Proofs.Tryz.checked.prog 7 Go.Proofs.Tryz.f7 (Rows.OpenSpec.upto Rows.tmodTimesSpec).bare Rows.tmodTimesUptoRow=true:=by kernel_rfl
theorem row_f4:facts4 Go.Proofs.Tryz.checked.prog 7 Go.Proofs.Tryz.f7 (Rows.OpenSpec.upto Rows.tmodTimesSpec).bare Rows.tmodTimesUptoRow=true:=by kernel_rfl
theorem tmodTimes_holds:Rows.TmodTimesUptoSaid:=
 OpenClaim.holds_of_cond 7 Go.Proofs.Tryz.f7 rfl rfl rfl rfl rfl rfl rfl ⟨rfl,rfl,rfl,rfl,rfl⟩ rfl rfl rfl rfl rfl (by kernel_rfl) Go.Proofs.Tryz.func7 (joined_of row_f0 row_f1 row_f2 row_f3 row_f4)
  (of_decide_eq_true (by kernel_rfl)) (by unfold Func.isWrapper;first | (rw[if_pos (by decide +kernel)];kernel_rfl) | (rw[if_neg (by decide +kernel)];exact⟨rfl,rfl⟩))
  (fun os started H enc _ F=>lifted os started H enc F)
#print axioms tmodTimes_holds
end Go.Proofs.YthpmkcidkcmlgaaGreat
