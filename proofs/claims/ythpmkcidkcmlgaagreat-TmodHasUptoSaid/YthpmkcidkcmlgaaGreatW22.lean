/- An argument of three whole numbers, opened. -/
import Derived.Test.YthpmkcidkcmlgaaGreatW21
import Derived.Test.YthpmkcidkcmlgaaGreatLib4
set_option linter.unusedVariables false
set_option linter.unusedSimpArgs false
set_option maxRecDepth 100000
set_option linter.unusedVariables false
set_option linter.unusedSimpArgs false
namespace Go.Proofs.YthpmkcidkcmlgaaGreat
open Go Go.SX Go.ChangeShapes Go.WideShapes Go.ChangeAt Go.RowKit Go.Deep
theorem three_ints_of {r:Reach} {w:World} {base:Nat} {v:Value} (h:Value.okWide Go.Proofs.Tryz.prog w r base 162 v): ∃xs:Array Value,v = .agg xs∧xs.size=3:=by
 simp only[Value.okWide,Go.Proofs.Tryz.underlying162] at h
 obtain⟨cs,h1,h2,_⟩:=h
 exact⟨cs,h1,by rw[h2];kernel_rfl⟩
theorem cells_int1:Go.Proofs.Tryz.prog.cellsOf 3=1:=by kernel_rfl
theorem open_three_ints {H:Type} {enc:TypeId×Value→H} {W:World} {fuel:Nat} {l:List Value} {d:DataW H} {p:List MemPlace} (h:DataW.trod enc Go.Proofs.Tryz.prog W 0 (fun _=>true) true fuel 162 l=some (d,p)) (hl:l.length=3):
  ∃a b c:Int,l = [.int .i64 a,.int .i64 b,.int .i64 c]:=by
 obtain⟨zs,m,rfl,hx,_,hzl,hz⟩:=DataW.trod_array Go.Proofs.Tryz.underlying162 h
 have e0:=hz 0 (by omega)
 have e1:=hz 1 (by omega)
 have e2:=hz 2 (by omega)
 rw[cells_int1] at e0 e1 e2
 match l,hl,zs,hzl with
 | [v0,v1,v2],_,[w0,w1,w2],_=>
  have e0:DataW.trod enc Go.Proofs.Tryz.prog W 0 (fun _=>true) true m 3 [v0]=some w0:=e0
  have e1:DataW.trod enc Go.Proofs.Tryz.prog W 0 (fun _=>true) true m 3 [v1]=some w1:=e1
  have e2:DataW.trod enc Go.Proofs.Tryz.prog W 0 (fun _=>true) true m 3 [v2]=some w2:=e2
  obtain⟨n0,h0,_⟩:=DataW.trod_int Go.Proofs.Tryz.underlying3 e0
  obtain⟨n1,h1,_⟩:=DataW.trod_int Go.Proofs.Tryz.underlying3 e1
  obtain⟨n2,h2,_⟩:=DataW.trod_int Go.Proofs.Tryz.underlying3 e2
  have k0:v0=Value.int .i64 n0:=(List.cons.inj (show[v0] = [Value.int .i64 n0] from h0)).1
  have k1:v1=Value.int .i64 n1:=(List.cons.inj (show[v1] = [Value.int .i64 n1] from h1)).1
  have k2:v2=Value.int .i64 n2:=(List.cons.inj (show[v2] = [Value.int .i64 n2] from h2)).1
  subst k0 k1 k2
  exact⟨n0,n1,n2,rfl⟩
end Go.Proofs.YthpmkcidkcmlgaaGreat

/- cincturelaw15.TmodHas answers true for every input whose bulk is at most 1048576 (the second form), and its arguments read behind the call as they did ahead of it. -/
set_option maxRecDepth 100000
set_option linter.unusedVariables false
set_option linter.unusedSimpArgs false
namespace Go.Proofs.YthpmkcidkcmlgaaGreat
open Go Go.SX Go.ChangeShapes Go.WideShapes Go.ChangeAt Go.RowKit Go.Deep
theorem contract (H:Type) (enc:TypeId×Value→H) (W:World) (base:Nat) (args:Array Value) (ds gs:List (DataW H)) (before:List MemPlace)
  (hval: ∀(j:Nat) t v,Go.Proofs.Tryz.f10.params[j]?=some t→args[j]?=some v→Value.okWide Go.Proofs.Tryz.prog W .any base t v)
  (hW:DataW.Whole enc Go.Proofs.Tryz.prog Go.Proofs.Tryz.f10.params.toList Rows.tmodHasSpec.vars false W args.toList ds gs before) (hk:Rows.uptoSmall H (ds ++ gs)=true):
  Calls Go.Proofs.Tryz.prog 10 args W fun e W'=>∃v,e = .returned v∧Rows.tmodHasSpec.post enc Go.Proofs.Tryz.prog Go.Proofs.Tryz.f10 false true false false W args v W':=by
 have hW':=hW
 obtain⟨p,q,hA0,hV,rfl,hfz,hnd⟩:=hW
 have hA:DataW.TrodAll enc Go.Proofs.Tryz.prog W 0 (fun _=>true) true Go.Proofs.Tryz.f10.params.toList args.toList ds p:=hA0
 rw[Go.Proofs.Tryz.params10] at hA hval
 obtain⟨v0,vs0,d0,ds0,p0,q0,hargs,rfl,rfl,h0,r0⟩:=trodAll_cons hA
 obtain⟨v1,vs1,d1,ds1,p1,q1,rfl,rfl,rfl,h1,r1⟩:=trodAll_cons r0
 obtain⟨v2,vs2,d2,ds2,p2,q2,rfl,rfl,rfl,h2,r2⟩:=trodAll_cons r1
 obtain⟨v3,vs3,d3,ds3,p3,q3,rfl,rfl,rfl,h3,r3⟩:=trodAll_cons r2
 obtain⟨v4,vs4,d4,ds4,p4,q4,rfl,rfl,rfl,h4,r4⟩:=trodAll_cons r3
 obtain⟨v5,vs5,d5,ds5,p5,q5,rfl,rfl,rfl,h5,r5⟩:=trodAll_cons r4
 obtain⟨v6,vs6,d6,ds6,p6,q6,rfl,rfl,rfl,h6,r6⟩:=trodAll_cons r5
 obtain⟨rfl,rfl,rfl⟩:=trodAll_nil r6
 obtain rfl:args = #[v0,v1,v2,v3,v4,v5,v6]:=by cases args;simp_all
 obtain⟨rfl,rfl⟩:=trodVars_none hV
 obtain⟨⟨l0⟩,rfl,hx0⟩:=three_pairs_of (hval 0 112 v0 rfl rfl)
 obtain⟨z1,rfl⟩:=okWide_int Go.Proofs.Tryz.underlying3 (hval 1 3 v1 rfl rfl)
 obtain⟨⟨l2⟩,rfl,hx2⟩:=model_of (hval 2 114 v2 rfl rfl)
 obtain⟨⟨l3⟩,rfl,hx3⟩:=model_of (hval 3 114 v3 rfl rfl)
 obtain⟨⟨l4⟩,rfl,hx4⟩:=three_ints_of (hval 4 162 v4 rfl rfl)
 obtain⟨z5,rfl⟩:=okWide_int Go.Proofs.Tryz.underlying3 (hval 5 3 v5 rfl rfl)
 obtain⟨z6,rfl⟩:=okWide_int Go.Proofs.Tryz.underlying3 (hval 6 3 v6 rfl rfl)
 clear hA0
 simp only[List.append_nil] at hW' hk
 have hlt: ∀x∈p0 ++ (p1 ++ (p2 ++ (p3 ++ (p4 ++ (p5 ++ p6))))),x.block<W.heap.size:=fun x hx=>by simpa using hW'.lt x (by simpa using hx)
 have hbulk:Rows.uptoBulkAll [d0,d1,d2,d3,d4,d5,d6]≤1048576:=of_decide_eq_true hk
 simp only[Rows.uptoBulkAll] at hbulk
 have h0k:=h0
 obtain⟨fuel0,hf0⟩:=h0
 have hf0':DataW.trod enc Go.Proofs.Tryz.prog W 0 (fun _=>true) true fuel0 112 l0=some (d0,p0):=by simpa[Value.cells] using hf0
 obtain⟨xa0,xb0,xc0,xd0,xe0,xf0,rfl,hxa0,hxb0,hxc0⟩:=open_three_pairs hf0' hx0
 have h1k:=h1
 have h2k:=h2
 obtain⟨fuel2,hf2⟩:=h2
 have hf2':DataW.trod enc Go.Proofs.Tryz.prog W 0 (fun _=>true) true fuel2 114 l2=some (d2,p2):=by simpa[Value.cells] using hf2
 obtain⟨s2,L2,xa2,xb2,rfl,hL2,⟨hb2,hc2⟩,hxa2,hxb2⟩:=open_model hf2' hx2
 have h3k:=h3
 obtain⟨fuel3,hf3⟩:=h3
 have hf3':DataW.trod enc Go.Proofs.Tryz.prog W 0 (fun _=>true) true fuel3 114 l3=some (d3,p3):=by simpa[Value.cells] using hf3
 obtain⟨s3,L3,xa3,xb3,rfl,hL3,⟨hb3,hc3⟩,hxa3,hxb3⟩:=open_model hf3' hx3
 have h4k:=h4
 obtain⟨fuel4,hf4⟩:=h4
 have hf4':DataW.trod enc Go.Proofs.Tryz.prog W 0 (fun _=>true) true fuel4 162 l4=some (d4,p4):=by simpa[Value.cells] using hf4
 obtain⟨xa4,xb4,xc4,rfl⟩:=open_three_ints hf4' hx4
 have h5k:=h5
 have h6k:=h6
 have hc:=tmodHas_ok (M:=fun _=>False) (n:=z1) (i5:=z5) (i6:=z6) (q0:=xa0) (q1:=xb0) (q2:=xc0) (r0:=xd0) (r1:=xe0) (r2:=xf0) (x2a:=xa2) (x2b:=xb2) (x3a:=xa3) (x3b:=xb3) (j0:=xa4) (j1:=xb4) (j2:=xc4) hL2 hL3 (by omega) (by omega) (by omega) (by omega) (by omega) (by omega) (by omega) (fun t ht=>by have:=hc2 t ht;omega) (by omega) (by omega) (by omega) (fun t ht=>by have:=hc3 t ht;omega) (by omega) (by omega)
 have hcall:=hc.2 (fun b h=>h.elim)
 skip
 refine hcall.mono fun e W' ⟨v,he,hkeep,hv,_⟩=>⟨v,he,?_⟩
 subst hv
 have hbel:=hkeep.below
 refine⟨[d0,d1,d2,d3,d4,d5,d6],[],_,[],p0 ++ (p1 ++ (p2 ++ (p3 ++ (p4 ++ (p5 ++ p6))))),[],(by skip;simpa using hW'),trodAll_mk1 (shut_bool Go.Proofs.Tryz.underlying4 _),(by skip;exact trodAll_cons_mk (Below.trod laidOut (by kernel_rfl) (of_decide_eq_true (by kernel_rfl)) h0k hbel fun x hx=>hlt x (by simp[hx])) (trodAll_cons_mk (Below.trod laidOut (by kernel_rfl) (of_decide_eq_true (by kernel_rfl)) h1k hbel fun x hx=>hlt x (by simp[hx])) (trodAll_cons_mk (Below.trod laidOut (by kernel_rfl) (of_decide_eq_true (by kernel_rfl)) h2k hbel fun x hx=>hlt x (by simp[hx])) (trodAll_cons_mk (Below.trod laidOut (by kernel_rfl) (of_decide_eq_true (by kernel_rfl)) h3k hbel fun x hx=>hlt x (by simp[hx])) (trodAll_mk3 (Below.trod laidOut (by kernel_rfl) (of_decide_eq_true (by kernel_rfl)) h4k hbel fun x hx=>hlt x (by simp[hx])) (Below.trod laidOut (by kernel_rfl) (of_decide_eq_true (by kernel_rfl)) h5k hbel fun x hx=>hlt x (by simp[hx])) (Below.trod laidOut (by kernel_rfl) (of_decide_eq_true (by kernel_rfl)) h6k hbel fun x hx=>hlt x (by simp[hx]))))))),rfl,hbel.frame _,fun h=>by cases h⟩
theorem lifted (os:Os) (started:os.Started) (H:Type) (enc:TypeId×Value→H) (F:Stop.Interp):
  ReturnsInHanded {} Go.Proofs.Tryz.checked os 10 .any ((Rows.OpenSpec.upto Rows.tmodHasSpec).pre6 enc Go.Proofs.Tryz.prog Go.Proofs.Tryz.f10 Rows.tmodHasUptoRow.domain false) (((Rows.OpenSpec.upto Rows.tmodHasSpec).at F).post enc Go.Proofs.Tryz.prog Go.Proofs.Tryz.f10 false true false false):=by
 refine returnsInHanded_of_cond (C:=Go.Proofs.Tryz.checked) (s:=Rows.OpenSpec.upto Rows.tmodHasSpec) (k:=Rows.uptoSmall) rfl ownKnob_none started (by kernel_rfl) Go.Proofs.Tryz.func10
  (OpenSpec.witness (enc:=enc) (C:=Go.Proofs.Tryz.checked) (s:=Rows.OpenSpec.upto Rows.tmodHasSpec) (k:=Rows.uptoSmall) rfl false ⟨#[],#[.agg ⟨[.string ⟨#[]⟩,.string ⟨#[]⟩,.string ⟨#[]⟩,.string ⟨#[]⟩,.string ⟨#[]⟩,.string ⟨#[]⟩]⟩,.int .i64 0,.agg ⟨[.slice none 0 0,.string ⟨#[]⟩,.string ⟨#[]⟩]⟩,.agg ⟨[.slice none 0 0,.string ⟨#[]⟩,.string ⟨#[]⟩]⟩,.agg ⟨[.int .i64 0,.int .i64 0,.int .i64 0]⟩,.int .i64 0,.int .i64 0],[]⟩ 8 (by kernel_rfl) (by kernel_rfl) (by kernel_rfl)
   (x:=([.agg [.agg [.lit (.string []),.lit (.string [])],.agg [.lit (.string []),.lit (.string [])],.agg [.lit (.string []),.lit (.string [])]],.lit (.int .i64 0),.agg [.nil,.agg [.lit (.string []),.lit (.string [])]],.agg [.nil,.agg [.lit (.string []),.lit (.string [])]],.agg [.lit (.int .i64 0),.lit (.int .i64 0),.lit (.int .i64 0)],.lit (.int .i64 0),.lit (.int .i64 0)],[],[])) (by kernel_rfl) rfl (by kernel_rfl)) ?_
 intro W base args ds gs before hval hW _ hk _
 exact contract H enc W base args ds gs before hval hW hk
theorem row_f0:facts0 Go.Proofs.Tryz.checked.prog 10 Go.Proofs.Tryz.f10 (Rows.OpenSpec.upto Rows.tmodHasSpec).bare Rows.tmodHasUptoRow=true:=by kernel_rfl
theorem row_f1:facts1 Go.Proofs.Tryz.checked.prog 10 Go.Proofs.Tryz.f10 (Rows.OpenSpec.upto Rows.tmodHasSpec).bare Rows.tmodHasUptoRow=true:=by kernel_rfl
theorem row_f2:facts2 Go.Proofs.Tryz.checked.prog 10 Go.Proofs.Tryz.f10 (Rows.OpenSpec.upto Rows.tmodHasSpec).bare Rows.tmodHasUptoRow=true:=by kernel_rfl
theorem row_f3:facts3 Go.Proofs.Tryz.checked.prog 10 Go.Proofs.Tryz.f10 (Rows.OpenSpec.upto Rows.tmodHasSpec).bare Rows.tmodHasUptoRow=true:=by kernel_rfl
theorem row_f4:facts4 Go.Proofs.Tryz.checked.prog 10 Go.Proofs.Tryz.f10 (Rows.OpenSpec.upto Rows.tmodHasSpec).bare Rows.tmodHasUptoRow=true:=by kernel_rfl
theorem tmodHas_holds:Rows.TmodHasUptoSaid:=
 OpenClaim.holds_of_cond 10 Go.Proofs.Tryz.f10 rfl rfl rfl rfl rfl rfl rfl ⟨rfl,rfl,rfl,rfl,rfl⟩ rfl rfl rfl rfl rfl (by kernel_rfl) Go.Proofs.Tryz.func10 (joined_of row_f0 row_f1 row_f2 row_f3 row_f4)
  (of_decide_eq_true (by kernel_rfl)) (by unfold Func.isWrapper;first | (rw[if_pos (by decide +kernel)];kernel_rfl) | (rw[if_neg (by decide +kernel)];exact⟨rfl,rfl⟩))
  (fun os started H enc _ F=>lifted os started H enc F)
#print axioms tmodHas_holds
end Go.Proofs.YthpmkcidkcmlgaaGreat
