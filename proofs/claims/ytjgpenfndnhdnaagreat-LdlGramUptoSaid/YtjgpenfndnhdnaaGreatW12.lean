/- poly: sums.poly, New. -/
import Derived.Test.YtjgpenfndnhdnaaGreatW11
import Derived.Test.YtjgpenfndnhdnaaGreatR18
import Derived.Shelf.Spec.SlicesGrow
import Derived.Shelf.SlGeneric
import Derived.Test.YtjgpenfndnhdnaaGreatProg
import Derived.Test.YtjgpenfndnhdnaaGreatW10
set_option linter.unusedVariables false
set_option linter.unusedSimpArgs false
set_option maxRecDepth 100000
set_option linter.unusedVariables false
set_option linter.unusedSimpArgs false
namespace Go.Proofs.YtjgpenfndnhdnaaGreat
open Go Go.SX
end Go.Proofs.YtjgpenfndnhdnaaGreat

/- poly: New, Terms, Const, Var, Mul. -/
set_option maxRecDepth 100000
set_option linter.unusedVariables false
set_option linter.unusedSimpArgs false
namespace Go.Proofs.YtjgpenfndnhdnaaGreat
open Go Go.SX
theorem cloneTm_ok {W0:PW} {M:Nat→Prop} {s:Sl} {xs:List (List Value)} (h:Row W0 136 6 s xs) (hl:xs.length≤1099511627776):
  PCallsM Go.Proofs.Tryz.prog 113 [s.v] W0 M fun v W'=>∃(s':Sl),v=Sl.v s'∧Fresh W0 s'∧Go.SX.Own W' 136 6 s' xs:=by
 apply callslices_Clone_poly_Term_poly_Term
 refine⟨fun hn W1 hE=>?_,fun hn=>⟨xs,⟨_,h⟩,by omega,fun s3 W4 hE4 hO hf W5 hE5=>⟨s3,rfl,fun g hg=>(hf g hg).1,by rw[List.nil_append] at hO;exact hO.ext hE5⟩⟩⟩
 have:xs = []:=Classical.byContradiction fun hne=>by
  have:=h.some hne
  rw[hn] at this
  cases this
 subst this
 exact⟨⟨none,0,0⟩,rfl,fun g hg=>by simp[Sl.v,Value.ownBlock] at hg,⟨by simp,rfl,.inl ⟨rfl,rfl⟩⟩,fun g hg=>by simp[Sl.v,Value.ownBlock] at hg⟩
theorem cloneTm_call {W0 W:PW} {M:Nat→Prop} {s:Sl} {xs:List (List Value)} {K:Value→PW→Prop} (h:Row W 136 6 s xs) (hl:xs.length≤1099511627776) (kont: ∀(s':Sl) (W':PW),Ext W W'→(Fresh W s'∧Go.SX.Own W' 136 6 s' xs)→K (Sl.v s') W'):
  callN Go.Proofs.Tryz.prog W0 M 113 [s.v] W K:=
 callN_of (fun W' hE=>cloneTm_ok (M:=fun _=>False) (h.ext hE) hl) (fun W' v W'' hE hE' hP=>by
  obtain⟨s',rfl,hf,h⟩:=hP
  exact kont s' W'' (hE.trans hE') ⟨hf.back hE,h⟩)
theorem polyTerms_ok {W0:PW} {M:Nat→Prop} {s:Sl} {xs:List (List Value)} (h:Row W0 136 6 s xs) (hl:xs.length≤1099511627776):
  PCallsM Go.Proofs.Tryz.prog 60 [.agg ⟨[s.v]⟩] W0 M fun v W'=>∃(s':Sl),v=Sl.v s'∧Fresh W0 s'∧Go.SX.Own W' 136 6 s' xs:=by
 apply callpoly_Poly_Terms
 exact cloneTm_call h hl fun s' W2 hE2 ⟨hf,hO⟩=>⟨s',rfl,fun W4 hE4=>⟨s',rfl,hf,hO.ext hE4⟩⟩
theorem polyTerms_call {W0 W:PW} {M:Nat→Prop} {s:Sl} {xs:List (List Value)} {K:Value→PW→Prop} (h:Row W 136 6 s xs) (hl:xs.length≤1099511627776) (kont: ∀(s':Sl) (W':PW),Ext W W'→(Fresh W s'∧Go.SX.Own W' 136 6 s' xs)→K (Sl.v s') W'):
  callN Go.Proofs.Tryz.prog W0 M 60 [.agg ⟨[s.v]⟩] W K:=
 callN_of (fun W' hE=>polyTerms_ok (M:=fun _=>False) (h.ext hE) hl) (fun W' v W'' hE hE' hP=>by
  obtain⟨s',rfl,hf,h⟩:=hP
  exact kont s' W'' (hE.trans hE') ⟨hf.back hE,h⟩)
end Go.Proofs.YtjgpenfndnhdnaaGreat

/- Layings of the library's generic functions, as the kit's command says them. -/
set_option maxRecDepth 100000
namespace Go.Proofs.YtjgpenfndnhdnaaGreat
open Go Go.Shelf Go.Proofs
end Go.Proofs.YtjgpenfndnhdnaaGreat

/- poly: slices.Grow, slices.Concat, Add, Scale, Sub. -/
set_option maxRecDepth 100000
set_option linter.unusedVariables false
set_option linter.unusedSimpArgs false
namespace Go.Proofs.YtjgpenfndnhdnaaGreat
open Go Go.SX
end Go.Proofs.YtjgpenfndnhdnaaGreat

/- poly: slices.Concat, Add, Scale, Sub. -/
set_option maxRecDepth 100000
set_option linter.unusedVariables false
set_option linter.unusedSimpArgs false
namespace Go.Proofs.YtjgpenfndnhdnaaGreat
open Go Go.SX
end Go.Proofs.YtjgpenfndnhdnaaGreat

/- poly: Mul, Plain. -/
set_option maxRecDepth 100000
set_option linter.unusedVariables false
set_option linter.unusedSimpArgs false
namespace Go.Proofs.YtjgpenfndnhdnaaGreat
open Go Go.SX
def MulOK (p q:List Tm):Prop:=∀a∈p,∀b∈q,(a.1.add b.1).ok
instance (p q:List Tm):Decidable (MulOK p q):=by unfold MulOK;infer_instance
def mulIO (g:Nat) (sp sq:Sl) (p q:List Tm) (D N:Nat) (l:List PL) (W:PW):Prop:=match l with
 | [.val (.int .i64 i),_]=>∃j:Nat,i=(j:Int)∧j≤p.length∧IsPoly 260 136 W sp p∧IsPoly 260 136 W sq q∧MulOK (p.take j) q∧∃es c E a b,IsSums 260 W g es c E∧Sums D (ppairs (p.take j) q) a E∧Fit D b (ppairs (p.drop j) q)∧a+b≤N
 | _=>False
def cn1 (n:Nat) (l:List PL) (W:PW):Nat:=match l with
 | .val (.int .i64 i) :: _=>n-i.toNat
 | _=>0
end Go.Proofs.YtjgpenfndnhdnaaGreat
