/- poly.Diff, cinctureref1.Diff; cincturelaw8.PolyDiffs. -/
import Derived.Test.YtbingbjhgoanoaaGreatW13
import Derived.Test.YtbingbjhgoanoaaGreatR16
import Derived.Test.YtbingbjhgoanoaaGreatW3
import Derived.Test.YtbingbjhgoanoaaGreatW10
import Derived.Test.YtbingbjhgoanoaaGreatW12
import Derived.Test.YtbingbjhgoanoaaGreatR19
import Derived.Test.YtbingbjhgoanoaaGreatLib4
import Derived.Test.YtbingbjhgoanoaaGreatLib3
set_option linter.unusedVariables false
set_option linter.unusedSimpArgs false
set_option maxRecDepth 100000
set_option linter.unusedVariables false
set_option linter.unusedSimpArgs false
namespace Go.Proofs.YtbingbjhgoanoaaGreat
open Go Go.SX
end Go.Proofs.YtbingbjhgoanoaaGreat

/- slices.Backward of bytes; mono.Vars. -/
set_option linter.unusedVariables false
set_option linter.unusedSimpArgs false
namespace Go.Proofs.YtbingbjhgoanoaaGreat
open Go Go.SX Go.RowKit Go.Shelf
attribute [local go_sem] Oper.semAt_some
end Go.Proofs.YtbingbjhgoanoaaGreat

/- poly.Degree, poly.Top. -/
set_option maxRecDepth 100000
set_option linter.unusedVariables false
set_option linter.unusedSimpArgs false
namespace Go.Proofs.YtbingbjhgoanoaaGreat
open Go Go.SX
theorem polyDegree_ok {W0 : PW} {M : Nat → Prop} {s : Sl} {p : List Tm} (h : IsPoly 183 45 W0 s p) (hl : p.length ≤ 1099511627776) :
    PCallsM Go.Proofs.Tryz.prog 47 [.agg ⟨[s.v]⟩] W0 M fun v W' => v = .int .i64 (lastDeg p) ∧ True := by
  apply callpoly_Degree
  have hn := h.n
  refine ⟨fun h0 W1 _ => ⟨?_, trivial⟩, fun h0 => ?_⟩
  · have : p = [] := List.eq_nil_of_length_eq_zero (by omega)
    subst this
    rfl
  · have hp : p.length - 1 < p.length := by omega
    obtain ⟨k0, c1, d1, c2, e1, e2, _, hr⟩ := h.at (List.getElem?_eq_getElem hp)
    rw [show Int.toNat ((s.n : Int) - 1) = p.length - 1 by omega]
    refine ⟨by unfold I64; omega, h.inB (by omega) (by omega), _, _, _, e2, monoDegree_call k0 fun W6 _ _ => ⟨_, rfl, fun W8 _ => ⟨?_, trivial⟩⟩⟩
    unfold lastDeg
    rw [List.getLast?_eq_getElem?, List.getElem?_eq_getElem hp]
theorem polyDegree_call {W0 W : PW} {M : Nat → Prop} {s : Sl} {p : List Tm} {K : Value → PW → Prop} (h : IsPoly 183 45 W s p) (hl : p.length ≤ 1099511627776) (kont : ∀  (W' : PW), Ext W W' → (True) → K (.int .i64 (lastDeg p)) W') :
    callN Go.Proofs.Tryz.prog W0 M 47 [.agg ⟨[s.v]⟩] W K :=
  callN_of (fun W' hE => polyDegree_ok (M := fun _ => False) (h.ext hE) hl) (fun W' v W'' hE hE' hP => by
    obtain ⟨rfl, h⟩ := hP
    exact kont  W'' (hE.trans hE') h)
end Go.Proofs.YtbingbjhgoanoaaGreat

/- Exponents up to a bound; products that fit. -/
set_option linter.unusedVariables false
set_option linter.unusedSimpArgs false
namespace Go.Proofs.YtbingbjhgoanoaaGreat
open Go Go.SX
theorem TermsOK.exp {L : List (Mon × ByteArray)} {p : List Tm} {most e : Int} (h : TermsOK L most e) (hp : PParse L p) : ∀ t ∈ p, t.1.x ≤ e ∧ t.1.y ≤ e ∧ t.1.z ≤ e := fun t ht => by
  obtain ⟨u, hu, h1, _⟩ := all2_mem hp.1 ht
  have := (h.2 u hu).2
  rw [h1]
  exact this
def PExp (e : Int) (p : List Tm) : Prop := ∀ t ∈ p, t.1.ok ∧ t.1.x ≤ e ∧ t.1.y ≤ e ∧ t.1.z ≤ e
theorem OfOK.exp {L : List (Mon × ByteArray)} {p : List Tm} {e : Int} (h : OfOK L e p) (ho : POk p) : PExp e p := fun t ht => ⟨ho t ht, h.2.exp h.1 t ht⟩
theorem PExp.norm {e : Int} {p : List Tm} (h : PExp e p) : PExp e (pnorm p) := fun t ht => by
  obtain ⟨u, hu, h1⟩ := mem_pnorm ht
  rw [h1]
  exact h u hu
theorem mulOK_of {e f : Int} {p q : List Tm} (h : PExp e p) (k : PExp f q) (hef : e + f ≤ 255) : MulOK p q := fun a ha b hb => by
  have h1 := h a ha
  have h2 := k b hb
  unfold Mon.ok at *
  unfold Mon.add
  dsimp only
  omega
theorem mulP_of {p q : List Tm} (h : MulOK p q) : mulP p q = pnorm (ppairs p q) := by unfold mulP; rw [if_pos h]
end Go.Proofs.YtbingbjhgoanoaaGreat
