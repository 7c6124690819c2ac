/- The greatest weight of a polynomial's monomials: of sums and of products. -/
import Derived.Test.YtbingbjhgoanoaaGreatLib3
import Derived.Test.YtbingbjhgoanoaaGreatSx1
set_option linter.unusedVariables false
set_option linter.unusedSimpArgs false
set_option linter.unusedVariables false
namespace Go.SX
def maxf (w : Mon → Int) (n : Int) (p : List Tm) : Int := p.foldl (fun a t => mx a (w t.1)) n
theorem maxf_snoc (w : Mon → Int) (n : Int) (l : List Tm) (t : Tm) : maxf w n (l ++ [t]) = mx (maxf w n l) (w t.1) := by simp [maxf]
theorem le_maxf {w : Mon → Int} {n : Int} {p : List Tm} : n ≤ maxf w n p ∧ ∀ t ∈ p, w t.1 ≤ maxf w n p := by
  induction p generalizing n with
  | nil => exact ⟨Int.le_refl _, by simp⟩
  | cons t r ih =>
    have := ih (n := mx n (w t.1))
    have e : maxf w n (t :: r) = maxf w (mx n (w t.1)) r := rfl
    rw [e]
    have h1 : n ≤ mx n (w t.1) ∧ w t.1 ≤ mx n (w t.1) := by unfold mx; split <;> omega
    refine ⟨by omega, fun u hu => ?_⟩
    rcases List.mem_cons.1 hu with rfl | hu
    · omega
    · exact this.2 u hu
end Go.SX
