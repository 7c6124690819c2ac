/- The greatest weight of a polynomial's monomials: of sums and of products. -/
import Derived.Test.YtbingbjhgoanoaaGreatLib3
import Derived.Test.YtbingbjhgoanoaaGreatSx1
import Derived.Test.YtbingbjhgoanoaaGreatLib2
set_option linter.unusedVariables false
set_option linter.unusedSimpArgs false
set_option linter.unusedVariables false
namespace Go.SX
def maxf (w : Mon → Int) (n : Int) (p : List Tm) : Int := p.foldl (fun a t => mx a (w t.1)) n
def lastDeg (p : List Tm) : Int := match p.getLast? with
  | none => -1
  | some t => t.1.deg
theorem maxf_le {w : Mon → Int} {n e : Int} {p : List Tm} (hn : n ≤ e) (h : ∀ t ∈ p, w t.1 ≤ e) : maxf w n p ≤ e := by
  induction p generalizing n with
  | nil => exact hn
  | cons t r ih =>
    refine ih (n := mx n (w t.1)) ?_ fun u hu => h u (by simp [hu])
    have := h t (by simp)
    unfold mx
    split <;> omega
theorem le_maxf {w : Mon → Int} {n : Int} {p : List Tm} : n ≤ maxf w n p ∧ ∀ t ∈ p, w t.1 ≤ maxf w n p := by
  induction p generalizing n with
  | nil => exact ⟨Int.le_refl _, by simp⟩
  | cons t r ih =>
    have := ih (n := mx n (w t.1))
    have e : maxf w n (t :: r) = maxf w (mx n (w t.1)) r := rfl
    rw [e]
    have h1 : n ≤ mx n (w t.1) ∧ w t.1 ≤ mx n (w t.1) := by unfold mx; split <;> omega
    refine ⟨by omega, fun u hu => ?_⟩
    rcases List.mem_cons.1 hu with rfl | hu
    · omega
    · exact this.2 u hu
theorem lastDeg_max : ∀ {p : List Tm}, PGood p → POk p → lastDeg p = maxf Mon.deg (-1) p := by
  intro p hp op
  cases hl : p.getLast? with
  | none =>
    have : p = [] := List.getLast?_eq_none_iff.1 hl
    subst this
    rfl
  | some t =>
    have e : lastDeg p = t.1.deg := by unfold lastDeg; rw [hl]
    obtain ⟨l, rfl⟩ := List.getLast?_eq_some_iff.1 hl
    have ht := op t (by simp)
    have h1 := (le_maxf (w := Mon.deg) (n := -1) (p := l ++ [t])).2 t (by simp)
    have h2 : maxf Mon.deg (-1) (l ++ [t]) ≤ t.1.deg := by
      refine maxf_le (by unfold Mon.deg; unfold Mon.ok at ht; omega) fun u hu => ?_
      rcases List.mem_append.1 hu with hu | hu
      · have := (List.pairwise_append.1 hp.srt).2.2 u hu t (by simp)
        unfold Mon.lt at this
        omega
      · simp at hu
        rw [hu]
        exact Int.le_refl _
    omega
end Go.SX

/- How great the numbers of short texts are. -/
set_option linter.unusedVariables false
namespace Go.SX
theorem parseN_gen {a : ByteArray} {x m k : Nat} (h : parseN a = some x) (hs : a.size ≤ m) (hm : 10 ^ m ≤ B ^ k) : nl x ≤ k := by
  obtain ⟨h1, _⟩ := parseN_lt h
  exact nl_le (Nat.lt_of_lt_of_le h1 (Nat.le_trans (Nat.pow_le_pow_right (by decide) hs) hm))
theorem parseI_gen {a : ByteArray} {z : Int} {m k : Nat} (h : parseI a = some z) (hs : a.size ≤ m) (hm : 10 ^ m ≤ B ^ k) : nl z.natAbs ≤ k := by
  unfold parseI at h
  split at h
  · split at h
    · rename_i x hx
      split at h
      · cases h
      · cases h; rw [Int.natAbs_neg, Int.natAbs_natCast]; exact parseN_gen hx (by rw [ByteArray.size_extract]; omega) hm
    · cases h
  · cases hp : parseN a with
    | none => rw [hp] at h; cases h
    | some x =>
      rw [hp] at h
      cases h
      exact parseN_gen hp hs hm
theorem parseQ_gen {a : ByteArray} {q : Rat} {m k : Nat} (h : parseQ a = some q) (hs : a.size ≤ m) (hm : 10 ^ m ≤ B ^ k) (hk : 1 ≤ k) : Sz k q := by
  unfold parseQ at h
  split at h
  · cases hp : parseI a with
    | none => rw [hp] at h; cases h
    | some z =>
      rw [hp] at h
      cases h
      exact ⟨by rw [Rat.num_intCast]; exact parseI_gen hp hs hm, by rw [Rat.den_intCast, nl_one]; omega⟩
  · split at h
    · rename_i n d hn hd
      split at h
      · cases h
      · rename_i i _ hc
        cases h
        have hd0 : d ≠ 0 := by omega
        exact Sz.mk (parseI_gen hn (by rw [ByteArray.size_extract]; omega) hm) (parseN_gen hd (by rw [ByteArray.size_extract]; omega) hm) hd0
    · cases h
theorem parseQ_30 {a : ByteArray} {q : Rat} (h : parseQ a = some q) (hs : a.size ≤ 30) : Sz 4 q := parseQ_gen h hs (by decide) (by decide)
end Go.SX
