/- The greatest weight of a polynomial's monomials: of sums and of products. -/
import Derived.Test.YtbingbjhgoanoaaGreatLib3
import Derived.Test.YtbingbjhgoanoaaGreatSx1
set_option linter.unusedVariables false
set_option linter.unusedSimpArgs false
set_option linter.unusedVariables false
namespace Go.SX
def maxf (w : Mon → Int) (n : Int) (p : List Tm) : Int := p.foldl (fun a t => mx a (w t.1)) n
theorem maxf_snoc (w : Mon → Int) (n : Int) (l : List Tm) (t : Tm) : maxf w n (l ++ [t]) = mx (maxf w n l) (w t.1) := by simp [maxf]
def lastDeg (p : List Tm) : Int := match p.getLast? with
  | none => -1
  | some t => t.1.deg
theorem maxf_le {w : Mon → Int} {n e : Int} {p : List Tm} (hn : n ≤ e) (h : ∀ t ∈ p, w t.1 ≤ e) : maxf w n p ≤ e := by
  induction p generalizing n with
  | nil => exact hn
  | cons t r ih =>
    refine ih (n := mx n (w t.1)) ?_ fun u hu => h u (by simp [hu])
    have := h t (by simp)
    unfold mx
    split <;> omega
theorem le_maxf {w : Mon → Int} {n : Int} {p : List Tm} : n ≤ maxf w n p ∧ ∀ t ∈ p, w t.1 ≤ maxf w n p := by
  induction p generalizing n with
  | nil => exact ⟨Int.le_refl _, by simp⟩
  | cons t r ih =>
    have := ih (n := mx n (w t.1))
    have e : maxf w n (t :: r) = maxf w (mx n (w t.1)) r := rfl
    rw [e]
    have h1 : n ≤ mx n (w t.1) ∧ w t.1 ≤ mx n (w t.1) := by unfold mx; split <;> omega
    refine ⟨by omega, fun u hu => ?_⟩
    rcases List.mem_cons.1 hu with rfl | hu
    · omega
    · exact this.2 u hu
theorem maxf_add {w : Mon → Int} {n : Int} {p q : List Tm} : maxf w n (pnorm (p ++ q)) ≤ mx (maxf w n p) (maxf w n q) := by
  have hp := le_maxf (w := w) (n := n) (p := p)
  have hq := le_maxf (w := w) (n := n) (p := q)
  have h1 : maxf w n p ≤ mx (maxf w n p) (maxf w n q) ∧ maxf w n q ≤ mx (maxf w n p) (maxf w n q) := by unfold mx; split <;> omega
  refine maxf_le (by omega) fun t ht => ?_
  obtain ⟨u, hu, e⟩ := mem_pnorm ht
  rw [e]
  rcases List.mem_append.1 hu with hu | hu
  · have := hp.2 u hu; omega
  · have := hq.2 u hu; omega
/-- Some monomial is greatest. -/
theorem maxf_top {k : Mon → Int} : ∀ {p : List Tm}, p ≠ [] → ∃ t ∈ p, ∀ u ∈ p, k u.1 ≤ k t.1
  | [], h => (h rfl).elim
  | [t], _ => ⟨t, by simp, by simp⟩
  | t :: u :: r, _ => by
    obtain ⟨x, hx, h⟩ := maxf_top (k := k) (p := u :: r) (by simp)
    by_cases hc : k x.1 ≤ k t.1
    · refine ⟨t, by simp, fun y hy => ?_⟩
      rcases List.mem_cons.1 hy with rfl | hy
      · exact Int.le_refl _
      · exact Int.le_trans (h y hy) hc
    · refine ⟨x, List.mem_cons_of_mem _ hx, fun y hy => ?_⟩
      rcases List.mem_cons.1 hy with rfl | hy
      · omega
      · exact h y hy
theorem ptot_mem {p : List Tm} (hp : PGood p) {t : Tm} (ht : t ∈ p) : ptot p t.1 = t.2 := by
  induction p with
  | nil => simp at ht
  | cons a p ih =>
    have hs := List.pairwise_cons.1 hp.srt
    rw [ptot]
    rcases List.mem_cons.1 ht with rfl | ht
    · rw [if_pos rfl, ptot_none (l := p) fun x hx e => Mon.lt_ne (hs.1 x hx) e.symm, Rat.add_zero]
    · rw [if_neg (Mon.lt_ne (hs.1 t ht)), ih hp.tail ht, Rat.zero_add]
theorem mem_of_ptot {l : List Tm} {m : Mon} (h : ptot l m ≠ 0) : ∃ t ∈ l, t.1 = m := Classical.byContradiction fun hc => h (ptot_none fun t ht e => hc ⟨t, ht, e⟩)
theorem lin_single {G : Mon → Rat} {a : Mon} {p : List Tm} (h : ∀ t ∈ p, t.1 ≠ a → G t.1 = 0) : lin G p = ptot p a * G a := by
  induction p with
  | nil => simp [lin, ptot, Rat.zero_mul]
  | cons t r ih =>
    rw [lin, ptot, ih fun x hx => h x (by simp [hx])]
    by_cases e : t.1 = a
    · rw [if_pos e, e]
      grind
    · rw [if_neg e, h t (by simp) e]
      grind
theorem Mon.add_inj {a b c : Mon} (h : a.add b = a.add c) : b = c := by
  simp only [Mon.add, Mon.mk.injEq] at h
  exact Mon.ext3 (by omega) (by omega) (by omega)
theorem ptot_shift (a b : Mon) (q : List Tm) : ptot (q.map fun t => (a.add t.1, t.2)) (a.add b) = ptot q b := by
  induction q with
  | nil => rfl
  | cons t r ih =>
    rw [List.map_cons, ptot, ptot, ih]
    dsimp only
    by_cases e : t.1 = b
    · rw [if_pos e, if_pos (by rw [e])]
    · rw [if_neg e, if_neg fun h => e (Mon.add_inj h)]
/-- A key that tells monomials apart. -/
def wkey (w : Mon → Int) (m : Mon) : Int := w m * 1000000000 + m.x * 1000000 + m.y * 1000 + m.z
theorem wkey_add {w : Mon → Int} (hw : ∀ a b, w (a.add b) = w a + w b) (a b : Mon) : wkey w (a.add b) = wkey w a + wkey w b := by
  unfold wkey
  rw [hw]
  simp only [Mon.add]
  omega
theorem wkey_inj {w : Mon → Int} {a b : Mon} (ha : a.ok) (hb : b.ok) (h : wkey w a = wkey w b) : a = b := by
  unfold wkey at h
  unfold Mon.ok at ha hb
  generalize w a = u at h
  generalize w b = v at h
  exact Mon.ext3 (by omega) (by omega) (by omega)
theorem wkey_le {w : Mon → Int} {a b : Mon} (ha : a.ok) (hb : b.ok) (h : wkey w a ≤ wkey w b) : w a ≤ w b := by
  unfold wkey at h
  unfold Mon.ok at ha hb
  omega
theorem maxf_mul {w : Mon → Int} {n : Int} (hn : n ≤ 0) (hw : ∀ a b, w (a.add b) = w a + w b) (h0 : ∀ a, Mon.ok a → 0 ≤ w a) {p q : List Tm} (hp : PGood p) (hq : PGood q) (op : POk p) (oq : POk q) (np : p ≠ []) (nq : q ≠ []) :
    maxf w n (pnorm (ppairs p q)) = maxf w n p + maxf w n q := by
  obtain ⟨a, ha, hA⟩ := maxf_top (k := wkey w) np
  obtain ⟨b, hb, hB⟩ := maxf_top (k := wkey w) nq
  have key : ptot (ppairs p q) (a.1.add b.1) = a.2 * b.2 := by
    rw [ptot_ppairs]
    refine (lin_single (G := fun n => ptot (q.map fun b => (n.add b.1, b.2)) (a.1.add b.1)) (a := a.1) fun t ht hne => ptot_none fun x hx e => ?_).trans (by rw [ptot_shift, ptot_mem hp ha, ptot_mem hq hb])
    obtain ⟨y, hy, rfl⟩ := List.mem_map.1 hx
    dsimp only at e
    have e2 := congrArg (wkey w) e
    rw [wkey_add hw, wkey_add hw] at e2
    have h1 := hA t ht
    have h2 := hB y hy
    exact hne (wkey_inj (w := w) (op t ht) (op a ha) (by omega))
  have hne : ptot (pnorm (ppairs p q)) (a.1.add b.1) ≠ 0 := by
    rw [ptot_pnorm, key]
    intro h
    rcases Rat.mul_eq_zero.1 h with h | h
    · exact hp.nz a ha h
    · exact hq.nz b hb h
  obtain ⟨t, ht, e⟩ := mem_of_ptot hne
  have lp := le_maxf (w := w) (n := n) (p := p)
  have lq := le_maxf (w := w) (n := n) (p := q)
  have lm := le_maxf (w := w) (n := n) (p := pnorm (ppairs p q))
  have mp : maxf w n p = w a.1 := by
    have h1 := lp.2 a ha
    have h2 := h0 _ (op a ha)
    have : maxf w n p ≤ w a.1 := maxf_le (by omega) fun u hu => wkey_le (op u hu) (op a ha) (hA u hu)
    omega
  have mq : maxf w n q = w b.1 := by
    have h1 := lq.2 b hb
    have h2 := h0 _ (oq b hb)
    have : maxf w n q ≤ w b.1 := maxf_le (by omega) fun u hu => wkey_le (oq u hu) (oq b hb) (hB u hu)
    omega
  have h1 := lm.2 t ht
  rw [e, hw] at h1
  have h2 := h0 _ (op a ha)
  have h3 := h0 _ (oq b hb)
  have : maxf w n (pnorm (ppairs p q)) ≤ w a.1 + w b.1 := by
    refine maxf_le (by omega) fun u hu => ?_
    obtain ⟨v, hv, e⟩ := mem_pnorm hu
    obtain ⟨x, hx, hv⟩ := List.mem_flatMap.1 hv
    obtain ⟨y, hy, rfl⟩ := List.mem_map.1 hv
    rw [e]
    dsimp only
    rw [hw]
    have h4 := wkey_le (op x hx) (op a ha) (hA x hx)
    have h5 := wkey_le (oq y hy) (oq b hb) (hB y hy)
    omega
  omega
/-- The last one's degree is the greatest. -/
theorem lastDeg_max : ∀ {p : List Tm}, PGood p → POk p → lastDeg p = maxf Mon.deg (-1) p := by
  intro p hp op
  cases hl : p.getLast? with
  | none =>
    have : p = [] := List.getLast?_eq_none_iff.1 hl
    subst this
    rfl
  | some t =>
    have e : lastDeg p = t.1.deg := by unfold lastDeg; rw [hl]
    obtain ⟨l, rfl⟩ := List.getLast?_eq_some_iff.1 hl
    have ht := op t (by simp)
    have h1 := (le_maxf (w := Mon.deg) (n := -1) (p := l ++ [t])).2 t (by simp)
    have h2 : maxf Mon.deg (-1) (l ++ [t]) ≤ t.1.deg := by
      refine maxf_le (by unfold Mon.deg; unfold Mon.ok at ht; omega) fun u hu => ?_
      rcases List.mem_append.1 hu with hu | hu
      · have := (List.pairwise_append.1 hp.srt).2.2 u hu t (by simp)
        unfold Mon.lt at this
        omega
      · simp at hu
        rw [hu]
        exact Int.le_refl _
    omega
theorem Mon.deg_add (a b : Mon) : (a.add b).deg = a.deg + b.deg := by simp only [Mon.deg, Mon.add]; omega
theorem Mon.deg_nn {a : Mon} (h : a.ok) : 0 ≤ a.deg := by unfold Mon.deg; unfold Mon.ok at h; omega
end Go.SX
