/- Whole numbers and quotients as the program keeps them. -/
import Derived.Test.YtbingbjhgoanoaaGreatLib1
import Derived.RangeFuncWrites
import Derived.RangeFuncLeaves
import Derived.RangeFuncBox
import Derived.Test.YtbingbjhgoanoaaGreatSx1
import Derived.RangeFuncIn
import Derived.WalkKit
import Derived.OrdersIn
import Derived.OrdersHeld
set_option linter.unusedVariables false
set_option linter.unusedSimpArgs false
set_option linter.unusedVariables false
namespace Go.SX
/-- A whole number: its size, whether it is below 0. -/
def IsInt (t : TypeId) (W : PW) (s : Sl) (b : Bool) (z : Int) : Prop := IsNat t W s z.natAbs ∧ b = decide (z < 0)
/-- A quotient's denominator, where 0 stands for 1. -/
def dn (q : Rat) : Nat := if q.den = 1 then 0 else q.den
def IsRat (t : TypeId) (W : PW) (s : Sl) (b : Bool) (s' : Sl) (q : Rat) : Prop := IsInt t W s b q.num ∧ IsNat t W s' (dn q)
theorem IsInt.ext {t : TypeId} {W W' : PW} {s : Sl} {b : Bool} {z : Int} (h : IsInt t W s b z) (hE : Ext W W') : IsInt t W' s b z := ⟨h.1.ext hE, h.2⟩
theorem IsRat.ext {t : TypeId} {W W' : PW} {s s' : Sl} {b : Bool} {q : Rat} (h : IsRat t W s b s' q) (hE : Ext W W') : IsRat t W' s b s' q := ⟨h.1.ext hE, h.2.ext hE⟩
theorem dn_max (q : Rat) : max (dn q) 1 = q.den := by
  unfold dn
  have := q.den_pos
  split <;> omega
theorem dn_ne (q : Rat) : dn q ≠ 1 := by
  unfold dn
  split <;> omega
theorem dn_le (q : Rat) : dn q ≤ q.den := by
  unfold dn
  split <;> omega
/-- How many digits a quotient has at most. -/
def Sz (k : Nat) (q : Rat) : Prop := nl q.num.natAbs ≤ k ∧ nl q.den ≤ k
theorem Sz.mono {k k' : Nat} {q : Rat} (h : Sz k q) (hk : k ≤ k') : Sz k' q := ⟨Nat.le_trans h.1 hk, Nat.le_trans h.2 hk⟩
theorem Sz.dn {k : Nat} {q : Rat} (h : Sz k q) : nl (dn q) ≤ k := Nat.le_trans (nl_mono (dn_le q)) h.2
theorem mkRat_num_le (z : Int) (y : Nat) : (mkRat z y).num.natAbs ≤ z.natAbs := by
  rw [Rat.num_mkRat]
  split
  · simp
  · rename_i h
    have : z.natAbs / y.gcd z.natAbs ≤ z.natAbs := Nat.div_le_self ..
    have e : (z / (y.gcd z.natAbs : Int)).natAbs = z.natAbs / y.gcd z.natAbs := by
      rw [Int.natAbs_ediv_of_dvd]
      · simp
      · exact Int.ofNat_dvd_left.2 (Nat.gcd_dvd_right ..)
    omega
theorem mkRat_den_le (z : Int) {y : Nat} (h : y ≠ 0) : (mkRat z y).den ≤ y := by
  rw [Rat.den_mkRat, if_neg h]
  exact Nat.div_le_self ..
theorem Sz.mk {z : Int} {y k : Nat} (h1 : nl z.natAbs ≤ k) (h2 : nl y ≤ k) (h : y ≠ 0) : Sz k (mkRat z y) :=
  ⟨Nat.le_trans (nl_mono (mkRat_num_le z y)) h1, Nat.le_trans (nl_mono (mkRat_den_le z h)) h2⟩
theorem Sz.mul {a b : Rat} {k l : Nat} (ha : Sz k a) (hb : Sz l b) : Sz (k + l) (a * b) := by
  rw [Rat.mul_def']
  refine Sz.mk ?_ ?_ (Nat.mul_ne_zero a.den_nz b.den_nz)
  · rw [Int.natAbs_mul]
    exact Nat.le_trans (nl_mul _ _) (Nat.add_le_add ha.1 hb.1)
  · exact Nat.le_trans (nl_mul _ _) (Nat.add_le_add ha.2 hb.2)
theorem nl_add_le {x y k : Nat} (hx : nl x ≤ k) (hy : nl y ≤ k) : nl (x + y) ≤ k + 1 := by
  have := nl_add x y
  omega
theorem Sz.add {a b : Rat} {k l : Nat} (ha : Sz k a) (hb : Sz l b) : Sz (k + l + 1) (a + b) := by
  rw [Rat.add_def']
  refine Sz.mk ?_ ?_ (Nat.mul_ne_zero a.den_nz b.den_nz)
  · have h1 : nl (a.num * b.den).natAbs ≤ k + l := by
      rw [Int.natAbs_mul]
      exact Nat.le_trans (nl_mul _ _) (Nat.add_le_add ha.1 hb.2)
    have h2 : nl (b.num * a.den).natAbs ≤ k + l := by
      rw [Int.natAbs_mul]
      exact Nat.le_trans (nl_mul _ _) (by have := Nat.add_le_add hb.1 ha.2; simp at this ⊢; omega)
    exact Nat.le_trans (nl_mono (Int.natAbs_add_le _ _)) (nl_add_le h1 h2)
  · exact Nat.le_trans (nl_mul _ _) (by have := Nat.add_le_add ha.2 hb.2; omega)
theorem Sz.neg {a : Rat} {k : Nat} (ha : Sz k a) : Sz k (-a) := ⟨by simpa using ha.1, ha.2⟩
theorem Sz.sub {a b : Rat} {k l : Nat} (ha : Sz k a) (hb : Sz l b) : Sz (k + l + 1) (a - b) := by
  rw [Rat.sub_eq_add_neg]
  exact ha.add hb.neg
theorem nl_one : nl 1 = 1 := by
  have h1 : nl 1 ≤ 1 := nl_le (by decide)
  have h2 : nl 1 ≠ 0 := fun h => by have := nl_eq_zero.1 h; omega
  omega
theorem Sz.inv {a : Rat} {k : Nat} (ha : Sz k a) (hk : 1 ≤ k) : Sz k a⁻¹ := by
  refine ⟨?_, ?_⟩
  · rw [Rat.num_inv, Int.natAbs_mul]
    have : a.num.sign.natAbs ≤ 1 := by
      rcases Int.sign_trichotomy a.num with h | h | h <;> rw [h] <;> decide
    refine Nat.le_trans (nl_mono (Nat.mul_le_mul_right _ this)) ?_
    simpa using ha.2
  · rw [Rat.den_inv]
    split
    · rw [nl_one]; exact hk
    · exact ha.1
theorem Sz.div {a b : Rat} {k l : Nat} (ha : Sz k a) (hb : Sz l b) (hl : 1 ≤ l) : Sz (k + l) (a / b) := by
  rw [Rat.div_def]
  exact ha.mul (hb.inv hl)
theorem Sz.zero {k : Nat} (hk : 1 ≤ k) : Sz k 0 := ⟨by simp [nl_zero], by simpa [nl_one] using hk⟩
theorem Sz.one {k : Nat} (hk : 1 ≤ k) : Sz k 1 := ⟨by simpa [nl_one] using hk, by simpa [nl_one] using hk⟩
/-- Which of two is greater. -/
def cmpI (x y : Int) : Int := if x < y then -1 else if x = y then 0 else 1
def sgnI (x : Int) : Int := if x < 0 then -1 else if x = 0 then 0 else 1
def cmpQ (x y : Rat) : Int := if x < y then -1 else if x = y then 0 else 1
theorem cmpI_lt {x y : Int} (h : x < y) : cmpI x y = -1 := by rw [cmpI, if_pos h]
theorem cmpI_eq {x y : Int} (h : x = y) : cmpI x y = 0 := by rw [cmpI, if_neg (by omega), if_pos h]
theorem cmpI_gt {x y : Int} (h : y < x) : cmpI x y = 1 := by rw [cmpI, if_neg (by omega), if_neg (by omega)]
theorem cmpQ_of (a b : Rat) : cmpI (a.num * b.den) (b.num * a.den) = cmpQ a b := by
  unfold cmpI cmpQ
  simp only [Rat.lt_iff a b, Rat.eq_iff_mul_eq_mul (p := a) (q := b)]
theorem cmpQ_zero (a b : Rat) : cmpQ a b = 0 ↔ a = b := by
  unfold cmpQ
  split
  · rename_i h
    constructor
    · intro h; cases h
    · rintro rfl; exact (Rat.lt_irrefl h).elim
  · split <;> simp_all
theorem sgnI_num (a : Rat) : sgnI a.num = cmpQ a 0 := by
  rw [← cmpQ_of]
  simp [sgnI, cmpI]
end Go.SX

/- Rows of quotients, matrices, in memory. -/
set_option linter.unusedVariables false
namespace Go.SX
/-- The old blocks stay. -/
abbrev ExtN (n0 : Nat) (W W' : PW) : Prop := ExtM (fun b => n0 ≤ b) W W'
theorem Row.new {W W' : PW} {t : TypeId} {sz : Nat} {s : Sl} {xs : List (List Value)} {n0 : Nat} (h : Row W t sz s xs) (hE : ExtN n0 W W') (hn : W.w.heap.size ≤ n0) : Row W' t sz s xs := by
  obtain ⟨h1, h2, hm, h3, h4⟩ := h
  refine ⟨h1, h2, hm, h3, ?_⟩
  rcases h4 with rfl | ⟨b, o, cs, fz, hA, hS, hh, hc⟩
  · exact .inl rfl
  · have hb := (Array.getElem?_eq_some_iff.1 hh).1
    have hk := hE.keep b hb hS (by show ¬ n0 ≤ b; omega)
    exact .inr ⟨b, o, cs, fz, hA, hk.2, hk.1.trans hh, hc⟩
/-- A write to a block of cells of another type. -/
theorem Row.put {W W' : PW} {t t' : TypeId} {sz : Nat} {s : Sl} {xs : List (List Value)} {g : Nat} {cs : Array Value} {fz : Nat × Nat} (h : Row W t sz s xs) (hE : ExtM (· = g) W W') (hg : W.w.heap[g]? = Option.some (Obj.cells cs t' fz)) (ht : t ≠ t') : Row W' t sz s xs :=
  Row.extM h hE fun b hb cs' fz' hh => by
    subst hb
    rw [hg] at hh
    cases hh
    exact absurd rfl ht
theorem IsNat.put {W W' : PW} {t t' : TypeId} {s : Sl} {x g : Nat} {cs : Array Value} {fz : Nat × Nat} (h : IsNat t W s x) (hE : ExtM (· = g) W W') (hg : W.w.heap[g]? = Option.some (Obj.cells cs t' fz)) (ht : t ≠ t') : IsNat t W' s x := Row.put h hE hg ht
theorem IsRat.put {W W' : PW} {t t' : TypeId} {s s' : Sl} {b : Bool} {q : Rat} {g : Nat} {cs : Array Value} {fz : Nat × Nat} (h : IsRat t W s b s' q) (hE : ExtM (· = g) W W') (hg : W.w.heap[g]? = Option.some (Obj.cells cs t' fz)) (ht : t ≠ t') : IsRat t W' s b s' q := ⟨⟨h.1.1.put hE hg ht, h.1.2⟩, h.2.put hE hg ht⟩
theorem IsNat.new {W W' : PW} {t : TypeId} {s : Sl} {x n0 : Nat} (h : IsNat t W s x) (hE : ExtN n0 W W') (hn : W.w.heap.size ≤ n0) : IsNat t W' s x := Row.new h hE hn
theorem IsRat.new {W W' : PW} {t : TypeId} {s s' : Sl} {b : Bool} {q : Rat} {n0 : Nat} (h : IsRat t W s b s' q) (hE : ExtN n0 W W') (hn : W.w.heap.size ≤ n0) : IsRat t W' s b s' q := ⟨⟨h.1.1.new hE hn, h.1.2⟩, h.2.new hE hn⟩
/-- The cells of n quotients. -/
def Qs (t : TypeId) (W : PW) (xs : List (List Value)) (n : Nat) (f : Nat → Rat) : Prop :=
  xs.length = n ∧ ∀ i, i < n → ∃ (s : Sl) (b : Bool) (s' : Sl), xs[i]? = some [s.v, .bool b, s'.v] ∧ IsRat t W s b s' (f i)
theorem Qs.ext {t : TypeId} {W W' : PW} {xs : List (List Value)} {n : Nat} {f : Nat → Rat} (h : Qs t W xs n f) (hE : Ext W W') : Qs t W' xs n f :=
  ⟨h.1, fun i hi => let ⟨s, b, s', h1, h2⟩ := h.2 i hi; ⟨s, b, s', h1, h2.ext hE⟩⟩
theorem Qs.new {t : TypeId} {W W' : PW} {xs : List (List Value)} {n n0 : Nat} {f : Nat → Rat} (h : Qs t W xs n f) (hE : ExtN n0 W W') (hn : W.w.heap.size ≤ n0) : Qs t W' xs n f :=
  ⟨h.1, fun i hi => let ⟨s, b, s', h1, h2⟩ := h.2 i hi; ⟨s, b, s', h1, h2.new hE hn⟩⟩
theorem Qs.put {t t' : TypeId} {W W' : PW} {xs : List (List Value)} {n g : Nat} {f : Nat → Rat} {cs : Array Value} {fz : Nat × Nat} (h : Qs t W xs n f) (hE : ExtM (· = g) W W') (hg : W.w.heap[g]? = Option.some (Obj.cells cs t' fz)) (ht : t ≠ t') : Qs t W' xs n f :=
  ⟨h.1, fun i hi => let ⟨s, b, s', h1, h2⟩ := h.2 i hi; ⟨s, b, s', h1, h2.put hE hg ht⟩⟩
theorem Qs.set {t : TypeId} {W : PW} {xs : List (List Value)} {n : Nat} {f : Nat → Rat} (h : Qs t W xs n f) {i : Nat} (hi : i < n) {s s' : Sl} {b : Bool} {q : Rat} (hq : IsRat t W s b s' q) : Qs t W (xs.set i [s.v, .bool b, s'.v]) n (fun k => if k = i then q else f k) := by
  refine ⟨by simpa using h.1, fun k hk => ?_⟩
  have hl := h.1
  by_cases e : k = i
  · subst e
    exact ⟨s, b, s', by simp [hl, hk], by simpa using hq⟩
  · obtain ⟨s1, b1, s1', h1, h2⟩ := h.2 k hk
    exact ⟨s1, b1, s1', by rw [List.getElem?_set_ne (fun h => e h.symm)]; exact h1, by simpa [e] using h2⟩
theorem Qs.congr {t : TypeId} {W : PW} {xs : List (List Value)} {n : Nat} {f g : Nat → Rat} (h : Qs t W xs n f) (hf : ∀ i, i < n → f i = g i) : Qs t W xs n g :=
  ⟨h.1, fun i hi => by rw [← hf i hi]; exact h.2 i hi⟩
/-- A row of quotients. tu: the limbs' type; tq: the quotients' one. -/
def IsQs (tu tq : TypeId) (W : PW) (s : Sl) (n : Nat) (f : Nat → Rat) : Prop := ∃ xs, Row W tq 3 s xs ∧ Qs tu W xs n f
theorem IsQs.ext {tu tq : TypeId} {W W' : PW} {s : Sl} {n : Nat} {f : Nat → Rat} (h : IsQs tu tq W s n f) (hE : Ext W W') : IsQs tu tq W' s n f := let ⟨xs, h1, h2⟩ := h; ⟨xs, h1.ext hE, h2.ext hE⟩
theorem IsQs.new {tu tq : TypeId} {W W' : PW} {s : Sl} {n n0 : Nat} {f : Nat → Rat} (h : IsQs tu tq W s n f) (hE : ExtN n0 W W') (hn : W.w.heap.size ≤ n0) : IsQs tu tq W' s n f := let ⟨xs, h1, h2⟩ := h; ⟨xs, h1.new hE hn, h2.new hE hn⟩
theorem IsQs.n {tu tq : TypeId} {W : PW} {s : Sl} {n : Nat} {f : Nat → Rat} (h : IsQs tu tq W s n f) : s.n = n := let ⟨xs, h1, h2⟩ := h; h1.1.trans h2.1
theorem IsQs.inB {tu tq : TypeId} {W : PW} {s : Sl} {n : Nat} {f : Nat → Rat} (h : IsQs tu tq W s n f) {i : Int} (h0 : 0 ≤ i) (h1 : i < (n : Int)) : inB s i := by
  have hn := h.n
  obtain ⟨xs, hr, hq⟩ := h
  refine ⟨h0, by omega, Row.some hr fun e => ?_⟩
  subst e
  have := hq.1
  simp at this
  omega
theorem IsQs.at {tu tq : TypeId} {W : PW} {s : Sl} {n : Nat} {f : Nat → Rat} (h : IsQs tu tq W s n f) {i : Nat} (hi : i < n) : ∃ (s1 : Sl) (b : Bool) (s2 : Sl), ElemAt W s 3 i 0 [s1.v, .bool b, s2.v] ∧ IsRat tu W s1 b s2 (f i) := by
  obtain ⟨xs, hr, hq⟩ := h
  obtain ⟨s1, b, s2, h1, h2⟩ := hq.2 i hi
  exact ⟨s1, b, s2, Row.elem hr h1 fun j v hj => by simpa using hj, h2⟩
/-- A matrix: r rows, the i-th of c i numbers. ts: the type of a row. -/
def IsMat (tu tq ts : TypeId) (W : PW) (s : Sl) (r : Nat) (c : Nat → Nat) (m : Nat → Nat → Rat) : Prop :=
  ∃ ss : List Sl, Row W ts 1 s (ss.map fun x => [x.v]) ∧ ss.length = r ∧ ∀ i (h : i < ss.length), IsQs tu tq W ss[i] (c i) (m i)
theorem IsMat.ext {tu tq ts : TypeId} {W W' : PW} {s : Sl} {r : Nat} {c : Nat → Nat} {m : Nat → Nat → Rat} (h : IsMat tu tq ts W s r c m) (hE : Ext W W') : IsMat tu tq ts W' s r c m :=
  let ⟨ss, h1, h2, h3⟩ := h; ⟨ss, h1.ext hE, h2, fun i hi => (h3 i hi).ext hE⟩
theorem IsMat.new {tu tq ts : TypeId} {W W' : PW} {s : Sl} {r n0 : Nat} {c : Nat → Nat} {m : Nat → Nat → Rat} (h : IsMat tu tq ts W s r c m) (hE : ExtN n0 W W') (hn : W.w.heap.size ≤ n0) : IsMat tu tq ts W' s r c m :=
  let ⟨ss, h1, h2, h3⟩ := h; ⟨ss, h1.new hE hn, h2, fun i hi => (h3 i hi).new hE hn⟩
theorem IsMat.n {tu tq ts : TypeId} {W : PW} {s : Sl} {r : Nat} {c : Nat → Nat} {m : Nat → Nat → Rat} (h : IsMat tu tq ts W s r c m) : s.n = r := let ⟨ss, h1, h2, _⟩ := h; h1.1.trans (by simpa using h2)
theorem IsMat.inB {tu tq ts : TypeId} {W : PW} {s : Sl} {r : Nat} {c : Nat → Nat} {m : Nat → Nat → Rat} (h : IsMat tu tq ts W s r c m) {i : Int} (h0 : 0 ≤ i) (h1 : i < (r : Int)) : inB s i := by
  have hn := h.n
  obtain ⟨ss, hr, hq, _⟩ := h
  refine ⟨h0, by omega, Row.some hr fun e => ?_⟩
  have : ss = [] := by simpa using e
  subst this
  simp at hq
  omega
theorem IsMat.at {tu tq ts : TypeId} {W : PW} {s : Sl} {r : Nat} {c : Nat → Nat} {m : Nat → Nat → Rat} (h : IsMat tu tq ts W s r c m) {i : Nat} (hi : i < r) : ∃ x : Sl, ElemAt W s 1 i 0 [x.v] ∧ IsQs tu tq W x (c i) (m i) := by
  obtain ⟨ss, hr, hq, h3⟩ := h
  have hi' : i < ss.length := by omega
  exact ⟨ss[i], Row.elem hr (x := [ss[i].v]) (by simp [hi']) fun j v hj => by simpa using hj, h3 i hi'⟩
theorem ElemAt.inj {W : PW} {s : Sl} {sz i off : Nat} {l l' : List Value} (h : ElemAt W s sz i off l) (h' : ElemAt W s sz i off l') (hl : l.length = l'.length) : l = l' := by
  obtain ⟨b, o, cs, t, fz, hA, _, hh, hc⟩ := h
  obtain ⟨b', o', cs', t', fz', hA', _, hh', hc'⟩ := h'
  rw [hA] at hA'
  cases hA'
  rw [hh] at hh'
  cases hh'
  apply List.ext_getElem?
  intro j
  by_cases hj : j < l.length
  · have h1 := hc j _ (List.getElem?_eq_getElem hj)
    have h2 := hc' j _ (List.getElem?_eq_getElem (hl ▸ hj))
    rw [h1] at h2
    rw [List.getElem?_eq_getElem hj, List.getElem?_eq_getElem (hl ▸ hj), Option.some.inj h2]
  · rw [List.getElem?_eq_none (by omega), List.getElem?_eq_none (by omega)]
end Go.SX

/- What is taken apart, multiplied, is what it was: plain law. -/
namespace Go.SX
def lsum (f : Nat → Rat) : Nat → Rat
  | 0 => 0
  | k + 1 => lsum f k + f k
theorem lsum_congr {f g : Nat → Rat} : ∀ {n : Nat} (_ : ∀ j, j < n → f j = g j), lsum f n = lsum g n
  | 0, _ => rfl
  | n + 1, h => by
    simp only [lsum]
    rw [lsum_congr (fun j hj => h j (by omega)), h n (by omega)]
theorem lsum_part {f : Nat → Rat} {k : Nat} : ∀ {n : Nat} (_ : k ≤ n) (_ : ∀ j, k ≤ j → j < n → f j = 0), lsum f n = lsum f k
  | 0, hk, _ => by have : k = 0 := by omega
                   subst this; rfl
  | n + 1, hk, h => by
    by_cases e : k = n + 1
    · subst e; rfl
    · simp only [lsum]
      rw [lsum_part (k := k) (by omega) (fun j h1 h2 => h j h1 (by omega)), h n (by omega) (by omega), Rat.add_zero]
theorem lsum_zero {f : Nat → Rat} {n : Nat} (h : ∀ j, j < n → f j = 0) : lsum f n = 0 := by
  rw [lsum_part (k := 0) (Nat.zero_le _) (fun j _ hj => h j hj)]; rfl
theorem lsum_single {f : Nat → Rat} {n k : Nat} (hk : k < n) (h : ∀ j, j < n → j ≠ k → f j = 0) : lsum f n = f k := by
  rw [lsum_part (k := k + 1) hk (fun j h1 h2 => h j h2 (by omega))]
  simp only [lsum]
  rw [lsum_zero (fun j hj => h j (by omega) (by omega)), Rat.zero_add]
/-- What is left of a matrix' number behind the columns ahead. -/
def leftF (m L : Nat → Nat → Rat) (d : Nat → Rat) (i k : Nat) : Rat := m i k - lsum (fun j => L i j * d j * L k j) k
/-- The first c columns of both parts. -/
structure Parts (m L : Nat → Nat → Rat) (d : Nat → Rat) (n c : Nat) : Prop where
  diag : ∀ k, k < c → d k = leftF m L d k k
  low : ∀ i k, k < c → k < i → i < n → L i k = leftF m L d i k / d k ∧ (d k = 0 → leftF m L d i k = 0)
  one : ∀ i, i < n → L i i = 1
  up : ∀ i k, i < k → k < n → L i k = 0
theorem Parts.back_le {m L : Nat → Nat → Rat} {d : Nat → Rat} {n : Nat} (h : Parts m L d n n) {i k : Nat} (hi : i < n) (hk : k ≤ i) : lsum (fun j => L i j * d j * L k j) n = m i k := by
  rw [lsum_part (k := k + 1) (by omega) (fun j h1 h2 => by rw [h.up k j (by omega) h2, Rat.mul_zero])]
  simp only [lsum]
  rw [h.one k (by omega), Rat.mul_one]
  have hx : L i k * d k = leftF m L d i k := by
    rcases Nat.lt_or_eq_of_le hk with hlt | rfl
    · obtain ⟨h1, h2⟩ := h.low i k (by omega) hlt hi
      by_cases hd : d k = 0
      · rw [h2 hd, hd, Rat.mul_zero]
      · rw [h1, Rat.div_mul_cancel hd]
    · rw [h.one k hi, Rat.one_mul]
      exact h.diag k hi
  rw [hx]
  unfold leftF
  grind
theorem Parts.back {m L : Nat → Nat → Rat} {d : Nat → Rat} {n : Nat} (h : Parts m L d n n) (hs : ∀ i k, i < n → k < n → m i k = m k i) {i k : Nat} (hi : i < n) (hk : k < n) : lsum (fun j => L i j * d j * L k j) n = m i k := by
  rcases Nat.le_total k i with hle | hle
  · exact h.back_le hi hle
  · rw [hs i k hi hk, ← h.back_le hk hle]
    exact lsum_congr fun j _ => by grind
def mulF (a b : Nat → Nat → Rat) (p i k : Nat) : Rat := lsum (fun j => a i j * b j k) p
/-- The lower part times the diagonal, times the lower part's turned one. -/
theorem Parts.product {m L D : Nat → Nat → Rat} {d : Nat → Rat} {n : Nat} (h : Parts m L d n n) (hs : ∀ i k, i < n → k < n → m i k = m k i) (hD : ∀ i k, i < n → k < n → D i k = if i = k then d i else 0) {i k : Nat} (hi : i < n) (hk : k < n) :
    mulF (mulF L D n) (fun i k => L k i) n i k = m i k := by
  rw [← h.back hs hi hk]
  unfold mulF
  apply lsum_congr
  intro j hj
  have : lsum (fun l => L i l * D l j) n = L i j * d j := by
    rw [lsum_single (k := j) hj (fun l hl hne => by rw [hD l j hl hj, if_neg hne, Rat.mul_zero]), hD j j hj hj, if_pos rfl]
  rw [this]
end Go.SX

/- A range over a function whose body may write what the function reads: the walk's law with a word on memory that holds between two rounds, and with the element that comes next. The way of proof is that of the kit's laws of a range over a function. -/
namespace Go.SX
open Go Go.RowKit
variable {F : Fence} {n : Nat} {P : Program}

theorem setCell_drawn (w : World) (a : Addr) (v : Value) : (w.setCell a v).drawn = w.drawn := by unfold World.setCell; (repeat' split) <;> rfl
/-- As OwnFrom, for changes that draw no less. -/
def OwnFromD {β : Type} (B : Nat) (I : β → World → Prop) : Prop :=
  ∀ s W W' row, I s W → W.grownBy W' row → W.drawn ≤ W'.drawn → (∀ r, row = some r → B ≤ r ∧ ∃ o : Obj, W.heap[r]? = some o ∧ o.isCells = false) → I s W'
theorem OwnFromD.putObj {β : Type} {B : Nat} {I : β → World → Prop} (h : OwnFromD B I) {s : β} {W : World} {l : Nat} {o : Obj} (o' : Obj) (hs : I s W) (hB : B ≤ l) (hl : W.heap[l]? = some o) (ho : o.isCells = false) : I s (W.putObj l o') :=
  h s W _ (some l) hs (grownBy_putObj' W l o') (Nat.le_refl _) (fun r e => by cases e; exact ⟨hB, o, hl, ho⟩)
theorem OwnFromD.alloc {β : Type} {B : Nat} {I : β → World → Prop} (h : OwnFromD B I) {s : β} {W : World} (o : Obj) (hs : I s W) : I s (W.alloc o) :=
  h s W _ none hs (World.grownBy_alloc W o none) (Nat.le_refl _) (fun r e => by cases e)
theorem OwnFromD.and {β : Type} {B : Nat} {I I' : β → World → Prop} (h : OwnFromD B I) (h' : OwnFromD B I') : OwnFromD B (fun s W => I s W ∧ I' s W) := fun s W W' row hs hg hd hr => ⟨h s W W' row hs.1 hg hd hr, h' s W W' row hs.2 hg hd hr⟩
theorem Own.fromD {β : Type} {I : β → World → Prop} (h : Go.Own I) (B : Nat) : OwnFromD B I := fun s W W' row hs hg _ hr => h s W W' row hs hg (fun r e => (hr r e).2)
/-- What lay in w lies as it lay, and no draw is taken back. -/
structure BelowD (w W : World) : Prop where
  b : Below w.heap.size w W
  d : w.drawn ≤ W.drawn
theorem BelowD.setCell {w W : World} (h : BelowD w W) {p : Addr} (hp : w.heap.size ≤ p.block) (v : Value) : BelowD w (W.setCell p v) := ⟨h.b.setCell hp v, by rw [setCell_drawn]; exact h.d⟩
theorem BelowD.put {w W : World} (h : BelowD w W) {D : Nat} {o o' : Obj} (hD : w.heap.size ≤ D) (hK : W.heap[D]? = some o) (h1 : o.isCells = false) (h2 : o.isWalk = false) : BelowD w (W.putObj D o') := ⟨h.b.trans (belowK_b (w := w) (Nat.le_refl _) W D o o' hD hK h1 h2), h.d⟩
theorem ownFrom_belowD {β : Type} {B : Nat} {w : World} (hB : w.heap.size ≤ B) : OwnFromD B (fun (_ : β) W => BelowD w W) := fun s W W' row hs hg hd hr => ⟨ownFrom_below (β := β) (Nat.le_refl _) hB s W W' row hs.b hg hr, Nat.le_trans hs.d hd⟩
/-- What an iterator answers for, if memory is as Mem says between two rounds, and each round is asked for the element that Nx says. -/
def SeqMem {α : Type} (F : Fence) (n : Nat) (P : Program) (g : Nat) (lb : Array Value) (encs : α → Array Value) (Mem : List α → World → Prop) (Nx : List α → α → Prop) (S Sp : List α → Prop) : Prop :=
  ∀ (l : Nat) (J Jx : List α → World → Prop) (W : World), (∀ pre W', J pre W' → Mem pre W') →
    (∀ pre x W1, J pre W1 → Nx pre x → YieldAt F (n - 1) P l (encs x) W1 fun e W' => (e = .returned (.bool true) ∧ J (pre ++ [x]) W') ∨ (e = .returned (.bool false) ∧ Jx (pre ++ [x]) W')) →
    J [] W →
    CallsIn F n P g (#[.func (.yield l) #[] #[]] ++ lb) W fun e W' => (∃ v, e = .returned v) ∧ ((∃ xs, S xs ∧ J xs W') ∨ (∃ pre, Sp pre ∧ Jx pre W'))

def postR {α : Type} (B : Nat) (I : List α → World → Prop) (Ix : Code → List α → World → Prop) (xs : List α) (W : World) : Exit → Act → World → Prop :=
  ownPostG B (fun _ _ => True) I Ix xs W

theorem wpIn_rangeMem {α : Type} {g : Operand} {ps : Array Tmp} {assign body : Code} {Q : Exit → Act → World → Prop} {a : Act} {w : World}
    (hro : F.round = none) (h1 : 1 ≤ n) {gf : Nat} {lb : Array Value} (hg : a.eval g = .func (.func gf) #[] lb) (hFg : F.fn gf) (eg : ∀ args w, (callFunc gf args).run P w = .ok (.enter gf args) w)
    {encs : α → Array Value} {Mem : List α → World → Prop} {Nx : List α → α → Prop} {S Sp : List α → Prop} (hseq : SeqMem F (n - 1) P gf lb encs Mem Nx S Sp) (hps : ∀ x, (encs x).size = ps.size)
    (I : List α → World → Prop) (Ix : Code → List α → World → Prop) (hI : OwnFromD w.heap.size I) (hIx : ∀ c, OwnFromD w.heap.size (Ix c)) (hMem : ∀ pre W, I pre W → Mem pre W) (h0 : I [] w) (a₁ : α → Act)
    (hassign : ∀ (l : Nat) (x : α) (W : World) (K : Act → World → Prop), K (a₁ x) W →
      assign.wpIn (F.inRound l) (n - 1 - 1) P (Exit.then K (fun _ _ _ => False)) { tmps := (ps.zip (encs x)).foldl (fun t (p, v) => t.setIfInBounds p v) a.tmps, defers := [] } W)
    (hbody : ∀ (l : Nat) (pre : List α) (x : α) (W : World), I pre W → Nx pre x → body.wpIn (F.inRound l) (n - 1 - 1) P (postR w.heap.size I Ix (pre ++ [x]) W) (a₁ x) W)
    (hdone : ∀ (D : Nat) (xs : List α) (W : World), w.heap.size ≤ D → S xs → I xs W → W.heap[D]? = some (.deferred (some [])) → Q .normal { a with defers := { target := .collected D, args := #[] } :: a.defers } W)
    (hstop : ∀ (D : Nat) (c : Code) (pre : List α) (W : World), w.heap.size ≤ D → Sp pre → Ix c pre W → W.heap[D]? = some (.deferred (some [])) → c.wpIn F n P Q { a with defers := { target := .collected D, args := #[] } :: a.defers } W) :
    (Code.rangeFunc g ps assign body).wpIn F n P Q a w := by
  refine wpIn_rangeFunc fun fn hfn => ?_
  rw [hro]
  -- the loop's record, by its state and its pending jump; the world behind the two new blocks
  let rec' : LoopState → Option Code → Loop := fun st pe => { state := st, pending := pe, fn, tmps := a.tmps, params := ps, assign, body, defers := w.heap.size }
  obtain ⟨r, hr⟩ : ∃ r, r = rec' := ⟨_, rfl⟩
  obtain ⟨V, hV⟩ : ∃ V, (w.alloc (.deferred (some []))).alloc (.loop (r .ready none)) = V := ⟨_, rfl⟩
  have hL : V.heap[w.heap.size + 1]? = some (.loop (r .ready none)) := by
    rw [← hV]
    have := World.alloc_heap_new (w.alloc (.deferred (some []))) (.loop (r .ready none))
    rwa [World.size_alloc] at this
  have hD : V.heap[w.heap.size]? = some (.deferred (some [])) := by
    rw [← hV]
    exact (Below.heap_alloc _ _ _ (by simp)).trans (World.alloc_heap_new w _)
  have hIV : I [] V := by
    rw [← hV]
    exact hI.alloc _ (hI.alloc _ h0)
  refine ⟨w.heap.size + 1, [{ target := .collected w.heap.size, args := #[] }], V, { target := .fn (.func gf) lb, args := #[.func (.yield (w.heap.size + 1)) #[] #[]] }, V, gf, #[.func (.yield (w.heap.size + 1)) #[] #[]] ++ lb, V, ?_, ?_, ?_, ?_, fun _ => h1, ?_⟩
  · rw [← hV, hr]
    exact run_enterLoop_outer _ _ _ _ _
  · simp only [resolve, hg]
    simp [go_sem]
  · intro f' hf'
    simp [Target.leads] at hf'
    subst hf'
    exact hFg
  · simp [invoke, go_sem, eg]
  refine (hseq (w.heap.size + 1)
    (fun pre W => I pre W ∧ W.heap[w.heap.size + 1]? = some (.loop (r .ready none)) ∧ W.heap[w.heap.size]? = some (.deferred (some [])))
    (fun pre W => ∃ c, Ix c pre W ∧ W.heap[w.heap.size + 1]? = some (.loop (r .done (some c))) ∧ W.heap[w.heap.size]? = some (.deferred (some [])))
    V (fun pre W' h => hMem pre W' h.1) ?_ ⟨hIV, hL, hD⟩).mono ?_
  · rintro pre x W ⟨hi, hl, hk⟩ hnx
    have hlt : w.heap.size + 1 < W.heap.size := (Array.getElem?_eq_some_iff.1 hl).1
    have hy := run_yield (P := P) (args := encs x) hl (by rw [hr]; exact hps x)
    rw [hr] at hy
    refine ⟨fn, _, assign, body, hy, roundIn_of_wpIn hfn (hassign _ x W _ ⟨_, run_beginRound hl (by rw [hr]), ?_⟩)⟩
    obtain ⟨W2, hW2⟩ : ∃ W2, W.putObj (w.heap.size + 1) (.loop { r .ready none with state := .busy }) = W2 := ⟨_, rfl⟩
    rw [hW2]
    have hl2 : W2.heap[w.heap.size + 1]? = some (.loop { r .ready none with state := .busy }) := by rw [← hW2]; exact World.putObj_heap_same hlt
    have hk2 : W2.heap[w.heap.size]? = some (.deferred (some [])) := by rw [← hW2]; exact (World.putObj_heap_other (by omega)).trans hk
    have hi2 : I pre W2 := by rw [← hW2]; exact hI.putObj _ hi (by omega) hl rfl
    refine wpIn_mono (hbody _ pre x _ hi2 hnx) ?_
    have fin : ∀ (jump : Option Code) (W3 : World), KeepsFrom w.heap.size W2 W3 →
        (Instr.endRound (w.heap.size + 1) jump).run P W3 = .ok (.bool jump.isNone) (W3.putObj (w.heap.size + 1) (.loop (r (if jump.isNone then .ready else .done) jump))) ∧
        W3.heap[w.heap.size + 1]? = some (.loop { r .ready none with state := .busy }) ∧
        (W3.putObj (w.heap.size + 1) (.loop (r (if jump.isNone then .ready else .done) jump))).heap[w.heap.size + 1]? = some (.loop (r (if jump.isNone then .ready else .done) jump)) ∧
        (W3.putObj (w.heap.size + 1) (.loop (r (if jump.isNone then .ready else .done) jump))).heap[w.heap.size]? = some (.deferred (some [])) := fun jump W3 hk3 => by
      have hl3 := hk3.same _ _ (by omega) hl2 rfl
      have := run_endRound (P := P) jump hl3
      rw [hr] at this ⊢
      exact ⟨this, by rw [hr] at hl3; exact hl3, World.putObj_heap_same (Array.getElem?_eq_some_iff.1 hl3).1, (World.putObj_heap_other (by omega)).trans (hk3.same _ _ (Nat.le_refl _) hk2 rfl)⟩
    rintro e a3 W3 hp
    cases e with
    | normal =>
      obtain ⟨hk3, _, hi3⟩ := hp
      obtain ⟨he, hl3, hl4, hk4⟩ := fin none W3 hk3
      exact ⟨_, _, he, .inl ⟨rfl, hI.putObj _ hi3 (by omega) hl3 rfl, hl4, hk4⟩⟩
    | ret =>
      obtain ⟨hk3, hi3⟩ := hp
      obtain ⟨he, hl3, hl4, hk4⟩ := fin (some .ret) W3 hk3
      exact ⟨_, _, he, .inr ⟨rfl, .ret, (hIx _).putObj _ hi3 (by omega) hl3 rfl, hl4, hk4⟩⟩
    | exit id =>
      obtain ⟨hk3, hi3⟩ := hp
      obtain ⟨he, hl3, hl4, hk4⟩ := fin (some (.exit id)) W3 hk3
      exact ⟨_, _, he, .inr ⟨rfl, .exit id, (hIx _).putObj _ hi3 (by omega) hl3 rfl, hl4, hk4⟩⟩
    | goto t =>
      obtain ⟨hk3, hi3⟩ := hp
      obtain ⟨he, hl3, hl4, hk4⟩ := fin (some (.goto t)) W3 hk3
      exact ⟨_, _, he, .inr ⟨rfl, .goto t, (hIx _).putObj _ hi3 (by omega) hl3 rfl, hl4, hk4⟩⟩
    | panic ch => exact hp.elim
    | outgrown => exact hp.elim
  · rintro e W2 ⟨⟨v, rfl⟩, (⟨xs, hS, hi, hl, hk⟩ | ⟨pre, hSp, c, hi, hl, hk⟩)⟩
    · exact ⟨none, _, by have := run_endLoop (P := P) hl (by rw [hr]; simp [rec']); rw [hr] at this; exact this, hdone _ xs _ (Nat.le_refl _) hS (hI.putObj _ hi (by omega) hl rfl) ((World.putObj_heap_other (by omega)).trans hk)⟩
    · exact ⟨some c, _, by have := run_endLoop (P := P) hl (by rw [hr]; simp [rec']); rw [hr] at this; exact this, hstop _ c pre _ (Nat.le_refl _) hSp ((hIx c).putObj _ hi (by omega) hl rfl) ((World.putObj_heap_other (by omega)).trans hk)⟩
end Go.SX

/- A region that draws its order, within a round of a range over a function. -/
namespace Go.SX
open Go
variable {P : Program} {ops : Array Oper} {Q : Exit → Act → World → Prop} {md : Region.Mode}
theorem rowsIn_of {l n : Nat} {row : String} {args : Array Value} {w : World} {R : Value → World → Prop} (h : Rows P row args w R) : RowsIn (Fence.wide.inRound l) n P row args w R := by
  intro c cs hr
  obtain ⟨v, w', h1, h2⟩ := h c cs
  exact ⟨v, w', h1, stepsIn_wide.2 h2⟩
theorem uponIn_of {l n : Nat} {o : Oper} {a : Act} {next : Act → World → Prop} {r : Result Next} (h : o.upon P a next Q r) : o.uponIn (Fence.wide.inRound l) n P a next Q r := by
  cases r with
  | ok v w' =>
    cases v with
    | enter f args => exact ⟨fun e => (by cases e), callsIn_wide.2 h⟩
    | row r args => exact ⟨fun e => (by cases e), rowsIn_of h⟩
    | round => exact h.elim
    | value v => exact h
    | skip => exact h
    | defer d => exact h
    | _ => exact h.elim
  | halt x w' =>
    cases x <;> first | exact h | exact h.elim
theorem wpOpIn_of {l n : Nat} {i : Nat} {a : Act} {w : World} {K : Act → World → Prop} (hd : ∀ (j : Nat) (o : Oper), ops[j]? = some o → ∀ c, o.op ≠ .defer c) (hno : ¬ LetsOut Q) (h : wpOp P ops Q i K a w) : wpOpIn (Fence.wide.inRound l) n P ops Q i K a w := by
  unfold wpOpIn
  unfold wpOp at h
  cases ho : ops[i]? with
  | none => simpa [ho] using h
  | some o =>
    simp only [ho] at h ⊢
    split
    · rename_i hw
      rw [if_pos hw] at h
      refine ⟨fun _ _ => trivial, ?_⟩
      rw [Oper.semAt_eq _ _ _ (hd i o ho)]
      rcases h with h | h
      · exact uponIn_of h
      · exact absurd h.2 hno
    · rename_i hw
      rw [if_neg hw] at h
      exact ⟨fun _ _ => trivial, h⟩
theorem wpAnyIn_of {l n : Nat} (hd : ∀ (j : Nat) (o : Oper), ops[j]? = some o → ∀ c, o.op ≠ .defer c) (hno : ¬ LetsOut Q) : ∀ (fuel : Nat) (listed : Array Bool) (a : Act) (w : World), wpAny P md ops Q fuel listed a w → wpAnyIn (Fence.wide.inRound l) n P md ops Q fuel listed a w
  | 0, _, _, _, h => h
  | fuel + 1, _, _, _, h => ⟨h.1, fun i hi => wpOpIn_of hd hno (wpOp_mono (fun a' w' h' => wpAnyIn_of hd hno fuel _ a' w' h') (h.2 i hi))⟩
/-- Such a region, its operations taken as one likes while S holds. -/
theorem region_round {l n id : Nat} {S : World → Prop} {a : Act} {w : World} (hm : P.follows .mixedOrders = true) (hd : ∀ (j : Nat) (o : Oper), ops[j]? = some o → ∀ c, o.op ≠ .defer c) (hno : ¬ LetsOut Q)
    (h : wpAnyH P .any ops Q S ops.size (Array.replicate ops.size false) a w.drew) : (Code.region id ops true).wpIn (Fence.wide.inRound l) n P Q a w :=
  wpIn_region_any hm (wpAnyIn_of hd hno _ _ _ _ (wpAny_of_held _ _ _ _ h))
end Go.SX
