/- whole.Pow, rat.Pow; cinctureref1.times. -/
import Derived.Test.YtbingbjhgoanoaaGreatW14
import Derived.Test.YtbingbjhgoanoaaGreatW13
import Derived.Test.YtbingbjhgoanoaaGreatR15
import Derived.Test.YtbingbjhgoanoaaGreatW9
import Derived.Test.YtbingbjhgoanoaaGreatLib4
import Derived.Test.YtbingbjhgoanoaaGreatRows
import Derived.WalkKit
import Derived.ProofKit
import Derived.OpenShut
import Derived.JoinedCond
import Derived.Carry
import Derived.Deep.Slices
set_option linter.unusedVariables false
set_option linter.unusedSimpArgs false
set_option maxRecDepth 100000
set_option linter.unusedVariables false
set_option linter.unusedSimpArgs false
namespace Go.Proofs.YtbingbjhgoanoaaGreat
open Go Go.SX
theorem and1 {i : Nat} (h : i < 256) : bits .and .i64 (i : Int) 1 = ((i % 2 : Nat) : Int) := by
  have key : ∀ i : Nat, i < 256 → bits .and .i64 (i : Int) 1 = ((i % 2 : Nat) : Int) := by decide +kernel
  exact key i h
theorem shr1 (i : Nat) : ishr (i : Int) 1 = ((i / 2 : Nat) : Int) := by
  unfold ishr
  rw [Int.fdiv_eq_ediv_of_nonneg _ (by decide)]
  omega
theorem nl_pow {z : Int} {k : Nat} (h : nl z.natAbs ≤ k) (e : Nat) : nl (z ^ e).natAbs ≤ k * e + 1 := by
  induction e with
  | zero => simp [nl_one]
  | succ e ih =>
    rw [Int.pow_succ, Int.natAbs_mul]
    have := nl_mul (z ^ e).natAbs z.natAbs
    rw [Nat.mul_add]
    omega
theorem wholePow_ok {W0 : PW} {M : Nat → Prop} {s : Sl} {b : Bool} {z : Int} {n k : Nat} (h : IsInt 183 W0 s b z) (hz : nl z.natAbs ≤ k) (hk : k ≤ 1048576) (hn : n ≤ 255) :
    PCallsM Go.Proofs.Tryz.prog 126 [.agg ⟨[s.v, .bool b]⟩, .int .i64 (n : Int)] W0 M fun v W' => ∃ (s' : Sl), ∃ (b' : Bool), v = .agg ⟨[Sl.v s', .bool b']⟩ ∧ IsInt 183 W' s' b' (z ^ n) := by
  apply callwhole_Pow
  have en : mn (mx (n : Int) 0) 255 = (n : Int) := by unfold mn mx; split <;> (try split) <;> omega
  unfold Rwhole_Pow
  rw [en]
  refine wholeOf_call (z := 1) (by unfold I64; omega) fun s3 b4 W2 hE2 h2 => ⟨s3, b4, rfl, ?_⟩
  refine ⟨fun l W => match l with
    | [.val (.int .i64 i), .cells [.slice A m c, .bool x], .cells [.slice A' m' c', .bool y]] => ∃ (j e f : Nat), i = (j : Int) ∧ Ext W0 W ∧ f + e * j = n ∧ e ≤ 2 * n + 1 ∧ j ≤ 255 ∧ IsInt 183 W ⟨A, m, c⟩ x (z ^ f) ∧ IsInt 183 W ⟨A', m', c'⟩ y (z ^ e)
    | _ => False, fun l _ => match l with | [.val (.int .i64 i), _, _] => i.toNat | _ => 0, ⟨n, 1, 0, rfl, hE2, by omega, by omega, hn, by simpa using h2, by rw [show z ^ 1 = z by rw [Int.pow_succ, Int.pow_zero, Int.one_mul]]; exact h.ext hE2⟩, ?_⟩
  rintro s7 b8 s9 b10 i11 W12 ⟨j, e, f, rfl, hE, hfe, he, hj, hf1, hf2⟩
  have hf1 : IsInt 183 W12 s7 b8 (z ^ f) := hf1
  have hf2 : IsInt 183 W12 s9 b10 (z ^ e) := hf2
  have hjn : e * j ≤ n := by omega
  refine ⟨fun hpos => ?_, fun hz0 W25 hE25 => ⟨s7, b8, rfl, ?_⟩⟩
  · have hj1 : 1 ≤ j := by omega
    have hen : e ≤ n := Nat.le_trans (Nat.le_mul_of_pos_right e hj1) hjn
    have hsz : ∀ x, x ≤ 511 → nl (z ^ x).natAbs ≤ 68719476736 := fun x hx => by
      have h1 := nl_pow hz x
      have h2 := Nat.mul_le_mul hk hx
      omega
    have hee : (e + e) * (j / 2) = e * (2 * (j / 2)) := by rw [← Nat.two_mul, Nat.mul_comm 2 e, Nat.mul_assoc]
    have hi : Int.toNat (ishr (j : Int) 1) < Int.toNat (j : Int) := by rw [shr1]; omega
    refine ⟨fun hodd => ?_, fun heven => ?_⟩
    · have ho : j % 2 = 1 := by rw [and1 (by omega)] at hodd; omega
      have hj2 : j = 2 * (j / 2) + 1 := by omega
      have hej : e * j = e * (2 * (j / 2)) + e := by conv => lhs; rw [hj2, Nat.mul_add, Nat.mul_one]
      refine wholeMul_call hf1 hf2 (hsz f (by omega)) (hsz e (by omega)) fun s15 b16 W14 hE14 h14 => ⟨s15, b16, rfl, wholeMul_call (hf2.ext hE14) (hf2.ext hE14) (hsz e (by omega)) (hsz e (by omega)) fun s19 b20 W18 hE18 h18 => ⟨s19, b20, rfl, ⟨j / 2, e + e, f + e, by rw [shr1], hE.trans (hE14.trans hE18), by omega, by omega, by omega, ?_, ?_⟩, hi⟩⟩
      · rw [Int.pow_add]; exact h14.ext hE18
      · rw [Int.pow_add]; exact h18
    · have ho : j % 2 = 0 := by
        rw [and1 (by omega)] at heven
        omega
      have hj2 : j = 2 * (j / 2) := by omega
      have hej : e * j = e * (2 * (j / 2)) := by conv => lhs; rw [hj2]
      refine wholeMul_call hf2 hf2 (hsz e (by omega)) (hsz e (by omega)) fun s23 b24 W22 hE22 h22 => ⟨s23, b24, rfl, ⟨j / 2, e + e, f, by rw [shr1], hE.trans hE22, by omega, by omega, by omega, hf1.ext hE22, ?_⟩, hi⟩
      rw [Int.pow_add]; exact h22
  · have : j = 0 := by omega
    subst this
    rw [Nat.mul_zero, Nat.add_zero] at hfe
    rw [← hfe]
    exact hf1.ext hE25
theorem wholePow_call {W0 W : PW} {M : Nat → Prop} {s : Sl} {b : Bool} {z : Int} {n k : Nat} {K : Value → PW → Prop} (h : IsInt 183 W s b z) (hz : nl z.natAbs ≤ k) (hk : k ≤ 1048576) (hn : n ≤ 255) (kont : ∀ (s' : Sl) (b' : Bool) (W' : PW), Ext W W' → (IsInt 183 W' s' b' (z ^ n)) → K (.agg ⟨[Sl.v s', .bool b']⟩) W') :
    callN Go.Proofs.Tryz.prog W0 M 126 [.agg ⟨[s.v, .bool b]⟩, .int .i64 (n : Int)] W K :=
  callN_of (fun W' hE => wholePow_ok (M := fun _ => False) (h.ext hE) hz hk hn) (fun W' v W'' hE hE' hP => by
    obtain ⟨s', b', rfl, h⟩ := hP
    exact kont s' b' W'' (hE.trans hE') h)
theorem dn_pow (q : Rat) (n : Nat) : dn (q ^ n) = if dn q = 0 ∨ n = 0 then 0 else q.den ^ n := by
  unfold dn
  rw [Rat.den_pow]
  by_cases h1 : q.den = 1
  · simp [h1]
  · by_cases h2 : n = 0
    · subst h2; simp
    · have : q.den ^ n ≠ 1 := by
        have hd := q.den_nz
        obtain ⟨m, rfl⟩ : ∃ m, n = m + 1 := ⟨n - 1, by omega⟩
        rw [Nat.pow_succ]
        have : 1 ≤ q.den ^ m := Nat.pow_pos (by omega)
        have := Nat.mul_le_mul this (show 2 ≤ q.den by omega)
        omega
      have hz : q.den ≠ 0 := q.den_nz
      simp [h1, h2, this, hz]
theorem ratPow_ok {W0 : PW} {M : Nat → Prop} {s t : Sl} {b : Bool} {q : Rat} {n k : Nat} (h : IsRat 183 W0 s b t q) (hz : Sz k q) (hk : k ≤ 1048576) (hn : n ≤ 255) :
    PCallsM Go.Proofs.Tryz.prog 80 [.agg ⟨[s.v, .bool b, t.v]⟩, .int .i64 (n : Int)] W0 M fun v W' => ∃ (s' : Sl), ∃ (b' : Bool), ∃ (t' : Sl), v = .agg ⟨[Sl.v s', .bool b', Sl.v t']⟩ ∧ IsRat 183 W' s' b' t' (q ^ n) := by
  apply callrat_Pow
  have hd := hz.dn
  refine wholePow_call h.1 hz.1 hk hn fun s3 b4 W2 hE2 h2 => ⟨s3, b4, rfl, natBits_call (h.2.ext hE2) (by omega) fun W6 hE6 _ => ⟨_, rfl, fun hb => ⟨fun hn0 => ?_, fun hn0 W20 hE20 => ⟨s3, b4, ⟨none, 0, 0⟩, rfl, (h2.ext hE6).ext hE20, ?_⟩⟩, fun hb W21 hE21 => ⟨s3, b4, ⟨none, 0, 0⟩, rfl, (h2.ext hE6).ext hE21, ?_⟩⟩⟩
  · refine ratDen_call (h.ext (hE2.trans hE6)) hz (by omega) fun s10 b11 W9 hE9 h9 => ⟨s10, b11, rfl, wholePow_call h9 (by rw [Int.natAbs_natCast]; exact hz.2) hk hn fun s14 b15 W13 hE13 h13 => ⟨s14, b15, rfl, wholeAbs_call h13 fun s18 W17 hE17 h17 => ⟨s18, rfl, fun W19 hE19 => ⟨s3, b4, s18, rfl, (h2.ext (hE6.trans (hE9.trans (hE13.trans hE17)))).ext hE19, ?_⟩⟩⟩⟩
    have hdq : dn q ≠ 0 := fun e => by
      rw [e] at hb
      simp [blen] at hb
    have e : dn (q ^ n) = q.den ^ n := by rw [dn_pow, if_neg (by omega)]
    rw [e]
    have e2 : ((q.den : Int) ^ n).natAbs = q.den ^ n := by rw [Int.natAbs_pow, Int.natAbs_natCast]
    rw [e2] at h17
    exact h17.ext hE19
  · have : n = 0 := by omega
    rw [dn_pow, if_pos (.inr this)]
    exact isNat_zero W20
  · have : dn q = 0 := (blen_eq_zero (x := dn q)).1 (by omega)
    rw [dn_pow, if_pos (.inl this)]
    exact isNat_zero W21
theorem ratPow_call {W0 W : PW} {M : Nat → Prop} {s t : Sl} {b : Bool} {q : Rat} {n k : Nat} {K : Value → PW → Prop} (h : IsRat 183 W s b t q) (hz : Sz k q) (hk : k ≤ 1048576) (hn : n ≤ 255) (kont : ∀ (s' : Sl) (b' : Bool) (t' : Sl) (W' : PW), Ext W W' → (IsRat 183 W' s' b' t' (q ^ n)) → K (.agg ⟨[Sl.v s', .bool b', Sl.v t']⟩) W') :
    callN Go.Proofs.Tryz.prog W0 M 80 [.agg ⟨[s.v, .bool b, t.v]⟩, .int .i64 (n : Int)] W K :=
  callN_of (fun W' hE => ratPow_ok (M := fun _ => False) (h.ext hE) hz hk hn) (fun W' v W'' hE hE' hP => by
    obtain ⟨s', b', t', rfl, h⟩ := hP
    exact kont s' b' t' W'' (hE.trans hE') h)
end Go.Proofs.YtbingbjhgoanoaaGreat

/- cinctureref1.times; poly.At, cinctureref1.At. -/
set_option maxRecDepth 100000
set_option linter.unusedVariables false
set_option linter.unusedSimpArgs false
namespace Go.Proofs.YtbingbjhgoanoaaGreat
open Go Go.SX
theorem Sz.powq {k : Nat} {q : Rat} (h : Sz k q) (n : Nat) : Sz (k * n + 1) (q ^ n) := by
  induction n with
  | zero => rw [Rat.pow_zero]; exact Sz.one (by omega)
  | succ n ih =>
    rw [Rat.pow_succ]
    exact (ih.mul h).mono (by rw [Nat.mul_add]; omega)
theorem refTimes_ok {W0 : PW} {M : Nat → Prop} {s t : Sl} {b : Bool} {q : Rat} {n k : Nat} (h : IsRefQ 183 W0 b s t q) (hz : Sz k q) (hk : k ≤ 1048576) (hn : n ≤ 255) :
    PCallsM Go.Proofs.Tryz.prog 81 [.agg ⟨[.bool b, s.v, t.v]⟩, .int .i64 (n : Int)] W0 M fun v W' => ∃ (b' : Bool), ∃ (s' : Sl), ∃ (t' : Sl), v = .agg ⟨[.bool b', Sl.v s', Sl.v t']⟩ ∧ IsRefQ 183 W' b' s' t' (q ^ n) := by
  apply callref1_times
  refine refRatOf_call (z := 1) (by unfold I64; omega) fun b3 s4 s5 W2 hE2 h2 => ⟨b3, s4, s5, rfl, ?_⟩
  refine ⟨fun l W => match l with
    | [.val (.int .i64 i), .cells [.bool x, .slice A m c, .slice A' m' c']] => ∃ j : Nat, i = (j : Int) ∧ j ≤ n ∧ Ext W0 W ∧ IsRefQ 183 W x ⟨A, m, c⟩ ⟨A', m', c'⟩ (q ^ j)
    | _ => False, fun l _ => match l with | [.val (.int .i64 i), _] => n - i.toNat | _ => 0, ⟨0, rfl, by omega, hE2, by simpa using h2⟩, ?_⟩
  rintro b8 s9 s10 i11 W12 ⟨j, rfl, hj, hE, hq⟩
  have hq : IsRefQ 183 W12 b8 s9 s10 (q ^ j) := hq
  refine ⟨fun hlt => ?_, fun hge W18 hE18 => ⟨b8, s9, s10, rfl, ?_⟩⟩
  · have h2 := Nat.mul_le_mul hk (by omega : j ≤ 255)
    refine refQMul_call hq (h.ext hE) (Sz.powq hz j) hz (by omega) (by omega) fun b15 s16 s17 W14 hE14 h14 => ⟨b15, s16, s17, rfl, by unfold I64; omega, ⟨j + 1, by push_cast; rfl, by omega, hE.trans hE14, by rw [Rat.pow_succ]; exact h14⟩, ?_⟩
    show n - Int.toNat ((j : Int) + 1) < n - Int.toNat (j : Int)
    omega
  · have : j = n := by omega
    subst this
    exact hq.ext hE18
theorem refTimes_call {W0 W : PW} {M : Nat → Prop} {s t : Sl} {b : Bool} {q : Rat} {n k : Nat} {K : Value → PW → Prop} (h : IsRefQ 183 W b s t q) (hz : Sz k q) (hk : k ≤ 1048576) (hn : n ≤ 255) (kont : ∀ (b' : Bool) (s' : Sl) (t' : Sl) (W' : PW), Ext W W' → (IsRefQ 183 W' b' s' t' (q ^ n)) → K (.agg ⟨[.bool b', Sl.v s', Sl.v t']⟩) W') :
    callN Go.Proofs.Tryz.prog W0 M 81 [.agg ⟨[.bool b, s.v, t.v]⟩, .int .i64 (n : Int)] W K :=
  callN_of (fun W' hE => refTimes_ok (M := fun _ => False) (h.ext hE) hz hk hn) (fun W' v W'' hE hE' hP => by
    obtain ⟨b', s', t', rfl, h⟩ := hP
    exact kont b' s' t' W'' (hE.trans hE') h)
/-- A point's numbers. -/
structure Pt where
  x : Rat
  y : Rat
  z : Rat
def Pt.get (u : Pt) (k : Nat) : Rat := if k = 0 then u.x else if k = 1 then u.y else u.z
/-- A term's value, its first j powers taken. -/
def ctm (t : Tm) (u : Pt) : Nat → Rat
  | 0 => t.2
  | j + 1 => ctm t u j * u.get j ^ (eget t.1 j).toNat
def atQ (u : Pt) (p : List Tm) : Rat := p.foldl (fun a t => a + ctm t u 3) 0
theorem atQ_snoc (u : Pt) (l : List Tm) (t : Tm) : atQ u (l ++ [t]) = atQ u l + ctm t u 3 := by simp [atQ]
theorem ctm_sz {t : Tm} {u : Pt} {k l e : Nat} (ht : Sz k t.2) (hu : ∀ i, Sz l (u.get i)) (he : ∀ i, (eget t.1 i).toNat ≤ e) : ∀ j, Sz (k + j * (l * e + 1)) (ctm t u j)
  | 0 => by rw [Nat.zero_mul, Nat.add_zero]; exact ht
  | j + 1 => by
    have h1 := ctm_sz ht hu he j
    have h2 := Sz.powq (hu j) (eget t.1 j).toNat
    have h3 := Nat.mul_le_mul_left l (he j)
    exact (h1.mul h2).mono (by rw [Nat.add_mul, Nat.one_mul]; omega)
theorem atQ_sz {u : Pt} {k l e : Nat} {p : List Tm} (hp : ∀ t ∈ p, Sz k t.2) (hu : ∀ i, Sz l (u.get i)) (he : ∀ t ∈ p, ∀ i, (eget t.1 i).toNat ≤ e) : Sz (p.length * (k + 3 * (l * e + 1) + 1) + 1) (atQ u p) := by
  have key : ∀ j, j ≤ p.length → Sz (j * (k + 3 * (l * e + 1) + 1) + 1) (atQ u (p.take j)) := by
    intro j
    induction j with
    | zero => intro _; exact Sz.zero (by omega)
    | succ j ih =>
      intro hj
      have hjl : j < p.length := by omega
      rw [take_snocR hjl, atQ_snoc]
      have h1 := ih (by omega)
      have h2 := ctm_sz (hp _ (List.getElem_mem hjl)) hu (he _ (List.getElem_mem hjl)) 3
      refine (h1.add h2).mono ?_
      rw [Nat.add_mul, Nat.one_mul]
      omega
  have := key p.length (Nat.le_refl _)
  rwa [List.take_length] at this
theorem eget_le {m : Mon} (h : m.ok) (i : Nat) : (eget m i).toNat ≤ 255 := by
  have := eget_ok h i
  omega
def atO (W0 : PW) (p : List Tm) (u : Pt) (L : List PL) (W : PW) : Prop := match L with
  | [.val (.int .i64 i), .cells [.slice A m c, .bool x, .slice A' m' c']] => ∃ j : Nat, i = (j : Int) ∧ j ≤ p.length ∧ Ext W0 W ∧ IsRat 183 W ⟨A, m, c⟩ x ⟨A', m', c'⟩ (atQ u (p.take j))
  | _ => False
def atI (W1 : PW) (t : Tm) (u : Pt) (L : List PL) (W : PW) : Prop := match L with
  | [.val (.int .i64 i), .cells [.slice A m c, .bool x, .slice A' m' c']] => ∃ j : Nat, i = (j : Int) ∧ j ≤ 3 ∧ Ext W1 W ∧ IsRat 183 W ⟨A, m, c⟩ x ⟨A', m', c'⟩ (ctm t u j)
  | _ => False
theorem polyAt_ok {W0 : PW} {M : Nat → Prop} {s s0 t0 s1 t1 s2 t2 : Sl} {b0 b1 b2 : Bool} {p : List Tm} {u : Pt} {k l : Nat} (h : IsPoly 183 45 W0 s p) (g0 : IsRat 183 W0 s0 b0 t0 u.x) (g1 : IsRat 183 W0 s1 b1 t1 u.y) (g2 : IsRat 183 W0 s2 b2 t2 u.z) (hp : ∀ t ∈ p, Sz k t.2) (hu : ∀ i, Sz l (u.get i)) (hl : l ≤ 100000) (hb : p.length * (k + 3 * (l * 255 + 1) + 1) + 1 ≤ 400000000) (hk : k + 3 * (l * 255 + 1) ≤ 400000000) :
    PCallsM Go.Proofs.Tryz.prog 45 [.agg ⟨[s.v]⟩, .agg ⟨[s0.v, .bool b0, t0.v, s1.v, .bool b1, t1.v, s2.v, .bool b2, t2.v]⟩] W0 M fun v W' => ∃ (s' : Sl), ∃ (b' : Bool), ∃ (t' : Sl), v = .agg ⟨[Sl.v s', .bool b', Sl.v t']⟩ ∧ IsRat 183 W' s' b' t' (atQ u p) := by
  apply callpoly_At
  have hn := h.n
  have hpl : p.length ≤ 400000000 := by
    have := Nat.le_mul_of_pos_right p.length (show 0 < k + 3 * (l * 255 + 1) + 1 by omega)
    omega
  refine ⟨atO W0 p u, cn1 p.length, ⟨0, rfl, by omega, Ext.refl _, isRat_zero W0⟩, ?_⟩
  rintro s3 b4 s5 i6 W7 ⟨j, rfl, hj, hE7, hs⟩
  have hs : IsRat 183 W7 s3 b4 s5 (atQ u (p.take j)) := hs
  refine ⟨fun hlt => ?_, fun hge W40 hE40 => ⟨s3, b4, s5, rfl, ?_⟩⟩
  · have hjl : j < p.length := by omega
    have hP := h.ext hE7
    have hm := List.getElem_mem hjl
    obtain ⟨h0, c1, d1, c2, e1, _, _, hr⟩ := hP.at (List.getElem?_eq_getElem hjl)
    have hcs := fun i => ctm_sz (j := i) (hp _ hm) hu (fun i => eget_le h0 i)
    have hbd : ∀ i, i ≤ 3 → k + i * (l * 255 + 1) ≤ 400000000 := fun i hi => by
      have := Nat.mul_le_mul_right (l * 255 + 1) hi
      omega
    refine ⟨hP.inB (by omega) (by omega), _, _, _, c1, d1, c2, e1, atI W7 p[j] u, cn1 3, ⟨0, rfl, by omega, Ext.refl _, hr⟩, ?_⟩
    rintro s16 b17 s18 i19 W20 ⟨m, rfl, hm3, hE20, hc⟩
    have hc : IsRat 183 W20 s16 b17 s18 (ctm p[j] u m) := hc
    refine ⟨fun hlt' => ?_, fun hge' => ?_⟩
    · have hm3' : m < 3 := by omega
      have hmr : (0 : Int) ≤ (m : Int) ∧ (m : Int) < 3 := ⟨by omega, by omega⟩
      have hek := eget_ok h0 m
      have hE := hE7.trans hE20
      obtain ⟨x1, y1, z1, hbx, hux⟩ : ∃ (x1 : Sl) (y1 : Bool) (z1 : Sl), BoxAt [s0.v, .bool b0, t0.v, s1.v, .bool b1, t1.v, s2.v, .bool b2, t2.v] (0 + Int.toNat (m : Int) * 3 + 0) [x1.v, .bool y1, z1.v] ∧ IsRat 183 W20 x1 y1 z1 (u.get m) := by
        rcases (by omega : m = 0 ∨ m = 1 ∨ m = 2) with rfl | rfl | rfl
        · exact ⟨s0, b0, t0, ⟨by simp, rfl⟩, g0.ext hE⟩
        · exact ⟨s1, b1, t1, ⟨by simp, rfl⟩, g1.ext hE⟩
        · exact ⟨s2, b2, t2, ⟨by simp, rfl⟩, g2.ext hE⟩
      obtain ⟨n, hnn⟩ := Int.eq_ofNat_of_zero_le hek.1
      refine ⟨hmr, _, take_mon p[j].1 hm3', hmr, x1, y1, z1, hbx, by unfold I64; omega, ?_⟩
      rw [hnn]
      have hp2 := Nat.mul_le_mul_left l (by omega : n ≤ 255)
      refine ratPow_call hux (hu m) (by omega) (by omega) fun s27 b28 s29 W26 hE26 h26 => ⟨s27, b28, s29, rfl, ratMul_call (hc.ext hE26) h26 (hcs m) (Sz.powq (hu m) n) (by have := hbd m (by omega); omega) (by omega) fun s32 b33 s34 W31 hE31 h31 => ⟨s32, b33, s34, rfl, by unfold I64; omega, ⟨m + 1, by push_cast; rfl, by omega, hE20.trans (hE26.trans hE31), ?_⟩, ?_⟩⟩
      · show IsRat 183 W31 s32 b33 s34 (ctm p[j] u m * u.get m ^ (eget p[j].1 m).toNat)
        rw [hnn]
        exact h31
      · show 3 - Int.toNat ((m : Int) + 1) < 3 - Int.toNat (m : Int)
        omega
    · have : m = 3 := by omega
      subst this
      have hsz := atQ_sz (u := u) (p := p.take j) (k := k) (l := l) (e := 255) (fun t ht => hp t (List.mem_of_mem_take ht)) hu (fun t ht i => eget_le (h.ok t (List.mem_of_mem_take ht)) i)
      have hl2 : (p.take j).length * (k + 3 * (l * 255 + 1) + 1) ≤ p.length * (k + 3 * (l * 255 + 1) + 1) := Nat.mul_le_mul_right _ (by rw [List.length_take]; omega)
      refine ratAdd_call (hs.ext hE20) hc hsz (hcs 3) (by omega) (by omega) fun s37 b38 s39 W36 hE36 h36 => ⟨s37, b38, s39, rfl, by unfold I64; omega, ⟨j + 1, by push_cast; rfl, by omega, hE7.trans (hE20.trans hE36), ?_⟩, ?_⟩
      · rw [take_snocR hjl, atQ_snoc]
        exact h36
      · show p.length - Int.toNat ((j : Int) + 1) < p.length - Int.toNat (j : Int)
        omega
  · have : j = p.length := by omega
    subst this
    rw [List.take_length] at hs
    exact hs.ext hE40
theorem polyAt_call {W0 W : PW} {M : Nat → Prop} {s s0 t0 s1 t1 s2 t2 : Sl} {b0 b1 b2 : Bool} {p : List Tm} {u : Pt} {k l : Nat} {K : Value → PW → Prop} (h : IsPoly 183 45 W s p) (g0 : IsRat 183 W s0 b0 t0 u.x) (g1 : IsRat 183 W s1 b1 t1 u.y) (g2 : IsRat 183 W s2 b2 t2 u.z) (hp : ∀ t ∈ p, Sz k t.2) (hu : ∀ i, Sz l (u.get i)) (hl : l ≤ 100000) (hb : p.length * (k + 3 * (l * 255 + 1) + 1) + 1 ≤ 400000000) (hk : k + 3 * (l * 255 + 1) ≤ 400000000) (kont : ∀ (s' : Sl) (b' : Bool) (t' : Sl) (W' : PW), Ext W W' → (IsRat 183 W' s' b' t' (atQ u p)) → K (.agg ⟨[Sl.v s', .bool b', Sl.v t']⟩) W') :
    callN Go.Proofs.Tryz.prog W0 M 45 [.agg ⟨[s.v]⟩, .agg ⟨[s0.v, .bool b0, t0.v, s1.v, .bool b1, t1.v, s2.v, .bool b2, t2.v]⟩] W K :=
  callN_of (fun W' hE => polyAt_ok (M := fun _ => False) (h.ext hE) (g0.ext hE) (g1.ext hE) (g2.ext hE) hp hu hl hb hk) (fun W' v W'' hE hE' hP => by
    obtain ⟨s', b', t', rfl, h⟩ := hP
    exact kont s' b' t' W'' (hE.trans hE') h)
def atRO (W0 : PW) (p : List Tm) (u : Pt) (L : List PL) (W : PW) : Prop := match L with
  | [.val (.int .i64 i), .cells [.bool x, .slice A m c, .slice A' m' c']] => ∃ j : Nat, i = (j : Int) ∧ j ≤ p.length ∧ Ext W0 W ∧ IsRefQ 183 W x ⟨A, m, c⟩ ⟨A', m', c'⟩ (atQ u (p.take j))
  | _ => False
def atRI (W1 : PW) (t : Tm) (u : Pt) (L : List PL) (W : PW) : Prop := match L with
  | [.val (.int .i64 i), .cells [.bool x, .slice A m c, .slice A' m' c']] => ∃ j : Nat, i = (j : Int) ∧ j ≤ 3 ∧ Ext W1 W ∧ IsRefQ 183 W x ⟨A, m, c⟩ ⟨A', m', c'⟩ (ctm t u j)
  | _ => False
theorem refAt_ok {W0 : PW} {M : Nat → Prop} {s s0 t0 s1 t1 s2 t2 : Sl} {b0 b1 b2 : Bool} {p : List Tm} {u : Pt} {k l : Nat} (h : IsRPoly 183 47 W0 s p) (g0 : IsRefQ 183 W0 b0 s0 t0 u.x) (g1 : IsRefQ 183 W0 b1 s1 t1 u.y) (g2 : IsRefQ 183 W0 b2 s2 t2 u.z) (hp : ∀ t ∈ p, Sz k t.2) (hu : ∀ i, Sz l (u.get i)) (hl : l ≤ 100000) (hb : p.length * (k + 3 * (l * 255 + 1) + 1) + 1 ≤ 400000000) (hk : k + 3 * (l * 255 + 1) ≤ 400000000) :
    PCallsM Go.Proofs.Tryz.prog 46 [s.v, .agg ⟨[.bool b0, s0.v, t0.v, .bool b1, s1.v, t1.v, .bool b2, s2.v, t2.v]⟩] W0 M fun v W' => ∃ (b' : Bool), ∃ (s' : Sl), ∃ (t' : Sl), v = .agg ⟨[.bool b', Sl.v s', Sl.v t']⟩ ∧ IsRefQ 183 W' b' s' t' (atQ u p) := by
  apply callref1_At
  have hn := h.n
  have hpl : p.length ≤ 400000000 := by
    have := Nat.le_mul_of_pos_right p.length (show 0 < k + 3 * (l * 255 + 1) + 1 by omega)
    omega
  refine refRatOf_call (z := 0) (by unfold I64; omega) fun b3 s4 s5 W2 hE2 h2 => ⟨b3, s4, s5, rfl, ?_⟩
  refine ⟨atRO W0 p u, cn1 p.length, ⟨0, rfl, by omega, hE2, h2⟩, ?_⟩
  rintro b8 s9 s10 i11 W12 ⟨j, rfl, hj, hE7, hs⟩
  have hs : IsRefQ 183 W12 b8 s9 s10 (atQ u (p.take j)) := hs
  refine ⟨fun hlt => ?_, fun hge W42 hE42 => ⟨b8, s9, s10, rfl, ?_⟩⟩
  · have hjl : j < p.length := by omega
    have hP := h.ext hE7
    have hm := List.getElem_mem hjl
    obtain ⟨h0, c1, d1, c2, _, _, e3, hr⟩ := hP.at (List.getElem?_eq_getElem hjl)
    have hcs := fun i => ctm_sz (j := i) (hp _ hm) hu (fun i => eget_le h0 i)
    have hbd : ∀ i, i ≤ 3 → k + i * (l * 255 + 1) ≤ 400000000 := fun i hi => by
      have := Nat.mul_le_mul_right (l * 255 + 1) hi
      omega
    refine ⟨hP.inB (by omega) (by omega), c1, d1, c2, e3, atRI W12 p[j] u, cn1 3, ⟨0, rfl, by omega, Ext.refl _, hr⟩, ?_⟩
    rintro b18 s19 s20 i21 W22 ⟨m, rfl, hm3, hE20, hc⟩
    have hc : IsRefQ 183 W22 b18 s19 s20 (ctm p[j] u m) := hc
    refine ⟨fun hlt' => ?_, fun hge' => ?_⟩
    · have hm3' : m < 3 := by omega
      have hmr : (0 : Int) ≤ (m : Int) ∧ (m : Int) < 3 := ⟨by omega, by omega⟩
      have hek := eget_ok h0 m
      have hE := hE7.trans hE20
      obtain ⟨y1, x1, z1, hbx, hux⟩ : ∃ (y1 : Bool) (x1 : Sl) (z1 : Sl), BoxAt [.bool b0, s0.v, t0.v, .bool b1, s1.v, t1.v, .bool b2, s2.v, t2.v] (0 + Int.toNat (m : Int) * 3 + 0) [.bool y1, x1.v, z1.v] ∧ IsRefQ 183 W22 y1 x1 z1 (u.get m) := by
        rcases (by omega : m = 0 ∨ m = 1 ∨ m = 2) with rfl | rfl | rfl
        · exact ⟨b0, s0, t0, ⟨by simp, rfl⟩, g0.ext hE⟩
        · exact ⟨b1, s1, t1, ⟨by simp, rfl⟩, g1.ext hE⟩
        · exact ⟨b2, s2, t2, ⟨by simp, rfl⟩, g2.ext hE⟩
      obtain ⟨n, hnn⟩ := Int.eq_ofNat_of_zero_le hek.1
      have hel : ElemAt W22 s 6 j (0 + Int.toNat (m : Int) * 1) [.int .u8 (eget p[j].1 m)] := by
        obtain ⟨ys, r1, a1⟩ := hP.ext hE20
        obtain ⟨x, hx, _, d, e, f, rfl, _⟩ := a1.get (List.getElem?_eq_getElem hjl)
        rcases (by omega : m = 0 ∨ m = 1 ∨ m = 2) with rfl | rfl | rfl
        · exact r1.part hx 0 rfl
        · exact r1.part hx 1 rfl
        · exact r1.part hx 2 rfl
      refine ⟨hmr, y1, x1, z1, hbx, (hP.ext hE20).inB (by omega) (by omega), hmr, _, hel, by unfold I64; omega, ?_⟩
      rw [hnn]
      have hp2 := Nat.mul_le_mul_left l (by omega : n ≤ 255)
      refine refTimes_call hux (hu m) (by omega) (by omega) fun b29 s30 s31 W28 hE28 h28 => ⟨b29, s30, s31, rfl, hE28, refQMul_call (hc.ext hE28) h28 (hcs m) (Sz.powq (hu m) n) (by have := hbd m (by omega); omega) (by omega) fun b34 s35 s36 W33 hE33 h33 => ⟨b34, s35, s36, rfl, hE33, by unfold I64; omega, ⟨m + 1, by push_cast; rfl, by omega, hE20.trans (hE28.trans hE33), ?_⟩, ?_⟩⟩
      · show IsRefQ 183 W33 b34 s35 s36 (ctm p[j] u m * u.get m ^ (eget p[j].1 m).toNat)
        rw [hnn]
        exact h33
      · show 3 - Int.toNat ((m : Int) + 1) < 3 - Int.toNat (m : Int)
        omega
    · have : m = 3 := by omega
      subst this
      have hsz := atQ_sz (u := u) (p := p.take j) (k := k) (l := l) (e := 255) (fun t ht => hp t (List.mem_of_mem_take ht)) hu (fun t ht i => eget_le (h.ok t (List.mem_of_mem_take ht)) i)
      have hl2 : (p.take j).length * (k + 3 * (l * 255 + 1) + 1) ≤ p.length * (k + 3 * (l * 255 + 1) + 1) := Nat.mul_le_mul_right _ (by rw [List.length_take]; omega)
      refine refQAdd_call (hs.ext hE20) hc hsz (hcs 3) (by omega) (by omega) fun b39 s40 s41 W38 hE36 h36 => ⟨b39, s40, s41, rfl, by unfold I64; omega, ⟨j + 1, by push_cast; rfl, by omega, hE7.trans (hE20.trans hE36), ?_⟩, ?_⟩
      · rw [take_snocR hjl, atQ_snoc]
        exact h36
      · show p.length - Int.toNat ((j : Int) + 1) < p.length - Int.toNat (j : Int)
        omega
  · have : j = p.length := by omega
    subst this
    rw [List.take_length] at hs
    exact hs.ext hE42
theorem refAt_call {W0 W : PW} {M : Nat → Prop} {s s0 t0 s1 t1 s2 t2 : Sl} {b0 b1 b2 : Bool} {p : List Tm} {u : Pt} {k l : Nat} {K : Value → PW → Prop} (h : IsRPoly 183 47 W s p) (g0 : IsRefQ 183 W b0 s0 t0 u.x) (g1 : IsRefQ 183 W b1 s1 t1 u.y) (g2 : IsRefQ 183 W b2 s2 t2 u.z) (hp : ∀ t ∈ p, Sz k t.2) (hu : ∀ i, Sz l (u.get i)) (hl : l ≤ 100000) (hb : p.length * (k + 3 * (l * 255 + 1) + 1) + 1 ≤ 400000000) (hk : k + 3 * (l * 255 + 1) ≤ 400000000) (kont : ∀ (b' : Bool) (s' : Sl) (t' : Sl) (W' : PW), Ext W W' → (IsRefQ 183 W' b' s' t' (atQ u p)) → K (.agg ⟨[.bool b', Sl.v s', Sl.v t']⟩) W') :
    callN Go.Proofs.Tryz.prog W0 M 46 [s.v, .agg ⟨[.bool b0, s0.v, t0.v, .bool b1, s1.v, t1.v, .bool b2, s2.v, t2.v]⟩] W K :=
  callN_of (fun W' hE => refAt_ok (M := fun _ => False) (h.ext hE) (g0.ext hE) (g1.ext hE) (g2.ext hE) hp hu hl hb hk) (fun W' v W'' hE hE' hP => by
    obtain ⟨b', s', t', rfl, h⟩ := hP
    exact kont b' s' t' W'' (hE.trans hE') h)
end Go.Proofs.YtbingbjhgoanoaaGreat

/- cincturelaw8.Point. -/
set_option maxRecDepth 100000
set_option linter.unusedVariables false
set_option linter.unusedSimpArgs false
namespace Go.Proofs.YtbingbjhgoanoaaGreat
open Go Go.SX
def vS : Value → Sl
  | .slice a n c => ⟨a, n, c⟩
  | _ => ⟨none, 0, 0⟩
def vB : Value → Bool
  | .bool b => b
  | _ => false
def vat (c : List Value) (i : Nat) : Value := c.getD i (.bool false)
def IsPt (W : PW) (c d : List Value) (u : Pt) : Prop :=
  (∀ k, Sz 3 (u.get k)) ∧
  (IsRat 183 W (vS (vat c 0)) (vB (vat c 1)) (vS (vat c 2)) u.x ∧ IsRat 183 W (vS (vat c 3)) (vB (vat c 4)) (vS (vat c 5)) u.y ∧ IsRat 183 W (vS (vat c 6)) (vB (vat c 7)) (vS (vat c 8)) u.z) ∧
  (IsRefQ 183 W (vB (vat d 0)) (vS (vat d 1)) (vS (vat d 2)) u.x ∧ IsRefQ 183 W (vB (vat d 3)) (vS (vat d 4)) (vS (vat d 5)) u.y ∧ IsRefQ 183 W (vB (vat d 6)) (vS (vat d 7)) (vS (vat d 8)) u.z)
theorem IsPt.ext {W W' : PW} {c d : List Value} {u : Pt} (h : IsPt W c d u) (e : Ext W W') : IsPt W' c d u :=
  ⟨h.1, ⟨h.2.1.1.ext e, h.2.1.2.1.ext e, h.2.1.2.2.ext e⟩, ⟨h.2.2.1.ext e, h.2.2.2.1.ext e, h.2.2.2.2.ext e⟩⟩
def OkPt (ok : Bool) (W : PW) (c d : List Value) : Prop := ok = true → ∃ u : Pt, IsPt W c d u
def pointI (W0 : PW) (l : List PL) (W : PW) : Prop := match l with
  | [.val (.int .i64 i), .cells _, .cells _, .cells c, .cells d] => ∃ (j : Nat) (u : Pt), i = (j : Int) ∧ j ≤ 3 ∧ Ext W0 W ∧ IsPt W c d u
  | _ => False
def pointM (l : List PL) (_ : PW) : Nat := match l with
  | .val (.int .i64 i) :: _ => (3 - i).toNat
  | _ => 0
theorem Pt.sz {a b c : Rat} (ha : Sz 3 a) (hb : Sz 3 b) (hc : Sz 3 c) : ∀ k, Sz 3 ((Pt.mk a b c).get k) := fun k => by
  unfold Pt.get
  split
  · exact ha
  · split
    · exact hb
    · exact hc
theorem law8Point_ok {W0 : PW} {M : Nat → Prop} {a b c : ByteArray} (ha : a.size ≤ 1099511627776) (hb : b.size ≤ 1099511627776) (hc : c.size ≤ 1099511627776) :
    PCallsM Go.Proofs.Tryz.prog 43 [.agg ⟨[.string a, .string b, .string c]⟩] W0 M fun v W' => ∃ (s0 : Sl), ∃ (b0 : Bool), ∃ (t0 : Sl), ∃ (s1 : Sl), ∃ (b1 : Bool), ∃ (t1 : Sl), ∃ (s2 : Sl), ∃ (b2 : Bool), ∃ (t2 : Sl), ∃ (e0 : Bool), ∃ (p0 : Sl), ∃ (q0 : Sl), ∃ (e1 : Bool), ∃ (p1 : Sl), ∃ (q1 : Sl), ∃ (e2 : Bool), ∃ (p2 : Sl), ∃ (q2 : Sl), ∃ (ok : Bool), v = .tuple ⟨[.agg ⟨[Sl.v s0, .bool b0, Sl.v t0, Sl.v s1, .bool b1, Sl.v t1, Sl.v s2, .bool b2, Sl.v t2]⟩, .agg ⟨[.bool e0, Sl.v p0, Sl.v q0, .bool e1, Sl.v p1, Sl.v q1, .bool e2, Sl.v p2, Sl.v q2]⟩, .bool ok]⟩ ∧ OkPt ok W' [Sl.v s0, .bool b0, Sl.v t0, Sl.v s1, .bool b1, Sl.v t1, Sl.v s2, .bool b2, Sl.v t2] [.bool e0, Sl.v p0, Sl.v q0, .bool e1, Sl.v p1, Sl.v q1, .bool e2, Sl.v p2, Sl.v q2] := by
  apply calllaw8_Point
  refine ⟨pointI W0, pointM, ⟨0, ⟨0, 0, 0⟩, rfl, by omega, Ext.refl _, Pt.sz (Sz.zero (by omega)) (Sz.zero (by omega)) (Sz.zero (by omega)), ⟨isRat_nil W0, isRat_nil W0, isRat_nil W0⟩, ⟨isRefQ_nil W0, isRefQ_nil W0, isRefQ_nil W0⟩⟩, ?_⟩
  rintro s3 b4 s5 s6 b7 s8 s9 b10 s11 b12 s13 s14 b15 s16 s17 b18 s19 s20 s21 b22 s23 s24 b25 s26 s27 b28 s29 b30 s31 s32 b33 s34 s35 b36 s37 s38 i39 W40 ⟨j, u, rfl, hj, hE, hI⟩
  refine ⟨fun hlt => ?_, fun hge W54 hE54 => ⟨s21, b22, s23, s24, b25, s26, s27, b28, s29, b30, s31, s32, b33, s34, s35, b36, s37, s38, true, rfl, fun _ => ⟨u, hI.ext hE54⟩⟩⟩
  have hj3 : j < 3 := by omega
  obtain ⟨t, hbt, hts⟩ : ∃ t : ByteArray, BoxAt [.string a, .string b, .string c] (0 + Int.toNat (j : Int) * 1 + 0) [.string t] ∧ t.size ≤ 1099511627776 := by
    rcases (show j = 0 ∨ j = 1 ∨ j = 2 by omega) with rfl | rfl | rfl
    · exact ⟨a, ⟨by simp, rfl⟩, ha⟩
    · exact ⟨b, ⟨by simp, rfl⟩, hb⟩
    · exact ⟨c, ⟨by simp, rfl⟩, hc⟩
  refine ⟨⟨by omega, hlt⟩, t, hbt, law3Num_call hts fun s44 b45 s46 b47 s48 s49 W43 hE43 ⟨hq, hq2⟩ => ⟨s44, b45, s46, b47, s48, s49, _, rfl, fun hs W51 hE51 => ⟨s21, b22, s23, s24, b25, s26, s27, b28, s29, b30, s31, s32, b33, s34, s35, b36, s37, s38, false, rfl, fun h => by cases h⟩, fun hs => ⟨⟨by omega, hlt⟩, t, hbt, fun h16 W53 hE53 => ⟨s21, b22, s23, s24, b25, s26, s27, b28, s29, b30, s31, s32, b33, s34, s35, b36, s37, s38, false, rfl, fun h => by cases h⟩, fun h16 => ?_⟩⟩⟩
  obtain ⟨q, hq'⟩ := Option.isSome_iff_exists.1 (show (numQ t).isSome = true by simpa using hs)
  rw [hq'] at hq hq2
  have hq : IsRat 183 W43 s44 b45 s46 q := hq
  have hq2 : IsRefQ 183 W43 b47 s48 s49 q := hq2
  have hsq : Sz 3 q := by
    unfold numQ at hq'
    rw [if_pos (by omega)] at hq'
    exact (parseQ_sz hq').2 (by omega)
  obtain ⟨hz, ⟨c0, c1, c2⟩, ⟨d0, d1, d2⟩⟩ := hI.ext hE43
  have z0 : Sz 3 u.x := hz 0
  have z1 : Sz 3 u.y := hz 1
  have z2 : Sz 3 u.z := hz 2
  have hE' := hE.trans hE43
  refine ⟨⟨by omega, hlt⟩, by omega, ⟨⟨trivial, fun e => ?_⟩, fun e => ?_⟩, fun e => ?_⟩
  · refine ⟨⟨by omega, hlt⟩, by omega, ⟨⟨trivial, fun _ => ⟨by unfold I64; omega, ⟨j + 1, ⟨q, u.y, u.z⟩, by push_cast; rfl, by omega, hE', Pt.sz hsq z1 z2, ⟨hq, c1, c2⟩, ⟨hq2, d1, d2⟩⟩, by show (3 - ((j : Int) + 1)).toNat < (3 - (j : Int)).toNat; omega⟩⟩, fun f => (by omega)⟩, fun f => (by omega)⟩
  · refine ⟨⟨by omega, hlt⟩, by omega, ⟨⟨trivial, fun f => (by omega)⟩, fun _ => ⟨by unfold I64; omega, ⟨j + 1, ⟨u.x, q, u.z⟩, by push_cast; rfl, by omega, hE', Pt.sz z0 hsq z2, ⟨c0, hq, c2⟩, ⟨d0, hq2, d2⟩⟩, by show (3 - ((j : Int) + 1)).toNat < (3 - (j : Int)).toNat; omega⟩⟩, fun f => (by omega)⟩
  · refine ⟨⟨by omega, hlt⟩, by omega, ⟨⟨trivial, fun f => (by omega)⟩, fun f => (by omega)⟩, fun _ => ⟨by unfold I64; omega, ⟨j + 1, ⟨u.x, u.y, q⟩, by push_cast; rfl, by omega, hE', Pt.sz z0 z1 hsq, ⟨c0, c1, hq⟩, ⟨d0, d1, hq2⟩⟩, by show (3 - ((j : Int) + 1)).toNat < (3 - (j : Int)).toNat; omega⟩⟩
theorem law8Point_call {W0 W : PW} {M : Nat → Prop} {a b c : ByteArray} {K : Value → PW → Prop} (ha : a.size ≤ 1099511627776) (hb : b.size ≤ 1099511627776) (hc : c.size ≤ 1099511627776) (kont : ∀ (s0 : Sl) (b0 : Bool) (t0 : Sl) (s1 : Sl) (b1 : Bool) (t1 : Sl) (s2 : Sl) (b2 : Bool) (t2 : Sl) (e0 : Bool) (p0 : Sl) (q0 : Sl) (e1 : Bool) (p1 : Sl) (q1 : Sl) (e2 : Bool) (p2 : Sl) (q2 : Sl) (ok : Bool) (W' : PW), Ext W W' → (OkPt ok W' [Sl.v s0, .bool b0, Sl.v t0, Sl.v s1, .bool b1, Sl.v t1, Sl.v s2, .bool b2, Sl.v t2] [.bool e0, Sl.v p0, Sl.v q0, .bool e1, Sl.v p1, Sl.v q1, .bool e2, Sl.v p2, Sl.v q2]) → K (.tuple ⟨[.agg ⟨[Sl.v s0, .bool b0, Sl.v t0, Sl.v s1, .bool b1, Sl.v t1, Sl.v s2, .bool b2, Sl.v t2]⟩, .agg ⟨[.bool e0, Sl.v p0, Sl.v q0, .bool e1, Sl.v p1, Sl.v q1, .bool e2, Sl.v p2, Sl.v q2]⟩, .bool ok]⟩) W') :
    callN Go.Proofs.Tryz.prog W0 M 43 [.agg ⟨[.string a, .string b, .string c]⟩] W K :=
  callN_of (fun W' hE => law8Point_ok (M := fun _ => False) ha hb hc) (fun W' v W'' hE hE' hP => by
    obtain ⟨s0, b0, t0, s1, b1, t1, s2, b2, t2, e0, p0, q0, e1, p1, q1, e2, p2, q2, ok, rfl, h⟩ := hP
    exact kont s0 b0 t0 s1 b1 t1 s2 b2 t2 e0 p0 q0 e1 p1 q1 e2 p2 q2 ok W'' (hE.trans hE') h)
end Go.Proofs.YtbingbjhgoanoaaGreat

/- An argument that is a slice of terms with texts, opened. -/
set_option maxRecDepth 100000
set_option linter.unusedVariables false
set_option linter.unusedSimpArgs false
namespace Go.Proofs.YtbingbjhgoanoaaGreat
open Go Go.SX Go.ChangeShapes Go.WideShapes Go.ChangeAt Go.RowKit Go.Deep
instance : Inhabited (Mon × ByteArray) := ⟨(⟨0, 0, 0⟩, ⟨#[]⟩)⟩
theorem ownKnob_none : ownKnob Go.Proofs.Tryz.prog.godebug = none := by kernel_rfl
theorem laidOut : laidOutB Go.Proofs.Tryz.prog = true := by kernel_rfl
theorem cells_term : Go.Proofs.Tryz.prog.cellsOf 43 = 4 := by kernel_rfl
theorem cells_mono : Go.Proofs.Tryz.prog.cellsOf 41 = 3 := by kernel_rfl
theorem cells_str : Go.Proofs.Tryz.prog.cellsOf 9 = 1 := by kernel_rfl
theorem cells_u8 : Go.Proofs.Tryz.prog.cellsOf 5 = 1 := by kernel_rfl
theorem cell_block {W : World} {b o : Nat} {v : Value} (h : W.cell? ⟨b, o, none⟩ = some v) : ∃ cs t fz, W.heap[b]? = some (.cells cs t fz) ∧ cs[o]? = some v := by
  unfold World.cell? at h
  cases e : W.heap[b]? with
  | none => simp [e] at h
  | some ob =>
    cases ob with
    | cells cs t fz => exact ⟨cs, t, fz, rfl, by simpa [e] using h⟩
    | _ => simp [e] at h
theorem bulk_one {H : Type} (d : DataW H) : 1 ≤ Rows.uptoBulk d := by
  cases d with
  | lit l => cases l <;> simp [Rows.uptoBulk]
  | nil => simp [Rows.uptoBulk]
  | ptr d => simp [Rows.uptoBulk]
  | slice elems spare => simp [Rows.uptoBulk]
  | agg parts => simp [Rows.uptoBulk]
  | iface t d => simp [Rows.uptoBulk]
  | map entries => simp [Rows.uptoBulk]
  | held h => simp [Rows.uptoBulk]
theorem bulk_part {H : Type} {d : DataW H} {l : List (DataW H)} (h : d ∈ l) : Rows.uptoBulk d ≤ Rows.uptoBulkAll l := by
  induction l with
  | nil => cases h
  | cons x r ih =>
    simp only [Rows.uptoBulkAll]
    cases List.mem_cons.1 h with
    | inl e => subst e; omega
    | inr e => have := ih e; omega
theorem bulk_length {H : Type} (l : List (DataW H)) : l.length ≤ Rows.uptoBulkAll l := by
  induction l with
  | nil => simp [Rows.uptoBulkAll]
  | cons x r ih => have := bulk_one x; simp only [Rows.uptoBulkAll, List.length_cons]; omega
/-- Rows of sz cells each. -/
theorem rowA_of_cellsN {W : World} {a : Addr} {n c sz : Nat} {V : Nat → List Value} (h : ∀ j, j < n → ∀ i v, (V j)[i]? = some v → W.cell? (a.add (j * sz + i)) = some v) (hV : ∀ j, j < n → (V j).length = sz) (hsz : 0 < sz) (hn : n ≤ c) (hc : c ≤ maxLen) (h1 : ∀ j, j < n → ∀ u ∈ V j, u.oneCell' = true) :
    RowA ⟨W, fun _ => False⟩ sz ⟨some a, n, c⟩ ((List.range n).map V) := by
  have hel : ∀ x ∈ (List.range n).map V, x.length = sz ∧ ∀ u ∈ x, u.oneCell' = true := by
    intro x hx
    obtain ⟨j, hj, rfl⟩ := List.mem_map.1 hx
    exact ⟨hV j (List.mem_range.1 hj), h1 j (List.mem_range.1 hj)⟩
  by_cases h0 : n = 0
  · subst h0
    exact ⟨0, rfl, Nat.zero_le _, hc, hel, .inl rfl⟩
  · obtain ⟨b, off, sp⟩ := a
    have hlen0 := hV 0 (by omega)
    obtain ⟨v0, hv0⟩ : ∃ v, (V 0)[0]? = some v := ⟨_, List.getElem?_eq_getElem (by omega)⟩
    have hc0 := h 0 (by omega) 0 v0 hv0
    have hsp : sp = none := by simpa [Addr.add] using World.cell?_spot hc0
    subst hsp
    obtain ⟨cs, t, fz, hh, _⟩ := cell_block (by rw [← add_plain]; exact hc0)
    refine ⟨t, by simp, hn, hc, hel, .inr ⟨b, off, cs, fz, rfl, id, hh, fun j v hj => ?_⟩⟩
    have hjl := (List.getElem?_eq_some_iff.1 hj).1
    rw [flatten_length (sz := sz) (fun x hx => (hel x hx).1)] at hjl
    simp only [List.length_map, List.length_range] at hjl
    have hi : j / sz < n := (Nat.div_lt_iff_lt_mul hsz).2 hjl
    have hm : j % sz < sz := Nat.mod_lt _ hsz
    have e : j / sz * sz + j % sz = j := by rw [Nat.mul_comm]; exact Nat.div_add_mod j sz
    have hx : ((List.range n).map V)[j / sz]? = some (V (j / sz)) := by simp [hi]
    have hl := hV _ hi
    have hf := flatten_at (sz := sz) (fun x hx => (hel x hx).1) hx (j := j % sz) (v := (V (j / sz))[j % sz]'(by omega)) (List.getElem?_eq_getElem (by omega))
    rw [e, hj] at hf
    have hcell := h _ hi (j % sz) v (by rw [hf]; exact List.getElem?_eq_getElem (by omega))
    rw [e, add_plain] at hcell
    obtain ⟨cs', t', fz', hh', hv⟩ := cell_block hcell
    rw [hh] at hh'
    cases hh'
    exact hv
theorem u8_ok {n : Int} (h : (Lit.int .u8 n).wf = true) : 0 ≤ n ∧ n ≤ 255 := by
  simp [Lit.wf, IntKind.min, IntKind.max, IntKind.bits, IntKind.signed] at h
  omega
/-- An element. -/
theorem open_term {H : Type} {enc : TypeId × Value → H} {W : World} {fuel : Nat} {cs : List Value} {x : DataW H × List MemPlace} (h : DataW.trod enc Go.Proofs.Tryz.prog W 0 (fun _ => true) true fuel 43 cs = some x) :
    ∃ t : Mon × ByteArray, AT cs t ∧ t.2.size ≤ Rows.uptoBulk x.1 := by
  obtain ⟨xs, k, rfl, rfl, hl, hxl, hf⟩ := DataW.trod_struct Go.Proofs.Tryz.underlying43 h
  rw [cells_term] at hl
  have g0 : DataW.trod enc Go.Proofs.Tryz.prog W 0 (fun _ => true) true k 41 ((cs.drop 0).take (Go.Proofs.Tryz.prog.cellsOf 41)) = xs[0]? := hf 0 _ rfl
  have g1 : DataW.trod enc Go.Proofs.Tryz.prog W 0 (fun _ => true) true k 9 ((cs.drop 3).take (Go.Proofs.Tryz.prog.cellsOf 9)) = xs[1]? := hf 1 _ rfl
  rw [cells_mono] at g0
  rw [cells_str] at g1
  match cs, hl, xs, hxl with
  | [v0, v1, v2, v3], _, [y0, y1], _ =>
    have g0 : DataW.trod enc Go.Proofs.Tryz.prog W 0 (fun _ => true) true k 41 [v0, v1, v2] = some y0 := g0
    have g1 : DataW.trod enc Go.Proofs.Tryz.prog W 0 (fun _ => true) true k 9 [v3] = some y1 := g1
    obtain ⟨zs, m, rfl, rfl, _, hzl, hz⟩ := DataW.trod_array Go.Proofs.Tryz.underlying41 g0
    obtain ⟨s, hs, rfl, hsz⟩ := DataW.trod_string Go.Proofs.Tryz.underlying9 g1
    have e0 := hz 0 (by omega)
    have e1 := hz 1 (by omega)
    have e2 := hz 2 (by omega)
    rw [cells_u8] at e0 e1 e2
    match zs, hzl with
    | [w0, w1, w2], _ =>
      have e0 : DataW.trod enc Go.Proofs.Tryz.prog W 0 (fun _ => true) true m 5 [v0] = some w0 := e0
      have e1 : DataW.trod enc Go.Proofs.Tryz.prog W 0 (fun _ => true) true m 5 [v1] = some w1 := e1
      have e2 : DataW.trod enc Go.Proofs.Tryz.prog W 0 (fun _ => true) true m 5 [v2] = some w2 := e2
      obtain ⟨n0, h0, _, k0⟩ := DataW.trod_int Go.Proofs.Tryz.underlying5 e0
      obtain ⟨n1, h1, _, k1⟩ := DataW.trod_int Go.Proofs.Tryz.underlying5 e1
      obtain ⟨n2, h2, _, k2⟩ := DataW.trod_int Go.Proofs.Tryz.underlying5 e2
      have hs : [v3] = [Value.string s] := hs
      have h0 : [v0] = [Value.int .u8 n0] := h0
      have h1 : [v1] = [Value.int .u8 n1] := h1
      have h2 : [v2] = [Value.int .u8 n2] := h2
      simp only [List.cons.injEq, and_true] at hs h0 h1 h2
      subst hs h0 h1 h2
      refine ⟨(⟨n0, n1, n2⟩, s), ⟨⟨u8_ok k0, u8_ok k1, u8_ok k2⟩, rfl⟩, ?_⟩
      have e : s.data.toList.length = s.size := by rw [Array.length_toList]; rfl
      simp only [List.map_cons, List.map_nil, Rows.uptoBulk, Rows.uptoBulkAll]
      omega
theorem all2_map {n : Nat} {V : Nat → List Value} {y : Nat → Mon × ByteArray} (h : ∀ i, i < n → AT (V i) (y i)) : All2 AT ((List.range n).map V) ((List.range n).map y) := by
  induction n with
  | zero => trivial
  | succ n ih =>
    rw [List.range_succ, List.map_append, List.map_append]
    exact (ih fun i hi => h i (by omega)).append ⟨h n (by omega), trivial⟩
theorem open_terms {H : Type} {enc : TypeId × Value → H} {W : World} {fuel : Nat} {v : Value} {d : DataW H} {p : List MemPlace} (h : DataW.trod enc Go.Proofs.Tryz.prog W 0 (fun _ => true) true fuel 22 [v] = some (d, p)) :
    ∃ (s : Sl) (L : List (Mon × ByteArray)), v = s.v ∧ IsAPoly ⟨W, fun _ => False⟩ s L ∧ L.length ≤ Rows.uptoBulk d ∧ ∀ t ∈ L, t.2.size ≤ Rows.uptoBulk d := by
  rcases open_slice Go.Proofs.Tryz.underlying22 h with ⟨hcs, hx⟩ | ⟨a, len, cap, m, n, D, Pl, hcs, _, hl, hm, hmm, hx, hcell⟩
  · have hv : v = .slice none 0 0 := by simpa using hcs
    subst hv
    exact ⟨⟨none, 0, 0⟩, [], rfl, ⟨[], ⟨0, rfl, Nat.le_refl _, Nat.zero_le _, fun x h => by simp at h, .inl rfl⟩, trivial⟩, Nat.zero_le _, fun l h => by simp at h⟩
  · have hv : v = .slice (some a) len cap := by simpa using hcs
    subst hv
    simp only [if_true] at hmm
    subst hmm
    simp only [Prod.mk.injEq] at hx
    obtain ⟨rfl, _⟩ := hx
    rw [cells_term] at hcell
    obtain ⟨q, hq⟩ : ∃ q : Nat → List Value × (Mon × ByteArray), ∀ i, i < m → W.cells? 0 (a.add (i * 4)) 4 = some (q i).1 ∧ AT (q i).1 (q i).2 ∧ (q i).2.2.size ≤ Rows.uptoBulk (D i) := choose_lt (α := List Value × (Mon × ByteArray)) (p := fun i q => W.cells? 0 (a.add (i * 4)) 4 = some q.1 ∧ AT q.1 q.2 ∧ q.2.2.size ≤ Rows.uptoBulk (D i)) fun i hi => by
      obtain ⟨cs', h1, h2⟩ := hcell i hi
      obtain ⟨t, h3, h4⟩ := open_term h2
      exact ⟨(cs', t), h1, h3, h4⟩
    have hr := rowA_of_cellsN (W := W) (a := a) (n := len) (c := m) (sz := 4) (V := fun i => (q i).1) (fun j hj i v hv => by
      obtain ⟨_, hlen, hc⟩ := World.cells?_some (hq j (by omega)).1
      have hi : i < 4 := by have := (List.getElem?_eq_some_iff.1 hv).1; omega
      have := hc i hi
      rw [add_add] at this
      rw [this]; exact hv) (fun j hj => (World.cells?_some (hq j (by omega)).1).2.1) (by omega) hl hm (fun j hj u hu => by
      rw [(hq j (by omega)).2.1.2] at hu
      simp only [List.mem_cons, List.not_mem_nil, or_false] at hu
      rcases hu with rfl | rfl | rfl | rfl <;> rfl)
    have hbulk : ∀ i, i < len → Rows.uptoBulk (D i) ≤ Rows.uptoBulkAll ((List.range len).map D) := fun i hi => bulk_part (List.mem_map.2 ⟨i, List.mem_range.2 hi, rfl⟩)
    have hlen := bulk_length ((List.range len).map D)
    simp only [List.length_map, List.length_range] at hlen
    refine ⟨⟨some a, len, m⟩, (List.range len).map fun i => (q i).2, rfl, ⟨_, hr, all2_map fun i hi => (hq i (by omega)).2.1⟩, ?_, fun t ht => ?_⟩
    · simp only [List.length_map, List.length_range, Rows.uptoBulk]
      omega
    · obtain ⟨j, hj, rfl⟩ := List.mem_map.1 ht
      have hj' := List.mem_range.1 hj
      have h1 := hbulk j hj'
      have h2 := (hq j (by omega)).2.2
      simp only [Rows.uptoBulk]
      omega
end Go.Proofs.YtbingbjhgoanoaaGreat
