/- rat: least. -/
import Derived.Test.YtbingbjhgoanoaaGreatW5
import Derived.Test.YtbingbjhgoanoaaGreatR4
set_option linter.unusedVariables false
set_option linter.unusedSimpArgs false
set_option maxRecDepth 100000
set_option linter.unusedVariables false
set_option linter.unusedSimpArgs false
namespace Go.Proofs.YtbingbjhgoanoaaGreat
open Go Go.SX
theorem sgn_div {z : Int} {g : Nat} (hz : z ≠ 0) (hg : g ∣ z.natAbs) : (if decide (sgnI z < 0) = true then -((z.natAbs / g : Nat) : Int) else ((z.natAbs / g : Nat) : Int)) = z / (g : Int) := by
  obtain ⟨k, hk⟩ := hg
  rcases Nat.eq_zero_or_pos g with rfl | hg0
  · omega
  have hkk : z.natAbs / g = k := by rw [hk, Nat.mul_div_cancel_left _ hg0]
  rw [hkk]
  by_cases h : z < 0
  · have e1 : sgnI z < 0 := by simp [sgnI, h]
    rw [if_pos (decide_eq_true e1)]
    have e2 : z = (g : Int) * -(k : Int) := by
      have : z = -((z.natAbs : Nat) : Int) := by omega
      rw [this, hk, Int.natCast_mul, Int.mul_neg]
    rw [e2, Int.mul_ediv_cancel_left _ (by omega)]
  · have e1 : ¬ sgnI z < 0 := by simp [sgnI, h, hz]
    rw [if_neg (by rw [decide_eq_false e1]; decide)]
    have e2 : z = (g : Int) * (k : Int) := by
      have : z = ((z.natAbs : Nat) : Int) := by omega
      rw [this, hk, Int.natCast_mul]
    rw [e2, Int.mul_ediv_cancel_left _ (by omega)]
theorem ratLeast_ok {W0 : PW} {M : Nat → Prop} {s t : Sl} {b : Bool} {z : Int} {y : Nat} (h1 : IsInt 183 W0 s b z) (h2 : IsNat 183 W0 t y) (hz : nl z.natAbs ≤ 137438953472) (hy : nl y ≤ 137438953472) :
    PCallsM Go.Proofs.Tryz.prog 91 [.agg #[s.v, .bool b], .agg #[t.v]] W0 M fun v W' => ∃ (r : Sl), ∃ (c : Bool), ∃ (u : Sl), v = .agg #[Sl.v r, .bool c, Sl.v u] ∧ IsRat 183 W' r c u (mkRat z (max y 1)) := by
  apply callrat_least
  have whole : ∀ (W : PW), Ext W0 W → mkRat z (max y 1) = (z : Rat) → IsRat 183 W s b ⟨none, 0, 0⟩ (mkRat z (max y 1)) := fun W hE e => by
    rw [e]
    refine ⟨by rw [Rat.num_intCast]; exact h1.ext hE, ?_⟩
    have : dn (z : Rat) = 0 := by unfold dn; rw [Rat.den_intCast]; rfl
    rw [this]
    exact isNat_nil W
  refine natBits_call h2 (by omega) fun W2 hE2 _ => ⟨_, rfl, fun hlt => fun W4 hE4 => ?_, fun hge => ?_⟩
  · have hy1 : y < 2 := blen_lt_two.1 (by omega)
    refine ⟨s, b, ⟨none, 0, 0⟩, rfl, whole W4 (hE2.trans hE4) ?_⟩
    rw [show max y 1 = 1 by omega]
    have := Rat.mkRat_self (z : Rat)
    rwa [Rat.num_intCast, Rat.den_intCast] at this
  have hy2 : 2 ≤ y := by
    apply Nat.le_of_not_lt
    intro h
    have := (blen_lt_two (x := y)).2 h
    omega
  refine wholeSign_call (h1.ext hE2) (by omega) fun W3 hE3 _ => ⟨_, rfl, fun h0 W5 hE5 => ?_, fun h0 => ?_⟩
  · have hz0 : z = 0 := by
      unfold sgnI at h0
      split at h0
      · omega
      · split at h0
        · assumption
        · omega
    refine ⟨s, b, ⟨none, 0, 0⟩, rfl, whole W5 ((hE2.trans hE3).trans hE5) ?_⟩
    rw [hz0]
    simp
  have hz0 : z ≠ 0 := fun e => h0 (by rw [e]; rfl)
  have hmax : max y 1 = y := by omega
  rw [hmax]
  have hy0 : y ≠ 0 := by omega
  have hnum : (mkRat z y).num = z / ((Nat.gcd y z.natAbs : Nat) : Int) := by rw [Rat.num_mkRat, if_neg hy0]
  have hden : (mkRat z y).den = y / Nat.gcd y z.natAbs := by rw [Rat.den_mkRat, if_neg hy0]
  have hgpos : 0 < Nat.gcd y z.natAbs := Nat.gcd_pos_of_pos_left _ (by omega)
  have hgle : Nat.gcd y z.natAbs ≤ y := Nat.le_of_dvd (by omega) (Nat.gcd_dvd_left _ _)
  have hgn : nl (Nat.gcd y z.natAbs) ≤ 137438953472 := Nat.le_trans (nl_mono hgle) hy
  have hE03 := hE2.trans hE3
  refine ⟨?_, ?_⟩
  · refine wholeAbs_call (h1.ext hE03) fun s7 W6 hE6 h7 => ⟨s7, rfl, ?_⟩
    refine dup_of ?_ 1
    refine natGcd_call ((h2.ext hE03).ext hE6) h7 (by omega) (by omega) fun s10 W9 hE9 h10 => ⟨s10, rfl, ?_⟩
    refine natBits_call h10 (by omega) fun W12 hE11 _ => ⟨_, rfl, ?_⟩
    have hE12 : Ext W0 W12 := ((hE03.trans hE6).trans hE9).trans hE11
    have hg10 := h10.ext hE11
    refine ⟨fun hgt => ⟨?_, ?_⟩, fun hgt => ?_⟩
    · refine wholeAbs_call (h1.ext hE12) fun s16 W15 hE15 h16 => ⟨s16, rfl, ?_, ?_⟩
      · refine natDiv_call h16 (hg10.ext hE15) (by omega) (by omega) fun s19 s20 W18 hE17 ⟨h19, _⟩ => ⟨_, _, _, rfl, ?_⟩
        refine dup_of ?_ 1
        have hE18 : Ext W0 W18 := hE12.trans (hE15.trans hE17)
        have hEg : Ext W12 W18 := hE15.trans hE17
        refine natDiv_call (h2.ext hE18) (hg10.ext hEg) (by omega) (by omega) fun s24 s25 W23 hE23 ⟨h24, _⟩ => ⟨_, _, _, rfl, ?_⟩
        refine wholeSign_call ((h1.ext hE18).ext hE23) (by omega) fun W28 hE28 _ => ⟨_, rfl, ?_⟩
        refine wholeFrom_call ((h19.ext hE23).ext hE28) (Nat.le_trans (nl_mono (Nat.div_le_self _ _)) (by omega)) fun s32 b33 W31 hE31 h32 => ⟨s32, b33, rfl, ?_⟩
        rw [sgn_div hz0 (Nat.gcd_dvd_right y z.natAbs), ← hnum] at h32
        have h24' := ((h24.ext hE28).ext hE31)
        rw [← hden] at h24'
        have hdl : (mkRat z y).den ≤ y := by rw [hden]; exact Nat.div_le_self _ _
        refine natBits_call h24' (Nat.le_trans (nl_mono hdl) (by omega)) fun W35 hE35 _ => ⟨_, rfl, fun hi W37 hE37 => ?_, fun hi W38 hE38 => ?_⟩
        · have hd1 : (mkRat z y).den = 1 := by
            have := (mkRat z y).den_pos
            have := (blen_lt_two (x := (mkRat z y).den)).1 (by omega)
            omega
          exact ⟨s32, b33, ⟨none, 0, 0⟩, rfl, (h32.ext hE35).ext hE37, by rw [dn, if_pos hd1]; exact isNat_nil _⟩
        · have hd1 : (mkRat z y).den ≠ 1 := fun e => hi (by rw [e]; decide)
          exact ⟨s32, b33, s24, rfl, (h32.ext hE35).ext hE38, by rw [dn, if_neg hd1]; exact (h24'.ext hE35).ext hE38⟩
      · refine dup_of ?_ 1
        refine dup_of ?_ 1
        refine natDiv_call h16 (hg10.ext hE15) (by omega) (by omega) fun s19 s20 W18 hE17 ⟨h19, _⟩ => ⟨_, _, _, rfl, ?_⟩
        have hE18 : Ext W0 W18 := hE12.trans (hE15.trans hE17)
        have hEg : Ext W12 W18 := hE15.trans hE17
        refine natDiv_call (h2.ext hE18) (hg10.ext hEg) (by omega) (by omega) fun s24 s25 W23 hE23 ⟨h24, _⟩ => ⟨_, _, _, rfl, ?_⟩
        refine wholeSign_call ((h1.ext hE18).ext hE23) (by omega) fun W28 hE28 _ => ⟨_, rfl, ?_⟩
        refine wholeFrom_call ((h19.ext hE23).ext hE28) (Nat.le_trans (nl_mono (Nat.div_le_self _ _)) (by omega)) fun s32 b33 W31 hE31 h32 => ⟨s32, b33, rfl, ?_⟩
        rw [sgn_div hz0 (Nat.gcd_dvd_right y z.natAbs), ← hnum] at h32
        have h24' := ((h24.ext hE28).ext hE31)
        rw [← hden] at h24'
        have hdl : (mkRat z y).den ≤ y := by rw [hden]; exact Nat.div_le_self _ _
        refine natBits_call h24' (Nat.le_trans (nl_mono hdl) (by omega)) fun W35 hE35 _ => ⟨_, rfl, fun hi W37 hE37 => ?_, fun hi W38 hE38 => ?_⟩
        · have hd1 : (mkRat z y).den = 1 := by
            have := (mkRat z y).den_pos
            have := (blen_lt_two (x := (mkRat z y).den)).1 (by omega)
            omega
          exact ⟨s32, b33, ⟨none, 0, 0⟩, rfl, (h32.ext hE35).ext hE37, by rw [dn, if_pos hd1]; exact isNat_nil _⟩
        · have hd1 : (mkRat z y).den ≠ 1 := fun e => hi (by rw [e]; decide)
          exact ⟨s32, b33, s24, rfl, (h32.ext hE35).ext hE38, by rw [dn, if_neg hd1]; exact (h24'.ext hE35).ext hE38⟩
    · refine dup_of ?_ 1
      refine ⟨?_, ?_⟩
      · refine wholeAbs_call (h1.ext hE12) fun s16 W15 hE15 h16 => ⟨s16, rfl, ?_⟩
        refine dup_of ?_ 1
        refine natDiv_call h16 (hg10.ext hE15) (by omega) (by omega) fun s19 s20 W18 hE17 ⟨h19, _⟩ => ⟨_, _, _, rfl, ?_⟩
        have hE18 : Ext W0 W18 := hE12.trans (hE15.trans hE17)
        have hEg : Ext W12 W18 := hE15.trans hE17
        refine natDiv_call (h2.ext hE18) (hg10.ext hEg) (by omega) (by omega) fun s24 s25 W23 hE23 ⟨h24, _⟩ => ⟨_, _, _, rfl, ?_⟩
        refine wholeSign_call ((h1.ext hE18).ext hE23) (by omega) fun W28 hE28 _ => ⟨_, rfl, ?_⟩
        refine wholeFrom_call ((h19.ext hE23).ext hE28) (Nat.le_trans (nl_mono (Nat.div_le_self _ _)) (by omega)) fun s32 b33 W31 hE31 h32 => ⟨s32, b33, rfl, ?_⟩
        rw [sgn_div hz0 (Nat.gcd_dvd_right y z.natAbs), ← hnum] at h32
        have h24' := ((h24.ext hE28).ext hE31)
        rw [← hden] at h24'
        have hdl : (mkRat z y).den ≤ y := by rw [hden]; exact Nat.div_le_self _ _
        refine natBits_call h24' (Nat.le_trans (nl_mono hdl) (by omega)) fun W35 hE35 _ => ⟨_, rfl, fun hi W37 hE37 => ?_, fun hi W38 hE38 => ?_⟩
        · have hd1 : (mkRat z y).den = 1 := by
            have := (mkRat z y).den_pos
            have := (blen_lt_two (x := (mkRat z y).den)).1 (by omega)
            omega
          exact ⟨s32, b33, ⟨none, 0, 0⟩, rfl, (h32.ext hE35).ext hE37, by rw [dn, if_pos hd1]; exact isNat_nil _⟩
        · have hd1 : (mkRat z y).den ≠ 1 := fun e => hi (by rw [e]; decide)
          exact ⟨s32, b33, s24, rfl, (h32.ext hE35).ext hE38, by rw [dn, if_neg hd1]; exact (h24'.ext hE35).ext hE38⟩
      · refine wholeAbs_call (h1.ext hE12) fun s16 W15 hE15 h16 => ⟨s16, rfl, ?_⟩
        refine natDiv_call h16 (hg10.ext hE15) (by omega) (by omega) fun s19 s20 W18 hE17 ⟨h19, _⟩ => ⟨_, _, _, rfl, ?_⟩
        have hE18 : Ext W0 W18 := hE12.trans (hE15.trans hE17)
        have hEg : Ext W12 W18 := hE15.trans hE17
        refine natDiv_call (h2.ext hE18) (hg10.ext hEg) (by omega) (by omega) fun s24 s25 W23 hE23 ⟨h24, _⟩ => ⟨_, _, _, rfl, ?_⟩
        refine wholeSign_call ((h1.ext hE18).ext hE23) (by omega) fun W28 hE28 _ => ⟨_, rfl, ?_⟩
        refine wholeFrom_call ((h19.ext hE23).ext hE28) (Nat.le_trans (nl_mono (Nat.div_le_self _ _)) (by omega)) fun s32 b33 W31 hE31 h32 => ⟨s32, b33, rfl, ?_⟩
        rw [sgn_div hz0 (Nat.gcd_dvd_right y z.natAbs), ← hnum] at h32
        have h24' := ((h24.ext hE28).ext hE31)
        rw [← hden] at h24'
        have hdl : (mkRat z y).den ≤ y := by rw [hden]; exact Nat.div_le_self _ _
        refine natBits_call h24' (Nat.le_trans (nl_mono hdl) (by omega)) fun W35 hE35 _ => ⟨_, rfl, fun hi W37 hE37 => ?_, fun hi W38 hE38 => ?_⟩
        · have hd1 : (mkRat z y).den = 1 := by
            have := (mkRat z y).den_pos
            have := (blen_lt_two (x := (mkRat z y).den)).1 (by omega)
            omega
          exact ⟨s32, b33, ⟨none, 0, 0⟩, rfl, (h32.ext hE35).ext hE37, by rw [dn, if_pos hd1]; exact isNat_nil _⟩
        · have hd1 : (mkRat z y).den ≠ 1 := fun e => hi (by rw [e]; decide)
          exact ⟨s32, b33, s24, rfl, (h32.ext hE35).ext hE38, by rw [dn, if_neg hd1]; exact (h24'.ext hE35).ext hE38⟩
    · refine natBits_call (h2.ext hE12) (by omega) fun W111 hE111 _ => ⟨_, rfl, fun hi W112 hE112 => absurd ((blen_lt_two (x := y)).1 (by omega)) (by omega), fun hi W113 hE113 => ?_⟩
      have hg1 : Nat.gcd y z.natAbs = 1 := by
        have := (blen_lt_two (x := Nat.gcd y z.natAbs)).1 (by omega)
        omega
      have hn1 : (mkRat z y).num = z := by rw [hnum, hg1]; simp
      have hd1 : (mkRat z y).den = y := by rw [hden, hg1]; simp
      have hEz := (hE12.trans hE111).trans hE113
      exact ⟨s, b, t, rfl, by rw [hn1]; exact h1.ext hEz, by rw [dn, hd1, if_neg (by omega)]; exact h2.ext hEz⟩
  · refine wholeAbs_call (h1.ext hE03) fun s7 W6 hE6 h7 => ⟨s7, rfl, ?_⟩
    refine natGcd_call ((h2.ext hE03).ext hE6) h7 (by omega) (by omega) fun s10 W9 hE9 h10 => ⟨s10, rfl, ?_⟩
    refine natBits_call h10 (by omega) fun W12 hE11 _ => ⟨_, rfl, ?_⟩
    have hE12 : Ext W0 W12 := ((hE03.trans hE6).trans hE9).trans hE11
    have hg10 := h10.ext hE11
    refine ⟨fun hgt => ⟨?_, ?_⟩, fun hgt => ?_⟩
    · refine wholeAbs_call (h1.ext hE12) fun s16 W15 hE15 h16 => ⟨s16, rfl, ?_, ?_⟩
      · refine natDiv_call h16 (hg10.ext hE15) (by omega) (by omega) fun s19 s20 W18 hE17 ⟨h19, _⟩ => ⟨_, _, _, rfl, ?_⟩
        refine dup_of ?_ 1
        have hE18 : Ext W0 W18 := hE12.trans (hE15.trans hE17)
        have hEg : Ext W12 W18 := hE15.trans hE17
        refine natDiv_call (h2.ext hE18) (hg10.ext hEg) (by omega) (by omega) fun s24 s25 W23 hE23 ⟨h24, _⟩ => ⟨_, _, _, rfl, ?_⟩
        refine wholeSign_call ((h1.ext hE18).ext hE23) (by omega) fun W28 hE28 _ => ⟨_, rfl, ?_⟩
        refine wholeFrom_call ((h19.ext hE23).ext hE28) (Nat.le_trans (nl_mono (Nat.div_le_self _ _)) (by omega)) fun s32 b33 W31 hE31 h32 => ⟨s32, b33, rfl, ?_⟩
        rw [sgn_div hz0 (Nat.gcd_dvd_right y z.natAbs), ← hnum] at h32
        have h24' := ((h24.ext hE28).ext hE31)
        rw [← hden] at h24'
        have hdl : (mkRat z y).den ≤ y := by rw [hden]; exact Nat.div_le_self _ _
        refine natBits_call h24' (Nat.le_trans (nl_mono hdl) (by omega)) fun W35 hE35 _ => ⟨_, rfl, fun hi W37 hE37 => ?_, fun hi W38 hE38 => ?_⟩
        · have hd1 : (mkRat z y).den = 1 := by
            have := (mkRat z y).den_pos
            have := (blen_lt_two (x := (mkRat z y).den)).1 (by omega)
            omega
          exact ⟨s32, b33, ⟨none, 0, 0⟩, rfl, (h32.ext hE35).ext hE37, by rw [dn, if_pos hd1]; exact isNat_nil _⟩
        · have hd1 : (mkRat z y).den ≠ 1 := fun e => hi (by rw [e]; decide)
          exact ⟨s32, b33, s24, rfl, (h32.ext hE35).ext hE38, by rw [dn, if_neg hd1]; exact (h24'.ext hE35).ext hE38⟩
      · refine dup_of ?_ 1
        refine dup_of ?_ 1
        refine natDiv_call h16 (hg10.ext hE15) (by omega) (by omega) fun s19 s20 W18 hE17 ⟨h19, _⟩ => ⟨_, _, _, rfl, ?_⟩
        have hE18 : Ext W0 W18 := hE12.trans (hE15.trans hE17)
        have hEg : Ext W12 W18 := hE15.trans hE17
        refine natDiv_call (h2.ext hE18) (hg10.ext hEg) (by omega) (by omega) fun s24 s25 W23 hE23 ⟨h24, _⟩ => ⟨_, _, _, rfl, ?_⟩
        refine wholeSign_call ((h1.ext hE18).ext hE23) (by omega) fun W28 hE28 _ => ⟨_, rfl, ?_⟩
        refine wholeFrom_call ((h19.ext hE23).ext hE28) (Nat.le_trans (nl_mono (Nat.div_le_self _ _)) (by omega)) fun s32 b33 W31 hE31 h32 => ⟨s32, b33, rfl, ?_⟩
        rw [sgn_div hz0 (Nat.gcd_dvd_right y z.natAbs), ← hnum] at h32
        have h24' := ((h24.ext hE28).ext hE31)
        rw [← hden] at h24'
        have hdl : (mkRat z y).den ≤ y := by rw [hden]; exact Nat.div_le_self _ _
        refine natBits_call h24' (Nat.le_trans (nl_mono hdl) (by omega)) fun W35 hE35 _ => ⟨_, rfl, fun hi W37 hE37 => ?_, fun hi W38 hE38 => ?_⟩
        · have hd1 : (mkRat z y).den = 1 := by
            have := (mkRat z y).den_pos
            have := (blen_lt_two (x := (mkRat z y).den)).1 (by omega)
            omega
          exact ⟨s32, b33, ⟨none, 0, 0⟩, rfl, (h32.ext hE35).ext hE37, by rw [dn, if_pos hd1]; exact isNat_nil _⟩
        · have hd1 : (mkRat z y).den ≠ 1 := fun e => hi (by rw [e]; decide)
          exact ⟨s32, b33, s24, rfl, (h32.ext hE35).ext hE38, by rw [dn, if_neg hd1]; exact (h24'.ext hE35).ext hE38⟩
    · refine dup_of ?_ 1
      refine ⟨?_, ?_⟩
      · refine wholeAbs_call (h1.ext hE12) fun s16 W15 hE15 h16 => ⟨s16, rfl, ?_⟩
        refine dup_of ?_ 1
        refine natDiv_call h16 (hg10.ext hE15) (by omega) (by omega) fun s19 s20 W18 hE17 ⟨h19, _⟩ => ⟨_, _, _, rfl, ?_⟩
        have hE18 : Ext W0 W18 := hE12.trans (hE15.trans hE17)
        have hEg : Ext W12 W18 := hE15.trans hE17
        refine natDiv_call (h2.ext hE18) (hg10.ext hEg) (by omega) (by omega) fun s24 s25 W23 hE23 ⟨h24, _⟩ => ⟨_, _, _, rfl, ?_⟩
        refine wholeSign_call ((h1.ext hE18).ext hE23) (by omega) fun W28 hE28 _ => ⟨_, rfl, ?_⟩
        refine wholeFrom_call ((h19.ext hE23).ext hE28) (Nat.le_trans (nl_mono (Nat.div_le_self _ _)) (by omega)) fun s32 b33 W31 hE31 h32 => ⟨s32, b33, rfl, ?_⟩
        rw [sgn_div hz0 (Nat.gcd_dvd_right y z.natAbs), ← hnum] at h32
        have h24' := ((h24.ext hE28).ext hE31)
        rw [← hden] at h24'
        have hdl : (mkRat z y).den ≤ y := by rw [hden]; exact Nat.div_le_self _ _
        refine natBits_call h24' (Nat.le_trans (nl_mono hdl) (by omega)) fun W35 hE35 _ => ⟨_, rfl, fun hi W37 hE37 => ?_, fun hi W38 hE38 => ?_⟩
        · have hd1 : (mkRat z y).den = 1 := by
            have := (mkRat z y).den_pos
            have := (blen_lt_two (x := (mkRat z y).den)).1 (by omega)
            omega
          exact ⟨s32, b33, ⟨none, 0, 0⟩, rfl, (h32.ext hE35).ext hE37, by rw [dn, if_pos hd1]; exact isNat_nil _⟩
        · have hd1 : (mkRat z y).den ≠ 1 := fun e => hi (by rw [e]; decide)
          exact ⟨s32, b33, s24, rfl, (h32.ext hE35).ext hE38, by rw [dn, if_neg hd1]; exact (h24'.ext hE35).ext hE38⟩
      · refine wholeAbs_call (h1.ext hE12) fun s16 W15 hE15 h16 => ⟨s16, rfl, ?_⟩
        refine natDiv_call h16 (hg10.ext hE15) (by omega) (by omega) fun s19 s20 W18 hE17 ⟨h19, _⟩ => ⟨_, _, _, rfl, ?_⟩
        have hE18 : Ext W0 W18 := hE12.trans (hE15.trans hE17)
        have hEg : Ext W12 W18 := hE15.trans hE17
        refine natDiv_call (h2.ext hE18) (hg10.ext hEg) (by omega) (by omega) fun s24 s25 W23 hE23 ⟨h24, _⟩ => ⟨_, _, _, rfl, ?_⟩
        refine wholeSign_call ((h1.ext hE18).ext hE23) (by omega) fun W28 hE28 _ => ⟨_, rfl, ?_⟩
        refine wholeFrom_call ((h19.ext hE23).ext hE28) (Nat.le_trans (nl_mono (Nat.div_le_self _ _)) (by omega)) fun s32 b33 W31 hE31 h32 => ⟨s32, b33, rfl, ?_⟩
        rw [sgn_div hz0 (Nat.gcd_dvd_right y z.natAbs), ← hnum] at h32
        have h24' := ((h24.ext hE28).ext hE31)
        rw [← hden] at h24'
        have hdl : (mkRat z y).den ≤ y := by rw [hden]; exact Nat.div_le_self _ _
        refine natBits_call h24' (Nat.le_trans (nl_mono hdl) (by omega)) fun W35 hE35 _ => ⟨_, rfl, fun hi W37 hE37 => ?_, fun hi W38 hE38 => ?_⟩
        · have hd1 : (mkRat z y).den = 1 := by
            have := (mkRat z y).den_pos
            have := (blen_lt_two (x := (mkRat z y).den)).1 (by omega)
            omega
          exact ⟨s32, b33, ⟨none, 0, 0⟩, rfl, (h32.ext hE35).ext hE37, by rw [dn, if_pos hd1]; exact isNat_nil _⟩
        · have hd1 : (mkRat z y).den ≠ 1 := fun e => hi (by rw [e]; decide)
          exact ⟨s32, b33, s24, rfl, (h32.ext hE35).ext hE38, by rw [dn, if_neg hd1]; exact (h24'.ext hE35).ext hE38⟩
    · refine natBits_call (h2.ext hE12) (by omega) fun W111 hE111 _ => ⟨_, rfl, fun hi W112 hE112 => absurd ((blen_lt_two (x := y)).1 (by omega)) (by omega), fun hi W113 hE113 => ?_⟩
      have hg1 : Nat.gcd y z.natAbs = 1 := by
        have := (blen_lt_two (x := Nat.gcd y z.natAbs)).1 (by omega)
        omega
      have hn1 : (mkRat z y).num = z := by rw [hnum, hg1]; simp
      have hd1 : (mkRat z y).den = y := by rw [hden, hg1]; simp
      have hEz := (hE12.trans hE111).trans hE113
      exact ⟨s, b, t, rfl, by rw [hn1]; exact h1.ext hEz, by rw [dn, hd1, if_neg (by omega)]; exact h2.ext hEz⟩
theorem ratLeast_call {W0 W : PW} {M : Nat → Prop} {s t : Sl} {b : Bool} {z : Int} {y : Nat} {K : Value → PW → Prop} (h1 : IsInt 183 W s b z) (h2 : IsNat 183 W t y) (hz : nl z.natAbs ≤ 137438953472) (hy : nl y ≤ 137438953472) (kont : ∀ (r : Sl) (c : Bool) (u : Sl) (W' : PW), Ext W W' → (IsRat 183 W' r c u (mkRat z (max y 1))) → K (.agg #[Sl.v r, .bool c, Sl.v u]) W') :
    callN Go.Proofs.Tryz.prog W0 M 91 [.agg #[s.v, .bool b], .agg #[t.v]] W K :=
  callN_of (fun W' hE => ratLeast_ok (M := fun _ => False) (h1.ext hE) (h2.ext hE) hz hy) (fun W' v W'' hE hE' hP => by
    obtain ⟨r, c, u, rfl, h⟩ := hP
    exact kont r c u W'' (hE.trans hE') h)
end Go.Proofs.YtbingbjhgoanoaaGreat

/- rat: the operations. -/
set_option maxRecDepth 100000
set_option linter.unusedVariables false
set_option linter.unusedSimpArgs false
namespace Go.Proofs.YtbingbjhgoanoaaGreat
open Go Go.SX
theorem isRat_nil {t : TypeId} (W : PW) : IsRat t W ⟨none, 0, 0⟩ false ⟨none, 0, 0⟩ 0 := ⟨⟨isNat_nil W, by decide⟩, isNat_nil W⟩
theorem dn_zero_iff {q : Rat} : dn q = 0 ↔ q.den = 1 := by
  unfold dn
  have := q.den_pos
  split
  · simp [*]
  · omega
theorem dn_of_ne {q : Rat} (h : dn q ≠ 0) : dn q = q.den := by
  unfold dn at *
  split
  · rename_i h1; rw [if_pos h1] at h; exact absurd rfl h
  · rfl
theorem ratden_ok {W0 : PW} {M : Nat → Prop} {s t : Sl} {b : Bool} {q : Rat} {k : Nat} (h : IsRat 183 W0 s b t q) (hq : Sz k q) (hk : k ≤ 34359738368) :
    PCallsM Go.Proofs.Tryz.prog 94 [.agg #[s.v, .bool b, t.v]] W0 M fun v W' => ∃ (s' : Sl), v = .agg #[Sl.v s'] ∧ IsNat 183 W' s' q.den := by
  apply callrat_Rat_den
  have hd := hq.dn
  refine natBits_call h.2 (by omega) fun W2 hE2 _ => ⟨_, rfl, fun h0 => ?_, fun h0 W8 hE8 => ⟨t, rfl, ?_⟩⟩
  · have h1 : q.den = 1 := dn_zero_iff.1 (blen_eq_zero.1 (by omega))
    refine natOf_call (x := 1) (by decide) fun s6 W5 hE5 h6 => ⟨s6, rfl, fun W7 hE7 => ⟨s6, rfl, ?_⟩⟩
    rw [h1]
    exact h6.ext hE7
  · have h1 : dn q ≠ 0 := fun e => h0 (by rw [e]; rfl)
    rw [← dn_of_ne h1]
    exact (h.2.ext hE2).ext hE8
theorem ratden_call {W0 W : PW} {M : Nat → Prop} {s t : Sl} {b : Bool} {q : Rat} {k : Nat} {K : Value → PW → Prop} (h : IsRat 183 W s b t q) (hq : Sz k q) (hk : k ≤ 34359738368) (kont : ∀ (s' : Sl) (W' : PW), Ext W W' → (IsNat 183 W' s' q.den) → K (.agg #[Sl.v s']) W') :
    callN Go.Proofs.Tryz.prog W0 M 94 [.agg #[s.v, .bool b, t.v]] W K :=
  callN_of (fun W' hE => ratden_ok (M := fun _ => False) (h.ext hE) hq hk) (fun W' v W'' hE hE' hP => by
    obtain ⟨s', rfl, h⟩ := hP
    exact kont s' W'' (hE.trans hE') h)
theorem ratDen_ok {W0 : PW} {M : Nat → Prop} {s t : Sl} {b : Bool} {q : Rat} {k : Nat} (h : IsRat 183 W0 s b t q) (hq : Sz k q) (hk : k ≤ 34359738368) :
    PCallsM Go.Proofs.Tryz.prog 127 [.agg #[s.v, .bool b, t.v]] W0 M fun v W' => ∃ (s' : Sl), ∃ (b' : Bool), v = .agg #[Sl.v s', .bool b'] ∧ IsInt 183 W' s' b' (q.den : Int) := by
  apply callrat_Rat_Den
  refine ratden_call h hq hk fun s3 W2 hE2 h3 => ⟨s3, rfl, ?_⟩
  have := hq.2
  refine wholeFrom_call h3 (by omega) fun s6 b7 W5 hE5 h6 => ⟨s6, b7, rfl, fun W8 hE8 => ⟨s6, b7, rfl, ?_⟩⟩
  rw [if_neg (by decide)] at h6
  exact h6.ext hE8
theorem ratDen_call {W0 W : PW} {M : Nat → Prop} {s t : Sl} {b : Bool} {q : Rat} {k : Nat} {K : Value → PW → Prop} (h : IsRat 183 W s b t q) (hq : Sz k q) (hk : k ≤ 34359738368) (kont : ∀ (s' : Sl) (b' : Bool) (W' : PW), Ext W W' → (IsInt 183 W' s' b' (q.den : Int)) → K (.agg #[Sl.v s', .bool b']) W') :
    callN Go.Proofs.Tryz.prog W0 M 127 [.agg #[s.v, .bool b, t.v]] W K :=
  callN_of (fun W' hE => ratDen_ok (M := fun _ => False) (h.ext hE) hq hk) (fun W' v W'' hE hE' hP => by
    obtain ⟨s', b', rfl, h⟩ := hP
    exact kont s' b' W'' (hE.trans hE') h)
theorem ratscaled_ok {W0 : PW} {M : Nat → Prop} {s t s' t' : Sl} {b b' : Bool} {p q : Rat} {k l : Nat} (h1 : IsRat 183 W0 s b t p) (h2 : IsRat 183 W0 s' b' t' q) (hp : Sz k p) (hq : Sz l q) (hk : k ≤ 34359738368) (hl : l ≤ 34359738368) :
    PCallsM Go.Proofs.Tryz.prog 89 [.agg #[s.v, .bool b, t.v], .agg #[s'.v, .bool b', t'.v]] W0 M fun v W' => ∃ (r : Sl), ∃ (c : Bool), v = .agg #[Sl.v r, .bool c] ∧ IsInt 183 W' r c (p.num * (q.den : Int)) := by
  apply callrat_scaled
  have hd := hq.dn
  have hp1 := hp.1
  have hq2 := hq.2
  refine natBits_call h2.2 (by omega) fun W2 hE2 _ => ⟨_, rfl, fun h0 W4 hE4 => ⟨s, b, rfl, ?_⟩, fun h0 => ?_⟩
  · have h1' : q.den = 1 := dn_zero_iff.1 (blen_eq_zero.1 (by omega))
    rw [h1', Int.natCast_one, Int.mul_one]
    exact (h1.1.ext hE2).ext hE4
  · refine ratDen_call (h2.ext hE2) hq hl fun s7 b8 W6 hE6 h7 => ⟨s7, b8, rfl, ?_⟩
    refine wholeMul_call ((h1.1.ext hE2).ext hE6) h7 (by omega) (by rw [Int.natAbs_natCast]; omega) fun s11 b12 W10 hE10 h11 => ⟨s11, b12, rfl, fun W13 hE13 => ⟨s11, b12, rfl, h11.ext hE13⟩⟩
theorem ratscaled_call {W0 W : PW} {M : Nat → Prop} {s t s' t' : Sl} {b b' : Bool} {p q : Rat} {k l : Nat} {K : Value → PW → Prop} (h1 : IsRat 183 W s b t p) (h2 : IsRat 183 W s' b' t' q) (hp : Sz k p) (hq : Sz l q) (hk : k ≤ 34359738368) (hl : l ≤ 34359738368) (kont : ∀ (r : Sl) (c : Bool) (W' : PW), Ext W W' → (IsInt 183 W' r c (p.num * (q.den : Int))) → K (.agg #[Sl.v r, .bool c]) W') :
    callN Go.Proofs.Tryz.prog W0 M 89 [.agg #[s.v, .bool b, t.v], .agg #[s'.v, .bool b', t'.v]] W K :=
  callN_of (fun W' hE => ratscaled_ok (M := fun _ => False) (h1.ext hE) (h2.ext hE) hp hq hk hl) (fun W' v W'' hE hE' hP => by
    obtain ⟨r, c, rfl, h⟩ := hP
    exact kont r c W'' (hE.trans hE') h)
theorem scaled_size {p q : Rat} {k l : Nat} (hp : Sz k p) (hq : Sz l q) : nl (p.num * (q.den : Int)).natAbs ≤ k + l := by
  rw [Int.natAbs_mul, Int.natAbs_natCast]
  have := nl_mul p.num.natAbs q.den
  have h1 := hp.1
  have h2 := hq.2
  omega
theorem ratCmp_ok {W0 : PW} {M : Nat → Prop} {s t s' t' : Sl} {b b' : Bool} {p q : Rat} {k l : Nat} (h1 : IsRat 183 W0 s b t p) (h2 : IsRat 183 W0 s' b' t' q) (hp : Sz k p) (hq : Sz l q) (hk : k ≤ 34359738368) (hl : l ≤ 34359738368) :
    PCallsM Go.Proofs.Tryz.prog 55 [.agg #[s.v, .bool b, t.v], .agg #[s'.v, .bool b', t'.v]] W0 M fun v W' => v = .int .i64 (cmpQ p q) ∧ True := by
  apply callrat_Cmp
  have e1 := scaled_size hp hq
  have e2 := scaled_size hq hp
  refine ratscaled_call h1 h2 hp hq hk hl fun s3 b4 W2 hE2 h3 => ⟨s3, b4, rfl, ?_⟩
  refine ratscaled_call (h2.ext hE2) (h1.ext hE2) hq hp hl hk fun s7 b8 W6 hE6 h7 => ⟨s7, b8, rfl, ?_⟩
  refine wholeCmp_call (h3.ext hE6) h7 (by omega) (by omega) fun W10 hE10 _ => ⟨_, rfl, fun W12 hE12 => ⟨?_, trivial⟩⟩
  rw [cmpQ_of]
theorem ratCmp_call {W0 W : PW} {M : Nat → Prop} {s t s' t' : Sl} {b b' : Bool} {p q : Rat} {k l : Nat} {K : Value → PW → Prop} (h1 : IsRat 183 W s b t p) (h2 : IsRat 183 W s' b' t' q) (hp : Sz k p) (hq : Sz l q) (hk : k ≤ 34359738368) (hl : l ≤ 34359738368) (kont : ∀  (W' : PW), Ext W W' → (True) → K (.int .i64 (cmpQ p q)) W') :
    callN Go.Proofs.Tryz.prog W0 M 55 [.agg #[s.v, .bool b, t.v], .agg #[s'.v, .bool b', t'.v]] W K :=
  callN_of (fun W' hE => ratCmp_ok (M := fun _ => False) (h1.ext hE) (h2.ext hE) hp hq hk hl) (fun W' v W'' hE hE' hP => by
    obtain ⟨rfl, h⟩ := hP
    exact kont  W'' (hE.trans hE') h)
theorem add_same {p q : Rat} (h : p.den = q.den) : mkRat (p.num + q.num) p.den = p + q := by
  rw [Rat.add_def', ← h, ← Int.add_mul]
  exact (Rat.mkRat_mul_right p.den_nz).symm
theorem dn_inj {p q : Rat} (h : dn p = dn q) : p.den = q.den := by
  rw [← dn_max p, ← dn_max q, h]
theorem ratAdd_ok {W0 : PW} {M : Nat → Prop} {s t s' t' : Sl} {b b' : Bool} {p q : Rat} {k l : Nat} (h1 : IsRat 183 W0 s b t p) (h2 : IsRat 183 W0 s' b' t' q) (hp : Sz k p) (hq : Sz l q) (hk : k ≤ 8589934592) (hl : l ≤ 8589934592) :
    PCallsM Go.Proofs.Tryz.prog 56 [.agg #[s.v, .bool b, t.v], .agg #[s'.v, .bool b', t'.v]] W0 M fun v W' => ∃ (r : Sl), ∃ (c : Bool), ∃ (u : Sl), v = .agg #[Sl.v r, .bool c, Sl.v u] ∧ IsRat 183 W' r c u (p + q) := by
  apply callrat_Add
  have d1 := hp.dn
  have d2 := hq.dn
  have n1 := hp.1
  have n2 := hq.1
  have n3 := hp.2
  have n4 := hq.2
  refine natCmp_call h1.2 h2.2 (by omega) (by omega) fun W2 hE2 _ => ⟨_, rfl, fun h0 => ?_, fun h0 => ?_⟩
  · have hd : dn p = dn q := by
      rcases Nat.lt_trichotomy (dn p) (dn q) with h | h | h
      · rw [cmpN_lt h] at h0; omega
      · exact h
      · rw [cmpN_gt h] at h0; omega
    have hs : nl (p.num + q.num).natAbs ≤ max (nl p.num.natAbs) (nl q.num.natAbs) + 1 := Nat.le_trans (nl_mono (Int.natAbs_add_le _ _)) (nl_add _ _)
    refine wholeAdd_call (h1.1.ext hE2) (h2.1.ext hE2) (by omega) (by omega) fun s6 b7 W5 hE5 h6 => ⟨s6, b7, rfl, ?_⟩
    refine ratLeast_call h6 ((h1.2.ext hE2).ext hE5) (by omega) (by omega) fun s10 b11 s12 W9 hE9 h10 => ⟨s10, b11, s12, rfl, fun W13 hE13 => ⟨s10, b11, s12, rfl, ?_⟩⟩
    rw [dn_max, add_same (dn_inj hd)] at h10
    exact h10.ext hE13
  · have e1 := scaled_size hp hq
    have e2 := scaled_size hq hp
    have hs : nl (p.num * (q.den : Int) + q.num * (p.den : Int)).natAbs ≤ max (nl (p.num * (q.den : Int)).natAbs) (nl (q.num * (p.den : Int)).natAbs) + 1 := Nat.le_trans (nl_mono (Int.natAbs_add_le _ _)) (nl_add _ _)
    have hm := nl_mul p.den q.den
    refine ratscaled_call (h1.ext hE2) (h2.ext hE2) hp hq (by omega) (by omega) fun s16 b17 W15 hE15 h16 => ⟨s16, b17, rfl, ?_⟩
    refine ratscaled_call ((h2.ext hE2).ext hE15) ((h1.ext hE2).ext hE15) hq hp (by omega) (by omega) fun s20 b21 W19 hE19 h20 => ⟨s20, b21, rfl, ?_⟩
    refine wholeAdd_call (h16.ext hE19) h20 (by omega) (by omega) fun s24 b25 W23 hE23 h24 => ⟨s24, b25, rfl, ?_⟩
    have hEa := ((hE2.trans hE15).trans hE19).trans hE23
    refine ratden_call (h1.ext hEa) hp (by omega) fun s28 W27 hE27 h28 => ⟨s28, rfl, ?_⟩
    refine ratden_call ((h2.ext hEa).ext hE27) hq (by omega) fun s31 W30 hE30 h31 => ⟨s31, rfl, ?_⟩
    refine natMul_call (h28.ext hE30) h31 (by omega) (by omega) fun s34 W33 hE33 h34 => ⟨s34, rfl, ?_⟩
    refine ratLeast_call (((h24.ext hE27).ext hE30).ext hE33) h34 (by omega) (by omega) fun s37 b38 s39 W36 hE36 h37 => ⟨s37, b38, s39, rfl, fun W40 hE40 => ⟨s37, b38, s39, rfl, ?_⟩⟩
    have hpos : 1 ≤ p.den * q.den := Nat.mul_pos p.den_pos q.den_pos
    rw [Nat.max_eq_left hpos, ← Rat.add_def'] at h37
    exact h37.ext hE40
theorem ratAdd_call {W0 W : PW} {M : Nat → Prop} {s t s' t' : Sl} {b b' : Bool} {p q : Rat} {k l : Nat} {K : Value → PW → Prop} (h1 : IsRat 183 W s b t p) (h2 : IsRat 183 W s' b' t' q) (hp : Sz k p) (hq : Sz l q) (hk : k ≤ 8589934592) (hl : l ≤ 8589934592) (kont : ∀ (r : Sl) (c : Bool) (u : Sl) (W' : PW), Ext W W' → (IsRat 183 W' r c u (p + q)) → K (.agg #[Sl.v r, .bool c, Sl.v u]) W') :
    callN Go.Proofs.Tryz.prog W0 M 56 [.agg #[s.v, .bool b, t.v], .agg #[s'.v, .bool b', t'.v]] W K :=
  callN_of (fun W' hE => ratAdd_ok (M := fun _ => False) (h1.ext hE) (h2.ext hE) hp hq hk hl) (fun W' v W'' hE hE' hP => by
    obtain ⟨r, c, u, rfl, h⟩ := hP
    exact kont r c u W'' (hE.trans hE') h)
theorem ratMul_ok {W0 : PW} {M : Nat → Prop} {s t s' t' : Sl} {b b' : Bool} {p q : Rat} {k l : Nat} (h1 : IsRat 183 W0 s b t p) (h2 : IsRat 183 W0 s' b' t' q) (hp : Sz k p) (hq : Sz l q) (hk : k ≤ 8589934592) (hl : l ≤ 8589934592) :
    PCallsM Go.Proofs.Tryz.prog 57 [.agg #[s.v, .bool b, t.v], .agg #[s'.v, .bool b', t'.v]] W0 M fun v W' => ∃ (r : Sl), ∃ (c : Bool), ∃ (u : Sl), v = .agg #[Sl.v r, .bool c, Sl.v u] ∧ IsRat 183 W' r c u (p * q) := by
  apply callrat_Mul
  have n1 := hp.1
  have n2 := hq.1
  have n3 := hp.2
  have n4 := hq.2
  have hm1 : nl (p.num * q.num).natAbs ≤ nl p.num.natAbs + nl q.num.natAbs := by rw [Int.natAbs_mul]; exact nl_mul _ _
  have hm := nl_mul p.den q.den
  refine wholeMul_call h1.1 h2.1 (by omega) (by omega) fun s3 b4 W2 hE2 h3 => ⟨s3, b4, rfl, ?_⟩
  refine ratden_call (h1.ext hE2) hp (by omega) fun s7 W6 hE6 h7 => ⟨s7, rfl, ?_⟩
  refine ratden_call ((h2.ext hE2).ext hE6) hq (by omega) fun s10 W9 hE9 h10 => ⟨s10, rfl, ?_⟩
  refine natMul_call (h7.ext hE9) h10 (by omega) (by omega) fun s13 W12 hE12 h13 => ⟨s13, rfl, ?_⟩
  refine ratLeast_call (((h3.ext hE6).ext hE9).ext hE12) h13 (by omega) (by omega) fun s16 b17 s18 W15 hE15 h16 => ⟨s16, b17, s18, rfl, fun W19 hE19 => ⟨s16, b17, s18, rfl, ?_⟩⟩
  have hpos : 1 ≤ p.den * q.den := Nat.mul_pos p.den_pos q.den_pos
  rw [Nat.max_eq_left hpos, ← Rat.mul_def'] at h16
  exact h16.ext hE19
theorem ratMul_call {W0 W : PW} {M : Nat → Prop} {s t s' t' : Sl} {b b' : Bool} {p q : Rat} {k l : Nat} {K : Value → PW → Prop} (h1 : IsRat 183 W s b t p) (h2 : IsRat 183 W s' b' t' q) (hp : Sz k p) (hq : Sz l q) (hk : k ≤ 8589934592) (hl : l ≤ 8589934592) (kont : ∀ (r : Sl) (c : Bool) (u : Sl) (W' : PW), Ext W W' → (IsRat 183 W' r c u (p * q)) → K (.agg #[Sl.v r, .bool c, Sl.v u]) W') :
    callN Go.Proofs.Tryz.prog W0 M 57 [.agg #[s.v, .bool b, t.v], .agg #[s'.v, .bool b', t'.v]] W K :=
  callN_of (fun W' hE => ratMul_ok (M := fun _ => False) (h1.ext hE) (h2.ext hE) hp hq hk hl) (fun W' v W'' hE hE' hP => by
    obtain ⟨r, c, u, rfl, h⟩ := hP
    exact kont r c u W'' (hE.trans hE') h)
theorem ratSign_ok {W0 : PW} {M : Nat → Prop} {s t : Sl} {b : Bool} {q : Rat} {k : Nat} (h : IsRat 183 W0 s b t q) (hq : Sz k q) (hk : k ≤ 34359738368) :
    PCallsM Go.Proofs.Tryz.prog 71 [.agg #[s.v, .bool b, t.v]] W0 M fun v W' => v = .int .i64 (cmpQ q 0) ∧ True := by
  apply callrat_Rat_Sign
  have := hq.1
  refine wholeSign_call h.1 (by omega) fun W2 hE2 _ => ⟨_, rfl, fun W4 hE4 => ⟨?_, trivial⟩⟩
  rw [sgnI_num]
theorem ratSign_call {W0 W : PW} {M : Nat → Prop} {s t : Sl} {b : Bool} {q : Rat} {k : Nat} {K : Value → PW → Prop} (h : IsRat 183 W s b t q) (hq : Sz k q) (hk : k ≤ 34359738368) (kont : ∀  (W' : PW), Ext W W' → (True) → K (.int .i64 (cmpQ q 0)) W') :
    callN Go.Proofs.Tryz.prog W0 M 71 [.agg #[s.v, .bool b, t.v]] W K :=
  callN_of (fun W' hE => ratSign_ok (M := fun _ => False) (h.ext hE) hq hk) (fun W' v W'' hE hE' hP => by
    obtain ⟨rfl, h⟩ := hP
    exact kont  W'' (hE.trans hE') h)
theorem inv_mk {q : Rat} (h : q ≠ 0) : mkRat (if decide (cmpQ q 0 < 0) = true then -(q.den : Int) else (q.den : Int)) (max q.num.natAbs 1) = q⁻¹ := by
  have hn : q.num ≠ 0 := fun e => h (Rat.num_eq_zero.1 e)
  have hpos : 1 ≤ q.num.natAbs := by omega
  rw [Nat.max_eq_left hpos, Rat.inv_def, ← sgnI_num]
  by_cases hneg : q.num < 0
  · have e1 : sgnI q.num < 0 := by simp [sgnI, hneg]
    rw [if_pos (decide_eq_true e1), ← Rat.divInt_ofNat, show ((q.num.natAbs : Nat) : Int) = -q.num by omega, Rat.neg_divInt_neg]
  · have e1 : ¬ sgnI q.num < 0 := by simp [sgnI, hneg, hn]
    rw [if_neg (by rw [decide_eq_false e1]; decide), ← Rat.divInt_ofNat, show ((q.num.natAbs : Nat) : Int) = q.num by omega]
theorem ratOf_ok {W0 : PW} {M : Nat → Prop} {z : Int} (hz : I64 z) :
    PCallsM Go.Proofs.Tryz.prog 58 [.int .i64 z] W0 M fun v W' => ∃ (s' : Sl), ∃ (b' : Bool), ∃ (t' : Sl), v = .agg #[Sl.v s', .bool b', Sl.v t'] ∧ IsRat 183 W' s' b' t' (z : Rat) := by
  apply callrat_Of
  refine wholeOf_call hz fun s3 b4 W2 hE2 h3 => ⟨s3, b4, rfl, fun W5 hE5 => ⟨s3, b4, ⟨none, 0, 0⟩, rfl, ?_, ?_⟩⟩
  · rw [Rat.num_intCast]
    exact h3.ext hE5
  · have : dn (z : Rat) = 0 := by unfold dn; rw [Rat.den_intCast]; rfl
    rw [this]
    exact isNat_nil W5
theorem ratOf_call {W0 W : PW} {M : Nat → Prop} {z : Int} {K : Value → PW → Prop} (hz : I64 z) (kont : ∀ (s' : Sl) (b' : Bool) (t' : Sl) (W' : PW), Ext W W' → (IsRat 183 W' s' b' t' (z : Rat)) → K (.agg #[Sl.v s', .bool b', Sl.v t']) W') :
    callN Go.Proofs.Tryz.prog W0 M 58 [.int .i64 z] W K :=
  callN_of (fun W' hE => ratOf_ok (M := fun _ => False) hz) (fun W' v W'' hE hE' hP => by
    obtain ⟨s', b', t', rfl, h⟩ := hP
    exact kont s' b' t' W'' (hE.trans hE') h)
end Go.Proofs.YtbingbjhgoanoaaGreat
