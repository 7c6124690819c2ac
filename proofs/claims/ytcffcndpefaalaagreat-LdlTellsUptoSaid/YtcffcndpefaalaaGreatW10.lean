/- cinctureref1: quotients. -/
import Derived.Test.YtcffcndpefaalaaGreatW9
import Derived.Test.YtcffcndpefaalaaGreatR7
import Derived.Test.YtcffcndpefaalaaGreatW6
import Derived.Test.YtcffcndpefaalaaGreatLib3
import Derived.Test.YtcffcndpefaalaaGreatLib2
set_option linter.unusedVariables false
set_option linter.unusedSimpArgs false
set_option maxRecDepth 100000
set_option linter.unusedVariables false
set_option linter.unusedSimpArgs false
namespace Go.Proofs.YtcffcndpefaalaaGreat
open Go Go.SX
theorem refDen_ok {W0 : PW} {M : Nat → Prop} {b : Bool} {s t : Sl} {q : Rat} (h : IsRefQ 107 W0 b s t q) :
    PCallsM Go.Proofs.Tryz.prog 54 [.agg #[.bool b, s.v, t.v]] W0 M fun v W' => ∃ (s' : Sl), v = Sl.v s' ∧ IsNat 107 W' s' q.den := by
  apply callref1_Den
  refine ⟨fun h0 => ?_, fun h0 W5 hE5 => ⟨t, rfl, ?_⟩⟩
  · refine refNatOf_call (x := 1) (by decide) fun s3 W2 hE2 h3 => ⟨s3, rfl, fun W4 hE4 => ⟨s3, rfl, ?_⟩⟩
    have : q.den = 1 := by
      rcases h.2 with h | h
      · have := h.n
        have := nl_eq_zero.1 (show nl q.den = 0 by omega)
        exact absurd this q.den_nz
      · exact h.1
    rw [this]
    exact h3.ext hE4
  · rcases h.2 with h | h
    · exact h.ext hE5
    · have := h.2.n
      rw [nl_zero] at this
      omega
theorem refDen_call {W0 W : PW} {M : Nat → Prop} {b : Bool} {s t : Sl} {q : Rat} {K : Value → PW → Prop} (h : IsRefQ 107 W b s t q) (kont : ∀ (s' : Sl) (W' : PW), Ext W W' → (IsNat 107 W' s' q.den) → K (Sl.v s') W') :
    callN Go.Proofs.Tryz.prog W0 M 54 [.agg #[.bool b, s.v, t.v]] W K :=
  callN_of (fun W' hE => refDen_ok (M := fun _ => False) (h.ext hE)) (fun W' v W'' hE hE' hP => by
    obtain ⟨s', rfl, h⟩ := hP
    exact kont s' W'' (hE.trans hE') h)
theorem refRatOf_ok {W0 : PW} {M : Nat → Prop} {z : Int} (hz : I64 z) :
    PCallsM Go.Proofs.Tryz.prog 55 [.int .i64 z] W0 M fun v W' => ∃ (b' : Bool), ∃ (s' : Sl), ∃ (t' : Sl), v = .agg #[.bool b', Sl.v s', Sl.v t'] ∧ IsRefQ 107 W' b' s' t' (z : Rat) := by
  apply callref1_RatOf
  exact refIntOf_call hz fun b3 s4 W2 hE2 h3 => ⟨b3, s4, rfl, refNatOf_call (x := 1) (by decide) fun s7 W6 hE6 h7 => ⟨s7, rfl, fun W8 hE8 => ⟨b3, s4, s7, rfl, (h3.ext hE6).ext hE8, .inl (h7.ext hE8)⟩⟩⟩
theorem refRatOf_call {W0 W : PW} {M : Nat → Prop} {z : Int} {K : Value → PW → Prop} (hz : I64 z) (kont : ∀ (b' : Bool) (s' : Sl) (t' : Sl) (W' : PW), Ext W W' → (IsRefQ 107 W' b' s' t' (z : Rat)) → K (.agg #[.bool b', Sl.v s', Sl.v t']) W') :
    callN Go.Proofs.Tryz.prog W0 M 55 [.int .i64 z] W K :=
  callN_of (fun W' hE => refRatOf_ok (M := fun _ => False) hz) (fun W' v W'' hE hE' hP => by
    obtain ⟨b', s', t', rfl, h⟩ := hP
    exact kont b' s' t' W'' (hE.trans hE') h)
theorem cmpN_zero (x y : Nat) : cmpN x y = 0 ↔ x = y := by
  rcases Nat.lt_trichotomy x y with h | h | h
  · rw [cmpN_lt h]; omega
  · rw [h, cmpN_eq]; simp
  · rw [cmpN_gt h]; omega
theorem sgn_div' {z : Int} {g : Nat} {b : Bool} (hb : b = decide (z < 0)) (hg : g ∣ z.natAbs) : (if b = true then -((z.natAbs / g : Nat) : Int) else ((z.natAbs / g : Nat) : Int)) = z / (g : Int) := by
  rcases Int.lt_trichotomy z 0 with h | h | h
  · have := sgn_div (z := z) (by omega) hg
    rw [sgnI, if_pos h] at this
    rw [hb, decide_eq_true h]
    exact this
  · subst h
    rw [hb]
    simp
  · have := sgn_div (z := z) (by omega) hg
    have e : sgnI z = 1 := by unfold sgnI; rw [if_neg (show ¬ z < 0 by omega), if_neg (show ¬ z = 0 by omega)]
    rw [e] at this
    rw [hb, decide_eq_false (by omega)]
    exact this
theorem refNew_ok {W0 : PW} {M : Nat → Prop} {s t : Sl} {b c : Bool} {z w : Int} (h1 : IsInt 107 W0 s b z) (h2 : IsInt 107 W0 t c w) (hz : nl z.natAbs ≤ 1073741824) (hw : nl w.natAbs ≤ 1073741824) (hw0 : w ≠ 0) :
    PCallsM Go.Proofs.Tryz.prog 56 [.agg #[.bool b, s.v], .agg #[.bool c, t.v]] W0 M fun v W' => ∃ (b' : Bool), ∃ (s' : Sl), ∃ (t' : Sl), v = .agg #[.bool b', Sl.v s', Sl.v t'] ∧ IsRefQ 107 W' b' s' t' (Rat.divInt z w) := by
  apply callref1_RatNew
  refine ⟨fun l W => match l with
    | [.cells [.bool b, .slice A n k], .cells [.bool c, .slice A' n' k']] => ∃ (x : Int) (y : Nat), IsInt 107 W ⟨A, n, k⟩ b x ∧ IsNat 107 W ⟨A', n', k'⟩ y ∧ x.natAbs = z.natAbs ∧ y = w.natAbs ∧ mkRat x y = Rat.divInt z w
    | _ => False, ⟨fun hc => ?_, fun hc => ⟨z, w.natAbs, h1, h2.1, rfl, rfl, ?_⟩⟩, ?_⟩
  · refine refNeg_call h1 fun b4 W3 hE3 h4 => ⟨b4, s, rfl, refNeg_call (h2.ext hE3) fun b8 W7 hE7 h8 => ⟨b8, t, rfl, -z, w.natAbs, h4.ext hE7, (h2.1.ext hE3).ext hE7, by simp, rfl, ?_⟩⟩
    have : w < 0 := of_decide_eq_true (h2.2 ▸ hc)
    obtain ⟨n, hn⟩ : ∃ n : Nat, w = -(n : Int) := ⟨w.natAbs, by omega⟩
    subst hn
    rw [Int.natAbs_neg, Int.natAbs_natCast, Rat.divInt_neg', Rat.divInt_ofNat]
  · have : ¬ w < 0 := of_decide_eq_false (h2.2 ▸ hc)
    obtain ⟨n, rfl⟩ := Int.eq_ofNat_of_zero_le (by omega : 0 ≤ w)
    rw [Int.natAbs_natCast, Rat.divInt_ofNat]
  rintro b10 s11 b12 s13 W14 ⟨x, y, hx, hy, hxz, hyw, hq⟩
  have hx : IsInt 107 W14 s11 b10 x := hx
  have hy : IsNat 107 W14 s13 y := hy
  have hy0 : y ≠ 0 := by omega
  have hnx : nl x.natAbs ≤ 1073741824 := by rw [hxz]; exact hz
  have hny : nl y ≤ 1073741824 := by rw [hyw]; exact hw
  rw [← hq]
  have hnum : (mkRat x y).num = x / ((Nat.gcd y x.natAbs : Nat) : Int) := by rw [Rat.num_mkRat, if_neg hy0]
  have hden : (mkRat x y).den = y / Nat.gcd y x.natAbs := by rw [Rat.den_mkRat, if_neg hy0]
  refine refNatOf_call (x := 1) (by decide) fun s17 W16 hE16 h17 => ⟨s17, rfl, refCmp_call (hy.ext hE16) h17 (by omega) fun W19 hE19 _ => ⟨_, rfl, fun h0 W21 hE21 => ⟨b10, s11, s13, rfl, ?_, ?_⟩, fun h0 => ?_⟩⟩
  · have hE := (hE16.trans hE19).trans hE21
    have : y = 1 := (cmpN_zero y 1).1 h0
    subst this
    rw [hnum, Nat.gcd_one_left]
    simpa using hx.ext hE
  · have hE := (hE16.trans hE19).trans hE21
    have : y = 1 := (cmpN_zero y 1).1 h0
    subst this
    rw [hden, Nat.gcd_one_left]
    exact .inl (hy.ext hE)
  have hEa := hE16.trans hE19
  have hgy : Nat.gcd y x.natAbs ≤ y := Nat.gcd_le_left _ (by omega)
  have hg0 : Nat.gcd y x.natAbs ≠ 0 := by
    have := Nat.gcd_pos_of_pos_left x.natAbs (show 0 < y by omega)
    omega
  have hgn : nl (Nat.gcd y x.natAbs) ≤ 1073741824 := Nat.le_trans (nl_mono hgy) hny
  refine refGcd_call (hy.ext hEa) (hx.1.ext hEa) (by omega) (by omega) fun s24 W23 hE23 h24 => ⟨s24, rfl, refNatOf_call (x := 1) (by decide) fun s27 W26 hE26 h27 => ⟨s27, rfl, refCmp_call (h24.ext hE26) h27 (by omega) fun W29 hE29 _ => ⟨_, rfl, fun hne => ?_, fun heq W44 hE44 => ⟨b10, s11, s13, rfl, ?_⟩⟩⟩⟩
  · have hEb := (hEa.trans hE23).trans (hE26.trans hE29)
    have h24' := h24.ext (hE26.trans hE29)
    refine refDiv_call (hx.1.ext hEb) h24' (by omega) hgn hg0 fun s33 s34 W32 hE32 ⟨h33, _⟩ => ⟨s33, s34, rfl, refDiv_call (hy.ext (hEb.trans hE32)) (h24'.ext hE32) hny hgn hg0 fun s37 s38 W36 hE36 ⟨h37, _⟩ => ⟨s37, s38, rfl, refFrom_call (h33.ext hE36) fun b41 W40 hE40 h41 => ⟨b41, s33, rfl, fun W43 hE43 => ⟨b41, s33, s37, rfl, ?_, .inl ?_⟩⟩⟩⟩
    · rw [sgn_div' hx.2 (Nat.gcd_dvd_right y x.natAbs), ← hnum] at h41
      exact h41.ext hE43
    · rw [hden]
      exact (h37.ext hE40).ext hE43
  · have hE := (hEa.trans hE23).trans ((hE26.trans hE29).trans hE44)
    have hg1 : Nat.gcd y x.natAbs = 1 := (cmpN_zero _ 1).1 (Classical.not_not.1 heq)
    refine ⟨?_, .inl ?_⟩
    · rw [hnum, hg1]
      simpa using hx.ext hE
    · rw [hden, hg1, Nat.div_one]
      exact hy.ext hE
theorem refNew_call {W0 W : PW} {M : Nat → Prop} {s t : Sl} {b c : Bool} {z w : Int} {K : Value → PW → Prop} (h1 : IsInt 107 W s b z) (h2 : IsInt 107 W t c w) (hz : nl z.natAbs ≤ 1073741824) (hw : nl w.natAbs ≤ 1073741824) (hw0 : w ≠ 0) (kont : ∀ (b' : Bool) (s' : Sl) (t' : Sl) (W' : PW), Ext W W' → (IsRefQ 107 W' b' s' t' (Rat.divInt z w)) → K (.agg #[.bool b', Sl.v s', Sl.v t']) W') :
    callN Go.Proofs.Tryz.prog W0 M 56 [.agg #[.bool b, s.v], .agg #[.bool c, t.v]] W K :=
  callN_of (fun W' hE => refNew_ok (M := fun _ => False) (h1.ext hE) (h2.ext hE) hz hw hw0) (fun W' v W'' hE hE' hP => by
    obtain ⟨b', s', t', rfl, h⟩ := hP
    exact kont b' s' t' W'' (hE.trans hE') h)
theorem cast_nl {n k : Nat} (h : nl n ≤ k) : nl (n : Int).natAbs ≤ k := by rw [Int.natAbs_natCast]; exact h
theorem prod_sz {z w : Int} {k l : Nat} (h : nl z.natAbs ≤ k) (h' : nl w.natAbs ≤ l) : nl (z * w).natAbs ≤ k + l := by
  rw [Int.natAbs_mul]
  exact Nat.le_trans (nl_mul _ _) (Nat.add_le_add h h')
theorem dens_ne {p q : Rat} : ((p.den * q.den : Nat) : Int) ≠ 0 := by
  have := Nat.mul_pos p.den_pos q.den_pos
  omega
theorem refQAdd_ok {W0 : PW} {M : Nat → Prop} {s t s' t' : Sl} {b b' : Bool} {p q : Rat} {k l : Nat} (h1 : IsRefQ 107 W0 b s t p) (h2 : IsRefQ 107 W0 b' s' t' q) (hp : Sz k p) (hq : Sz l q) (hk : k ≤ 500000000) (hl : l ≤ 500000000) :
    PCallsM Go.Proofs.Tryz.prog 57 [.agg #[.bool b, s.v, t.v], .agg #[.bool b', s'.v, t'.v]] W0 M fun v W' => ∃ (c : Bool), ∃ (r : Sl), ∃ (u : Sl), v = .agg #[.bool c, Sl.v r, Sl.v u] ∧ IsRefQ 107 W' c r u (p + q) := by
  apply callref1_RatAdd
  have a1 := hp.1
  have a2 := hp.2
  have b1 := hq.1
  have b2 := hq.2
  have m1 := prod_sz a1 (cast_nl b2)
  have m2 := prod_sz b1 (cast_nl a2)
  refine refDen_call h2 fun s3 W2 hE2 h3 => ⟨s3, rfl, refPos_call fun W5 hE5 _ => ⟨_, _, rfl, refMulI_call ((h1.1.ext hE2).ext hE5) (isInt_pos (h3.ext hE5)) (by omega) (by rw [Int.natAbs_natCast]; omega) fun b10 s11 W9 hE9 h11 => ⟨b10, s11, rfl, ?_⟩⟩⟩
  have hEa := (hE2.trans hE5).trans hE9
  refine refDen_call (h1.ext hEa) fun s14 W13 hE13 h14 => ⟨s14, rfl, refPos_call fun W16 hE16 _ => ⟨_, _, rfl, refMulI_call (((h2.1.ext hEa).ext hE13).ext hE16) (isInt_pos (h14.ext hE16)) (by omega) (by rw [Int.natAbs_natCast]; omega) fun b21 s22 W20 hE20 h22 => ⟨b21, s22, rfl, ?_⟩⟩⟩
  have hEb := (hE13.trans hE16).trans hE20
  refine refAddI_call (h11.ext hEb) h22 (by omega) (by omega) fun b25 s26 W24 hE24 h25 => ⟨b25, s26, rfl, ?_⟩
  have hEc := (hEa.trans hEb).trans hE24
  refine refDen_call (h1.ext hEc) fun s29 W28 hE28 h29 => ⟨s29, rfl, refDen_call (h2.ext (hEc.trans hE28)) fun s32 W31 hE31 h32 => ⟨s32, rfl, refMul_call (h29.ext hE31) h32 (by omega) (by omega) fun s35 W34 hE34 h35 => ⟨s35, rfl, refPos_call fun W37 hE37 _ => ⟨_, _, rfl, ?_⟩⟩⟩⟩
  have hEd := (hE28.trans hE31).trans (hE34.trans hE37)
  have n1 := nl_mul p.den q.den
  have n2 : nl (p.num * ↑q.den + q.num * ↑p.den).natAbs ≤ k + l + 1 := Nat.le_trans (nl_mono (Int.natAbs_add_le _ _)) (nl_add_le m1 (by omega))
  refine refNew_call (h25.ext hEd) (isInt_pos (h35.ext hE37)) (by omega) (by rw [Int.natAbs_natCast]; omega) dens_ne fun b42 s43 s44 W41 hE41 h42 => ⟨b42, s43, s44, rfl, fun W45 hE45 => ⟨b42, s43, s44, rfl, ?_⟩⟩
  rw [Rat.add_def', ← Rat.divInt_ofNat]
  exact h42.ext hE45
theorem refQAdd_call {W0 W : PW} {M : Nat → Prop} {s t s' t' : Sl} {b b' : Bool} {p q : Rat} {k l : Nat} {K : Value → PW → Prop} (h1 : IsRefQ 107 W b s t p) (h2 : IsRefQ 107 W b' s' t' q) (hp : Sz k p) (hq : Sz l q) (hk : k ≤ 500000000) (hl : l ≤ 500000000) (kont : ∀ (c : Bool) (r : Sl) (u : Sl) (W' : PW), Ext W W' → (IsRefQ 107 W' c r u (p + q)) → K (.agg #[.bool c, Sl.v r, Sl.v u]) W') :
    callN Go.Proofs.Tryz.prog W0 M 57 [.agg #[.bool b, s.v, t.v], .agg #[.bool b', s'.v, t'.v]] W K :=
  callN_of (fun W' hE => refQAdd_ok (M := fun _ => False) (h1.ext hE) (h2.ext hE) hp hq hk hl) (fun W' v W'' hE hE' hP => by
    obtain ⟨c, r, u, rfl, h⟩ := hP
    exact kont c r u W'' (hE.trans hE') h)
theorem refQNeg_ok {W0 : PW} {M : Nat → Prop} {s t : Sl} {b : Bool} {q : Rat} (h : IsRefQ 107 W0 b s t q) :
    PCallsM Go.Proofs.Tryz.prog 58 [.agg #[.bool b, s.v, t.v]] W0 M fun v W' => ∃ (c : Bool), ∃ (r : Sl), ∃ (u : Sl), v = .agg #[.bool c, Sl.v r, Sl.v u] ∧ IsRefQ 107 W' c r u (-q) := by
  apply callref1_RatNeg
  exact refNeg_call h.1 fun b3 W2 hE2 h3 => ⟨b3, s, rfl, refDen_call (h.ext hE2) fun s7 W6 hE6 h7 => ⟨s7, rfl, fun W8 hE8 => ⟨b3, s, s7, rfl, (h3.ext hE6).ext hE8, .inl (h7.ext hE8)⟩⟩⟩
theorem refQNeg_call {W0 W : PW} {M : Nat → Prop} {s t : Sl} {b : Bool} {q : Rat} {K : Value → PW → Prop} (h : IsRefQ 107 W b s t q) (kont : ∀ (c : Bool) (r : Sl) (u : Sl) (W' : PW), Ext W W' → (IsRefQ 107 W' c r u (-q)) → K (.agg #[.bool c, Sl.v r, Sl.v u]) W') :
    callN Go.Proofs.Tryz.prog W0 M 58 [.agg #[.bool b, s.v, t.v]] W K :=
  callN_of (fun W' hE => refQNeg_ok (M := fun _ => False) (h.ext hE)) (fun W' v W'' hE hE' hP => by
    obtain ⟨c, r, u, rfl, h⟩ := hP
    exact kont c r u W'' (hE.trans hE') h)
theorem refQSub_ok {W0 : PW} {M : Nat → Prop} {s t s' t' : Sl} {b b' : Bool} {p q : Rat} {k l : Nat} (h1 : IsRefQ 107 W0 b s t p) (h2 : IsRefQ 107 W0 b' s' t' q) (hp : Sz k p) (hq : Sz l q) (hk : k ≤ 500000000) (hl : l ≤ 500000000) :
    PCallsM Go.Proofs.Tryz.prog 27 [.agg #[.bool b, s.v, t.v], .agg #[.bool b', s'.v, t'.v]] W0 M fun v W' => ∃ (c : Bool), ∃ (r : Sl), ∃ (u : Sl), v = .agg #[.bool c, Sl.v r, Sl.v u] ∧ IsRefQ 107 W' c r u (p - q) := by
  apply callref1_RatSub
  exact refQNeg_call h2 fun b3 s4 s5 W2 hE2 h3 => ⟨b3, s4, s5, rfl, refQAdd_call (h1.ext hE2) h3 hp hq.neg hk hl fun b7 s8 s9 W6 hE6 h7 => ⟨b7, s8, s9, rfl, fun W10 hE10 => ⟨b7, s8, s9, rfl, by rw [Rat.sub_eq_add_neg]; exact h7.ext hE10⟩⟩⟩
theorem refQSub_call {W0 W : PW} {M : Nat → Prop} {s t s' t' : Sl} {b b' : Bool} {p q : Rat} {k l : Nat} {K : Value → PW → Prop} (h1 : IsRefQ 107 W b s t p) (h2 : IsRefQ 107 W b' s' t' q) (hp : Sz k p) (hq : Sz l q) (hk : k ≤ 500000000) (hl : l ≤ 500000000) (kont : ∀ (c : Bool) (r : Sl) (u : Sl) (W' : PW), Ext W W' → (IsRefQ 107 W' c r u (p - q)) → K (.agg #[.bool c, Sl.v r, Sl.v u]) W') :
    callN Go.Proofs.Tryz.prog W0 M 27 [.agg #[.bool b, s.v, t.v], .agg #[.bool b', s'.v, t'.v]] W K :=
  callN_of (fun W' hE => refQSub_ok (M := fun _ => False) (h1.ext hE) (h2.ext hE) hp hq hk hl) (fun W' v W'' hE hE' hP => by
    obtain ⟨c, r, u, rfl, h⟩ := hP
    exact kont c r u W'' (hE.trans hE') h)
theorem refQMul_ok {W0 : PW} {M : Nat → Prop} {s t s' t' : Sl} {b b' : Bool} {p q : Rat} {k l : Nat} (h1 : IsRefQ 107 W0 b s t p) (h2 : IsRefQ 107 W0 b' s' t' q) (hp : Sz k p) (hq : Sz l q) (hk : k ≤ 500000000) (hl : l ≤ 500000000) :
    PCallsM Go.Proofs.Tryz.prog 28 [.agg #[.bool b, s.v, t.v], .agg #[.bool b', s'.v, t'.v]] W0 M fun v W' => ∃ (c : Bool), ∃ (r : Sl), ∃ (u : Sl), v = .agg #[.bool c, Sl.v r, Sl.v u] ∧ IsRefQ 107 W' c r u (p * q) := by
  apply callref1_RatMul
  have a1 := hp.1
  have a2 := hp.2
  have b1 := hq.1
  have b2 := hq.2
  have m1 := prod_sz a1 b1
  have n1 := nl_mul p.den q.den
  refine refMulI_call h1.1 h2.1 (by omega) (by omega) fun b3 s4 W2 hE2 h3 => ⟨b3, s4, rfl, refDen_call (h1.ext hE2) fun s7 W6 hE6 h7 => ⟨s7, rfl, refDen_call (h2.ext (hE2.trans hE6)) fun s10 W9 hE9 h10 => ⟨s10, rfl, refMul_call (h7.ext hE9) h10 (by omega) (by omega) fun s13 W12 hE12 h13 => ⟨s13, rfl, refPos_call fun W15 hE15 _ => ⟨_, _, rfl, ?_⟩⟩⟩⟩⟩
  refine refNew_call (((h3.ext hE6).ext hE9).ext (hE12.trans hE15)) (isInt_pos (h13.ext hE15)) (by omega) (by rw [Int.natAbs_natCast]; omega) dens_ne fun b20 s21 s22 W19 hE19 h20 => ⟨b20, s21, s22, rfl, fun W23 hE23 => ⟨b20, s21, s22, rfl, ?_⟩⟩
  rw [Rat.mul_def', ← Rat.divInt_ofNat]
  exact h20.ext hE23
theorem refQMul_call {W0 W : PW} {M : Nat → Prop} {s t s' t' : Sl} {b b' : Bool} {p q : Rat} {k l : Nat} {K : Value → PW → Prop} (h1 : IsRefQ 107 W b s t p) (h2 : IsRefQ 107 W b' s' t' q) (hp : Sz k p) (hq : Sz l q) (hk : k ≤ 500000000) (hl : l ≤ 500000000) (kont : ∀ (c : Bool) (r : Sl) (u : Sl) (W' : PW), Ext W W' → (IsRefQ 107 W' c r u (p * q)) → K (.agg #[.bool c, Sl.v r, Sl.v u]) W') :
    callN Go.Proofs.Tryz.prog W0 M 28 [.agg #[.bool b, s.v, t.v], .agg #[.bool b', s'.v, t'.v]] W K :=
  callN_of (fun W' hE => refQMul_ok (M := fun _ => False) (h1.ext hE) (h2.ext hE) hp hq hk hl) (fun W' v W'' hE hE' hP => by
    obtain ⟨c, r, u, rfl, h⟩ := hP
    exact kont c r u W'' (hE.trans hE') h)
theorem div_divInt (p q : Rat) : Rat.divInt (p.num * q.den) (p.den * q.num) = p / q := by
  rw [Rat.div_def, Rat.inv_def, ← Rat.divInt_mul_divInt, Rat.num_divInt_den]
theorem refQDiv_ok {W0 : PW} {M : Nat → Prop} {s t s' t' : Sl} {b b' : Bool} {p q : Rat} {k l : Nat} (h1 : IsRefQ 107 W0 b s t p) (h2 : IsRefQ 107 W0 b' s' t' q) (hp : Sz k p) (hq : Sz l q) (hq0 : q ≠ 0) (hk : k ≤ 500000000) (hl : l ≤ 500000000) :
    PCallsM Go.Proofs.Tryz.prog 26 [.agg #[.bool b, s.v, t.v], .agg #[.bool b', s'.v, t'.v]] W0 M fun v W' => ∃ (c : Bool), ∃ (r : Sl), ∃ (u : Sl), v = .agg #[.bool c, Sl.v r, Sl.v u] ∧ IsRefQ 107 W' c r u (p / q) := by
  apply callref1_RatDiv
  have a1 := hp.1
  have a2 := hp.2
  have b1 := hq.1
  have b2 := hq.2
  have m1 := prod_sz a1 (cast_nl b2)
  have m2 := prod_sz (cast_nl a2) b1
  refine refDen_call h2 fun s3 W2 hE2 h3 => ⟨s3, rfl, refPos_call fun W5 hE5 _ => ⟨_, _, rfl, refMulI_call ((h1.1.ext hE2).ext hE5) (isInt_pos (h3.ext hE5)) (by omega) (by rw [Int.natAbs_natCast]; omega) fun b10 s11 W9 hE9 h11 => ⟨b10, s11, rfl, ?_⟩⟩⟩
  have hEa := (hE2.trans hE5).trans hE9
  refine refDen_call (h1.ext hEa) fun s14 W13 hE13 h14 => ⟨s14, rfl, refPos_call fun W16 hE16 _ => ⟨_, _, rfl, refMulI_call (isInt_pos (h14.ext hE16)) (((h2.1.ext hEa).ext hE13).ext hE16) (by rw [Int.natAbs_natCast]; omega) (by omega) fun b21 s22 W20 hE20 h22 => ⟨b21, s22, rfl, ?_⟩⟩⟩
  have hnz : (p.den : Int) * q.num ≠ 0 := Int.mul_ne_zero (by have := p.den_nz; omega) (fun e => hq0 (Rat.num_eq_zero.1 e))
  refine refNew_call (((h11.ext hE13).ext hE16).ext hE20) h22 (by omega) (by omega) hnz fun b25 s26 s27 W24 hE24 h25 => ⟨b25, s26, s27, rfl, fun W28 hE28 => ⟨b25, s26, s27, rfl, ?_⟩⟩
  rw [← div_divInt]
  exact h25.ext hE28
theorem refQDiv_call {W0 W : PW} {M : Nat → Prop} {s t s' t' : Sl} {b b' : Bool} {p q : Rat} {k l : Nat} {K : Value → PW → Prop} (h1 : IsRefQ 107 W b s t p) (h2 : IsRefQ 107 W b' s' t' q) (hp : Sz k p) (hq : Sz l q) (hq0 : q ≠ 0) (hk : k ≤ 500000000) (hl : l ≤ 500000000) (kont : ∀ (c : Bool) (r : Sl) (u : Sl) (W' : PW), Ext W W' → (IsRefQ 107 W' c r u (p / q)) → K (.agg #[.bool c, Sl.v r, Sl.v u]) W') :
    callN Go.Proofs.Tryz.prog W0 M 26 [.agg #[.bool b, s.v, t.v], .agg #[.bool b', s'.v, t'.v]] W K :=
  callN_of (fun W' hE => refQDiv_ok (M := fun _ => False) (h1.ext hE) (h2.ext hE) hp hq hq0 hk hl) (fun W' v W'' hE hE' hP => by
    obtain ⟨c, r, u, rfl, h⟩ := hP
    exact kont c r u W'' (hE.trans hE') h)
theorem refQCmp_ok {W0 : PW} {M : Nat → Prop} {s t s' t' : Sl} {b b' : Bool} {p q : Rat} {k l : Nat} (h1 : IsRefQ 107 W0 b s t p) (h2 : IsRefQ 107 W0 b' s' t' q) (hp : Sz k p) (hq : Sz l q) (hk : k ≤ 500000000) (hl : l ≤ 500000000) :
    PCallsM Go.Proofs.Tryz.prog 22 [.agg #[.bool b, s.v, t.v], .agg #[.bool b', s'.v, t'.v]] W0 M fun v W' => v = .int .i64 (cmpQ p q) ∧ True := by
  apply callref1_RatCmp
  have a1 := hp.1
  have a2 := hp.2
  have b1 := hq.1
  have b2 := hq.2
  have m1 := prod_sz a1 (cast_nl b2)
  have m2 := prod_sz b1 (cast_nl a2)
  refine refDen_call h2 fun s3 W2 hE2 h3 => ⟨s3, rfl, refPos_call fun W5 hE5 _ => ⟨_, _, rfl, refMulI_call ((h1.1.ext hE2).ext hE5) (isInt_pos (h3.ext hE5)) (by omega) (by rw [Int.natAbs_natCast]; omega) fun b10 s11 W9 hE9 h11 => ⟨b10, s11, rfl, ?_⟩⟩⟩
  have hEa := (hE2.trans hE5).trans hE9
  refine refDen_call (h1.ext hEa) fun s14 W13 hE13 h14 => ⟨s14, rfl, refPos_call fun W16 hE16 _ => ⟨_, _, rfl, refMulI_call (((h2.1.ext hEa).ext hE13).ext hE16) (isInt_pos (h14.ext hE16)) (by omega) (by rw [Int.natAbs_natCast]; omega) fun b21 s22 W20 hE20 h22 => ⟨b21, s22, rfl, ?_⟩⟩⟩
  refine refCmpI_call (((h11.ext hE13).ext hE16).ext hE20) h22 (by omega) (by omega) fun W24 hE24 _ => ⟨_, rfl, fun W26 hE26 => ⟨?_, trivial⟩⟩
  rw [cmpQ_of]
theorem refQCmp_call {W0 W : PW} {M : Nat → Prop} {s t s' t' : Sl} {b b' : Bool} {p q : Rat} {k l : Nat} {K : Value → PW → Prop} (h1 : IsRefQ 107 W b s t p) (h2 : IsRefQ 107 W b' s' t' q) (hp : Sz k p) (hq : Sz l q) (hk : k ≤ 500000000) (hl : l ≤ 500000000) (kont : ∀  (W' : PW), Ext W W' → (True) → K (.int .i64 (cmpQ p q)) W') :
    callN Go.Proofs.Tryz.prog W0 M 22 [.agg #[.bool b, s.v, t.v], .agg #[.bool b', s'.v, t'.v]] W K :=
  callN_of (fun W' hE => refQCmp_ok (M := fun _ => False) (h1.ext hE) (h2.ext hE) hp hq hk hl) (fun W' v W'' hE hE' hP => by
    obtain ⟨rfl, h⟩ := hP
    exact kont  W'' (hE.trans hE') h)
end Go.Proofs.YtcffcndpefaalaaGreat

/- mat: none, even, Right, One, Turn, Same; cincturelaw11.Shaped. -/
set_option maxRecDepth 100000
set_option linter.unusedVariables false
set_option linter.unusedSimpArgs false
namespace Go.Proofs.YtcffcndpefaalaaGreat
open Go Go.SX
theorem qs_zero {t : TypeId} (W : PW) (c : Nat) : Qs t W (List.replicate c [.slice none 0 0, .bool false, .slice none 0 0]) c (fun _ => 0) :=
  ⟨by simp, fun i hi => ⟨⟨none, 0, 0⟩, false, ⟨none, 0, 0⟩, by simp [hi], isRat_zero W⟩⟩
def noneI (n0 : Nat) (W0 : PW) (r c : Nat) (l : List PL) (W : PW) : Prop :=
  match l with
  | [.val (.int .i64 i), .row l3] => Ext W0 W ∧ ∃ (k : Nat) (ss : List Sl), i = (k : Int) ∧ k ≤ r ∧ ss.length = k ∧ l3 = (ss.map fun x => [x.v]) ++ List.replicate (r - k) [.slice none 0 0] ∧
      (∀ i (h : i < ss.length), ∃ xs, Go.SX.Own W 52 3 ss[i] xs ∧ Qs 107 W xs c (fun _ => 0) ∧ ∀ g, ss[i].v.ownBlock = some g → n0 ≤ g) ∧
      ∀ i j (hi : i < ss.length) (hj : j < ss.length), i ≠ j → ∀ g, ss[i].v.ownBlock = some g → ss[j].v.ownBlock ≠ some g
  | _ => False
def noneM (r : Nat) (l : List PL) (W : PW) : Nat :=
  match l with
  | [.val (.int .i64 i), _] => r - i.toNat
  | _ => 0
theorem matNone_ok {W0 : PW} {M : Nat → Prop} {n0 r c : Nat} (hn : NewFrom n0 W0) (hr : r ≤ 1048576) (hc : c ≤ 1048576) :
    PCallsM Go.Proofs.Tryz.prog 34 [.int .i64 (r : Int), .int .i64 (c : Int)] W0 M fun v W' => ∃ (s' : Sl), v = Sl.v s' ∧ OMat 107 52 31 (n0 ≤ ·) W' s' r c (fun _ _ => 0) := by
  apply callmat_none
  refine ⟨⟨rfl, by omega, by omega⟩, noneI n0 W0 r c, noneM r, ⟨Ext.refl _, 0, [], rfl, Nat.zero_le _, rfl, by simp, fun i h => by simp at h, fun i j h => by simp at h⟩, ?_⟩
  rintro l3 i4 W5 ⟨hE5, k, ss, rfl, hk, hl, rfl, h3, h4⟩
  rw [List.length_replicate, show Int.toNat (r : Int) = r from rfl, show Int.toNat (c : Int) = c from rfl, show Int.toNat (k : Int) = k from rfl]
  have hlen : ((ss.map fun x => [x.v]) ++ List.replicate (r - k) [Value.slice none 0 0]).length = r := by simp; omega
  refine ⟨fun hlt => ⟨⟨rfl, by omega, by omega⟩, ⟨by omega, by rw [hlen]; omega⟩, fun s6 W7 hE7 hO hf => ⟨by rw [hlen]; omega, by unfold I64; omega, ⟨hE5.trans hE7, k + 1, ss ++ [s6], by push_cast; rfl, by omega, by simp [hl], ?_, ?_, ?_⟩, ?_⟩⟩, fun hge s9 W10 hE10 hO hf W12 hE12 => ⟨s9, rfl, ?_⟩⟩
  · rw [List.set_append_right _ _ (by simp [hl])]
    simp only [List.length_map, hl, Nat.sub_self, List.map_append, List.map_cons, List.map_nil]
    rw [show r - k = (r - (k + 1)) + 1 by omega, List.replicate_succ, List.set_cons_zero]
    simp
  · intro i h
    by_cases e : i < ss.length
    · obtain ⟨xs, k1, k2, k3⟩ := h3 i e
      rw [List.getElem_append_left e]
      exact ⟨xs, k1.ext hE7, k2.ext hE7, k3⟩
    · have : i = ss.length := by simp at h; omega
      subst this
      rw [List.getElem_concat_length rfl]
      refine ⟨_, hO, qs_zero W7 c, fun g hg => ?_⟩
      exact Nat.le_trans hn (hf g hg).1
  · have key : ∀ i (hi : i < ss.length) g, s6.v.ownBlock = some g → ss[i].v.ownBlock ≠ some g := by
      intro i hi g hg hg'
      obtain ⟨xs, k1, k2, k3⟩ := h3 i hi
      by_cases hx : xs = []
      · have hn := k1.n
        subst hx
        have h6 := hO.n
        rcases k1.1.2.2 with ⟨hv, _⟩ | ⟨g1, cap, cur, hv, _, hh, _⟩
        · rw [hv] at hg'
          simp [Value.ownBlock] at hg'
        · have hgg : ss[i].v.ownBlock = some g1 := by rw [hv]; rfl
          rw [hg'] at hgg
          cases hgg
          exact k1.2 g hg' ((hf g hg).2 (Array.getElem?_eq_some_iff.1 hh).1)
      · obtain ⟨g1, cs, _, hg1, hS, hh, _⟩ := k1.at hx
        rw [hg'] at hg1
        cases hg1
        exact hS ((hf g hg).2 (Array.getElem?_eq_some_iff.1 hh).1)
    intro i j hi hj hne g hg hg'
    simp only [List.length_append, List.length_cons, List.length_nil] at hi hj
    by_cases ei : i < ss.length
    · rw [List.getElem_append_left ei] at hg
      by_cases ej : j < ss.length
      · rw [List.getElem_append_left ej] at hg'
        exact h4 i j ei ej hne g hg hg'
      · have : j = ss.length := by omega
        subst this
        rw [List.getElem_concat_length rfl] at hg'
        exact key i ei g hg' hg
    · have : i = ss.length := by omega
      subst this
      rw [List.getElem_concat_length rfl] at hg
      rw [List.getElem_append_left (by omega)] at hg'
      exact key j (by omega) g hg hg'
  · show r - Int.toNat ((k : Int) + 1) < r - Int.toNat (k : Int)
    omega
  · have hkr : k = r := by omega
    subst hkr
    rw [Nat.sub_self, List.replicate_zero, List.append_nil] at hO
    exact ⟨ss, hl, (hO.ext hE12).row, fun i hi => let ⟨xs, k1, k2, k3⟩ := h3 i hi; ⟨xs, (k1.ext hE10).ext hE12, (k2.ext hE10).ext hE12, k3⟩, h4⟩
theorem matNone_call {W0 W : PW} {M : Nat → Prop} {n0 r c : Nat} {K : Value → PW → Prop} (hn : NewFrom n0 W) (hr : r ≤ 1048576) (hc : c ≤ 1048576) (kont : ∀ (s' : Sl) (W' : PW), Ext W W' → (OMat 107 52 31 (n0 ≤ ·) W' s' r c (fun _ _ => 0)) → K (Sl.v s') W') :
    callN Go.Proofs.Tryz.prog W0 M 34 [.int .i64 (r : Int), .int .i64 (c : Int)] W K :=
  callN_of (fun W' hE => matNone_ok (M := fun _ => False) (hn.ext hE) hr hc) (fun W' v W'' hE hE' hP => by
    obtain ⟨s', rfl, h⟩ := hP
    exact kont s' W'' (hE.trans hE') h)
/-- A matrix that may be. -/
def RightP (r : Nat) (c : Nat → Nat) : Prop := (∀ i, i < r → c i = c 0) ∧ 1 ≤ r ∧ r ≤ 12 ∧ 1 ≤ c 0 ∧ c 0 ≤ 12
theorem matEven_ok {W0 : PW} {M : Nat → Prop} {s : Sl} {r : Nat} {c : Nat → Nat} {m : Nat → Nat → Rat} (h : IsMat 107 52 31 W0 s r c m) (hr : r ≤ 1099511627776) :
    PCallsM Go.Proofs.Tryz.prog 102 [s.v] W0 M fun v W' => ∃ (b : Bool), v = .bool b ∧ (b = true ↔ RightP r c) := by
  apply callmat_even_rat_Rat
  have hn := h.n
  refine ⟨fun l W => match l with | [.val (.int .i64 i)] => Ext W0 W ∧ ∃ k : Nat, i = (k : Int) ∧ k ≤ r ∧ ∀ i, i < k → c i = c 0 | _ => False, fun l _ => match l with | [.val (.int .i64 i)] => r - i.toNat | _ => 0, ⟨Ext.refl _, 0, rfl, Nat.zero_le _, fun i h => (by omega)⟩, ?_⟩
  rintro i3 W4 ⟨hE4, k, rfl, hk, hck⟩
  have h4 := h.ext hE4
  refine ⟨fun hlt => ?_, fun hge => ⟨fun h1 => ⟨fun h12 => ?_, fun h12 => fun W14 _ => ⟨false, rfl, ?_⟩⟩, fun h1 => fun W21 _ => ⟨false, rfl, ?_⟩⟩⟩
  · obtain ⟨x, e1, e2⟩ := h4.at (i := k) (by omega)
    obtain ⟨y, f1, f2⟩ := h4.at (i := 0) (by omega)
    have n1 := e2.n
    have n2 := f2.n
    refine ⟨h4.inB (by omega) (by omega), x, e1, h4.inB (by omega) (by omega), y, f1, fun hne W7 _ => ⟨false, rfl, ?_⟩, fun heq => ⟨by unfold I64; omega, ⟨hE4, k + 1, by push_cast; rfl, by omega, fun i hi => ?_⟩, ?_⟩⟩
    · refine ⟨fun h => (by cases h), fun h => ?_⟩
      have := h.1 k (by omega)
      omega
    · by_cases e : i = k
      · subst e; omega
      · exact hck i (by omega)
    · show r - Int.toNat ((k : Int) + 1) < r - Int.toNat (k : Int)
      omega
  · have hkr : k = r := by omega
    obtain ⟨y, f1, f2⟩ := h4.at (i := 0) (by omega)
    have n2 := f2.n
    have ib := h4.inB (i := 0) (by omega) (by omega)
    refine ⟨ib, y, f1, fun hy => ⟨ib, y, f1, fun W10 _ => ⟨_, rfl, ?_⟩⟩, fun hy W11 _ => ⟨false, rfl, ?_⟩⟩
    · rw [decide_eq_true_iff]
      exact ⟨fun h => ⟨fun i hi => hck i (by omega), by omega, by omega, by omega, by omega⟩, fun h => by have := h.2.2.2.2; omega⟩
    · refine ⟨fun h => (by cases h), fun h => ?_⟩
      have := h.2.2.2.1
      omega
  · refine ⟨fun h => (by cases h), fun h => ?_⟩
    have := h.2.2.1
    omega
  · refine ⟨fun h => (by cases h), fun h => ?_⟩
    have := h.2.1
    omega
theorem matEven_call {W0 W : PW} {M : Nat → Prop} {s : Sl} {r : Nat} {c : Nat → Nat} {m : Nat → Nat → Rat} {K : Value → PW → Prop} (h : IsMat 107 52 31 W s r c m) (hr : r ≤ 1099511627776) (kont : ∀ (b : Bool) (W' : PW), Ext W W' → ((b = true ↔ RightP r c)) → K (.bool b) W') :
    callN Go.Proofs.Tryz.prog W0 M 102 [s.v] W K :=
  callN_of (fun W' hE => matEven_ok (M := fun _ => False) (h.ext hE) hr) (fun W' v W'' hE hE' hP => by
    obtain ⟨b, rfl, h⟩ := hP
    exact kont b W'' (hE.trans hE') h)
theorem matRight_ok {W0 : PW} {M : Nat → Prop} {s : Sl} {r : Nat} {c : Nat → Nat} {m : Nat → Nat → Rat} (h : IsMat 107 52 31 W0 s r c m) (hr : r ≤ 1099511627776) :
    PCallsM Go.Proofs.Tryz.prog 76 [s.v] W0 M fun v W' => ∃ (b : Bool), v = .bool b ∧ (b = true ↔ RightP r c) := by
  apply callmat_Right
  exact matEven_call h hr fun b W2 hE2 hb => ⟨b, rfl, fun W4 hE4 => ⟨b, rfl, hb⟩⟩
theorem matRight_call {W0 W : PW} {M : Nat → Prop} {s : Sl} {r : Nat} {c : Nat → Nat} {m : Nat → Nat → Rat} {K : Value → PW → Prop} (h : IsMat 107 52 31 W s r c m) (hr : r ≤ 1099511627776) (kont : ∀ (b : Bool) (W' : PW), Ext W W' → ((b = true ↔ RightP r c)) → K (.bool b) W') :
    callN Go.Proofs.Tryz.prog W0 M 76 [s.v] W K :=
  callN_of (fun W' hE => matRight_ok (M := fun _ => False) (h.ext hE) hr) (fun W' v W'' hE hE' hP => by
    obtain ⟨b, rfl, h⟩ := hP
    exact kont b W'' (hE.trans hE') h)
def oneF : Nat → Nat → Rat := fun i j => if i = j then 1 else 0
theorem matOne_ok {W0 : PW} {M : Nat → Prop} {n0 n : Nat} (hn : NewFrom n0 W0) (h1 : 1 ≤ n) (h12 : n ≤ 12) :
    PCallsM Go.Proofs.Tryz.prog 17 [.int .i64 (n : Int)] W0 M fun v W' => ∃ (s' : Sl), v = Sl.v s' ∧ OMat 107 52 31 (n0 ≤ ·) W' s' n n oneF := by
  apply callmat_One
  have en : mn (mx (n : Int) 1) 12 = (n : Int) := by unfold mn mx; split <;> (try split) <;> omega
  unfold Rmat_One
  rw [en]
  have hnn : NewFrom W0.w.heap.size W0 := Nat.le_refl _
  refine matNone_call hnn (by omega) (by omega) fun s3 W2 hE2 h2 => ⟨s3, rfl, ?_⟩
  refine ⟨fun l W => match l with | [.val (.int .i64 i)] => ∃ k : Nat, i = (k : Int) ∧ k ≤ n ∧ OMat 107 52 31 (W0.w.heap.size ≤ ·) W s3 n n (fun a b => if a = b ∧ a < k then 1 else 0) | _ => False, fun l _ => match l with | [.val (.int .i64 i)] => n - i.toNat | _ => 0, ⟨0, rfl, Nat.zero_le _, h2.congr fun i j _ _ => by simp⟩, ?_⟩
  rintro i6 W7 ⟨k, rfl, hk, h7⟩
  have hs3 := h7.mat.n
  refine ⟨fun hlt => ?_, fun hge W15 hE15 => ⟨s3, rfl, ?_⟩⟩
  · obtain ⟨x, e1, e2⟩ := h7.mat.at (i := k) (by omega)
    refine ⟨h7.mat.inB (by omega) (by omega), x, e1, ratOf_call (z := 1) (by unfold I64; omega) fun s11 b12 s13 W10 hE10 h10 => ⟨s11, b12, s13, rfl, hE10, (e2.ext hE10).inB (by omega) (by omega), ?_⟩⟩
    have h10' := h7.ext hE10
    have e1' := e1.ext hE10
    refine h10'.store (j := k) e1' (by omega) (by omega) h10 (by decide) (by decide) (fun g hg => .inr hg) fun W14 _ h14 => ⟨by unfold I64; omega, ⟨k + 1, by push_cast; rfl, by omega, h14.congr fun a b ha hb => ?_⟩, ?_⟩
    · unfold setM
      by_cases e : a = k ∧ b = k
      · rw [if_pos e, if_pos (by omega)]; rfl
      · rw [if_neg e]
        dsimp only
        by_cases e2 : a = b ∧ a < k
        · rw [if_pos e2, if_pos (by omega)]
        · rw [if_neg e2, if_neg (by omega)]
    · show n - Int.toNat ((k : Int) + 1) < n - Int.toNat (k : Int)
      omega
  · refine ((h7.ext hE15).mono fun g hg => Nat.le_trans hn hg).congr fun i j hi hj => ?_
    unfold oneF
    by_cases e : i = j
    · rw [if_pos e, if_pos ⟨e, by omega⟩]
    · rw [if_neg e, if_neg (by omega)]
theorem matOne_call {W0 W : PW} {M : Nat → Prop} {n0 n : Nat} {K : Value → PW → Prop} (hn : NewFrom n0 W) (h1 : 1 ≤ n) (h12 : n ≤ 12) (kont : ∀ (s' : Sl) (W' : PW), Ext W W' → (OMat 107 52 31 (n0 ≤ ·) W' s' n n oneF) → K (Sl.v s') W') :
    callN Go.Proofs.Tryz.prog W0 M 17 [.int .i64 (n : Int)] W K :=
  callN_of (fun W' hE => matOne_ok (M := fun _ => False) (hn.ext hE) h1 h12) (fun W' v W'' hE hE' hP => by
    obtain ⟨s', rfl, h⟩ := hP
    exact kont s' W'' (hE.trans hE') h)
end Go.Proofs.YtcffcndpefaalaaGreat

/- mat: Turn, Mul, Same; ldl: symmetric, left. -/
set_option maxRecDepth 100000
set_option linter.unusedVariables false
set_option linter.unusedSimpArgs false
namespace Go.Proofs.YtcffcndpefaalaaGreat
open Go Go.SX
theorem matTurn_ok {W0 : PW} {M : Nat → Prop} {n0 r : Nat} {s : Sl} {c : Nat → Nat} {m : Nat → Nat → Rat} (hn : NewFrom n0 W0) (h : IsMat 107 52 31 W0 s r c m) (hr : r ≤ 1099511627776) :
    PCallsM Go.Proofs.Tryz.prog 40 [s.v] W0 M fun v W' => ∃ (s' : Sl), ∃ (b : Bool), v = .tuple #[Sl.v s', .bool b] ∧ ((b = true ↔ RightP r c) ∧ (RightP r c → OMat 107 52 31 (n0 ≤ ·) W' s' (c 0) r (fun i j => m j i))) := by
  apply callmat_Turn
  have hsn := h.n
  refine matRight_call h hr fun b W2 hE2 hb => ⟨b, rfl, fun hf W4 hE4 => ⟨⟨none, 0, 0⟩, false, rfl, ?_, ?_⟩, fun ht => ?_⟩
  · have : b = false := by simpa using hf
    rw [this] at hb
    exact hb
  · intro hR
    have := hb.2 hR
    rw [this] at hf
    cases hf
  have hbt : b = true := by simpa using ht
  have hR := hb.1 hbt
  obtain ⟨hc, hr1, hr12, hc1, hc12⟩ := hR
  have h2 := h.ext hE2
  obtain ⟨y, f1, f2⟩ := h2.at (i := 0) (by omega)
  have ny := f2.n
  refine ⟨h2.inB (by omega) (by omega), y, f1, ?_⟩
  rw [ny, hsn]
  obtain ⟨n1, hn1⟩ : ∃ n1, W2.w.heap.size = n1 := ⟨_, rfl⟩
  have hle : W2.w.heap.size ≤ n1 := by omega
  have hn1' : NewFrom n1 W2 := by unfold NewFrom; omega
  have h01 : W0.w.heap.size ≤ n1 := Nat.le_trans hE2.size hle
  refine matNone_call hn1' (by omega) (by omega) fun s8 W7 hE7 h8 => ⟨s8, rfl, ?_⟩
  refine ⟨fun l W => match l with | [.val (.int .i64 i)] => ∃ k : Nat, i = (k : Int) ∧ k ≤ r ∧ ExtN n1 W2 W ∧ OMat 107 52 31 (n1 ≤ ·) W s8 (c 0) r (fun a b => if b < k then m b a else 0) | _ => False, fun l _ => match l with | [.val (.int .i64 i)] => r - i.toNat | _ => 0, ⟨0, rfl, Nat.zero_le _, hE7.toM _, h8.congr fun i j _ _ => by simp⟩, ?_⟩
  rintro i11 W12 ⟨k, rfl, hk, hE12, h12⟩
  refine ⟨fun hlt => ?_, fun hge W23 hE23 => ⟨s8, true, rfl, ⟨fun _ => hb.1 hbt, fun _ => rfl⟩, fun _ => ?_⟩⟩
  · have hkr : k < r := by omega
    obtain ⟨x, e1, e2⟩ := h2.at (i := k) hkr
    have nx := e2.n
    have hck := hc k hkr
    refine ⟨(h2.new hE12 hle).inB (by omega) (by omega), x, e1.new hE12 hle, ?_⟩
    refine ⟨fun l W => match l with | [.val (.int .i64 i)] => ∃ l : Nat, i = (l : Int) ∧ l ≤ c 0 ∧ ExtN n1 W2 W ∧ OMat 107 52 31 (n1 ≤ ·) W s8 (c 0) r (fun a b => if b < k ∨ (b = k ∧ a < l) then m b a else 0) | _ => False, fun l _ => match l with | [.val (.int .i64 i)] => c 0 - i.toNat | _ => 0, ⟨0, rfl, Nat.zero_le _, hE12, h12.congr fun i j _ _ => by simp⟩, ?_⟩
    rintro i16 W17 ⟨l, rfl, hl, hE17, h17⟩
    refine ⟨fun hlt2 => ?_, fun hge2 => ⟨by unfold I64; omega, ⟨k + 1, by push_cast; rfl, by omega, hE17, h17.congr fun a b ha hb => ?_⟩, ?_⟩⟩
    · have hlc : l < c 0 := by omega
      have e17 := e2.new hE17 hle
      obtain ⟨s18, b19, s20, g1, g2⟩ := e17.at (i := l) (by omega)
      obtain ⟨z, z1, z2⟩ := h17.mat.at (i := l) hlc
      refine ⟨e17.inB (by omega) (by omega), s18, b19, s20, g1, h17.mat.inB (by omega) (by omega), z, z1, z2.inB (by omega) (by omega), ?_⟩
      refine h17.store (j := k) z1 hlc hkr g2 (by decide) (by decide) (fun g hg => .inr (Nat.le_trans h01 hg)) fun W22 hp h22 => ⟨by unfold I64; omega, ⟨l + 1, by push_cast; rfl, by omega, hE17.trans (hp.extN fun g hg => hg), h22.congr fun a b ha hb => ?_⟩, ?_⟩
      · unfold setM
        by_cases e : a = l ∧ b = k
        · rw [if_pos e, if_pos (by omega), e.1, e.2]
        · rw [if_neg e]
          dsimp only
          by_cases e' : b < k ∨ (b = k ∧ a < l)
          · rw [if_pos e', if_pos (by omega)]
          · rw [if_neg e', if_neg (by omega)]
      · show c 0 - Int.toNat ((l : Int) + 1) < c 0 - Int.toNat (l : Int)
        omega
    · by_cases e' : b < k ∨ (b = k ∧ a < l)
      · rw [if_pos e', if_pos (by omega)]
      · rw [if_neg e', if_neg (by omega)]
    · show r - Int.toNat ((k : Int) + 1) < r - Int.toNat (k : Int)
      omega
  · refine ((h12.ext hE23).mono fun g hg => Nat.le_trans (hn.ext hE2) (Nat.le_trans hle hg)).congr fun a b ha hb => ?_
    rw [if_pos (by omega)]
theorem matTurn_call {W0 W : PW} {M : Nat → Prop} {n0 r : Nat} {s : Sl} {c : Nat → Nat} {m : Nat → Nat → Rat} {K : Value → PW → Prop} (hn : NewFrom n0 W) (h : IsMat 107 52 31 W s r c m) (hr : r ≤ 1099511627776) (kont : ∀ (s' : Sl) (b : Bool) (W' : PW), Ext W W' → (((b = true ↔ RightP r c) ∧ (RightP r c → OMat 107 52 31 (n0 ≤ ·) W' s' (c 0) r (fun i j => m j i)))) → K (.tuple #[Sl.v s', .bool b]) W') :
    callN Go.Proofs.Tryz.prog W0 M 40 [s.v] W K :=
  callN_of (fun W' hE => matTurn_ok (M := fun _ => False) (hn.ext hE) (h.ext hE) hr) (fun W' v W'' hE hE' hP => by
    obtain ⟨s', b, rfl, h⟩ := hP
    exact kont s' b W'' (hE.trans hE') h)
theorem lsum_sz {f : Nat → Rat} {K : Nat} : ∀ {j : Nat} (_ : ∀ t, t < j → Sz K (f t)), Sz (j * (K + 1) + 1) (lsum f j)
  | 0, _ => Sz.zero (by omega)
  | j + 1, h => by
    have h1 := lsum_sz (j := j) (fun t ht => h t (by omega))
    have := h1.add (h j (by omega))
    exact this.mono (by rw [Nat.succ_mul]; omega)
end Go.Proofs.YtcffcndpefaalaaGreat
