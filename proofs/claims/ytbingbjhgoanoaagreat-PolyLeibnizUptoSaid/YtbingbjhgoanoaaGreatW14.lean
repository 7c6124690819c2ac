/- poly.Diff, cinctureref1.Diff; cincturelaw8.PolyDiffs. -/
import Derived.Test.YtbingbjhgoanoaaGreatW13
import Derived.Test.YtbingbjhgoanoaaGreatR15
import Derived.Test.YtbingbjhgoanoaaGreatR16
import Derived.Test.YtbingbjhgoanoaaGreatW12
import Derived.Test.YtbingbjhgoanoaaGreatLib3
import Derived.Test.YtbingbjhgoanoaaGreatR17
set_option linter.unusedVariables false
set_option linter.unusedSimpArgs false
set_option maxRecDepth 100000
set_option linter.unusedVariables false
set_option linter.unusedSimpArgs false
namespace Go.Proofs.YtbingbjhgoanoaaGreat
open Go Go.SX
/-- One exponent less. -/
def decM (m : Mon) (k : Nat) : Mon := if k = 0 then ⟨m.x - 1, m.y, m.z⟩ else if k = 1 then ⟨m.x, m.y - 1, m.z⟩ else ⟨m.x, m.y, m.z - 1⟩
/-- What a term's derivative is. -/
def dterm (k : Nat) (t : Tm) : List Tm := if 0 < eget t.1 k then [(decM t.1 k, t.2 * ((eget t.1 k : Int) : Rat))] else []
def dlist (p : List Tm) (k : Nat) : List Tm := p.flatMap (dterm k)
def diffP (p : List Tm) (i : Int) : List Tm := if 0 ≤ i ∧ i < 3 then pnorm (dlist p i.toNat) else []
theorem dlist_snoc {p : List Tm} {j : Nat} (hj : j < p.length) (k : Nat) : dlist (p.take (j + 1)) k = dlist (p.take j) k ++ dterm k p[j] := by
  rw [take_snocR hj]
  unfold dlist
  rw [List.flatMap_append]
  rw [show List.flatMap (dterm k) [p[j]] = dterm k p[j] from by simp [List.flatMap]]
theorem dterm_len (k : Nat) (t : Tm) : (dterm k t).length ≤ 1 := by
  unfold dterm
  split <;> simp
theorem dlist_len (p : List Tm) (k : Nat) : (dlist p k).length ≤ p.length := by
  induction p with
  | nil => simp [dlist]
  | cons t r ih =>
    have e : dlist (t :: r) k = dterm k t ++ dlist r k := rfl
    have := dterm_len k t
    rw [e]
    simp only [List.length_append, List.length_cons]
    omega
theorem decM_ok {m : Mon} {k : Nat} (h : m.ok) (hk : k < 3) (hp : 0 < eget m k) : (decM m k).ok := by
  unfold Mon.ok at h
  unfold eget at hp
  unfold decM
  rcases (by omega : k = 0 ∨ k = 1 ∨ k = 2) with rfl | rfl | rfl
  · simp at hp; exact ⟨⟨by show 0 ≤ m.x - 1; omega, by show m.x - 1 ≤ 255; omega⟩, h.2.1, h.2.2⟩
  · simp at hp; exact ⟨h.1, ⟨by show 0 ≤ m.y - 1; omega, by show m.y - 1 ≤ 255; omega⟩, h.2.2⟩
  · simp at hp; exact ⟨h.1, h.2.1, by show 0 ≤ m.z - 1; omega, by show m.z - 1 ≤ 255; omega⟩
theorem dlist_bd {l : Nat} {p : List Tm} (h : Bd l p) (ho : POk p) (k : Nat) : Bd (l + 1) (dlist p k) := by
  obtain ⟨D, N, h1, h2, h3, h4⟩ := h
  have key : ∀ {p : List Tm} {N : Nat}, Fit D N p → POk p → Fit D (N * 255) (dlist p k) := by
    intro p
    induction p with
    | nil => intro N _ _; trivial
    | cons t r ih =>
      rintro N ⟨a, b, g1, g2, g3⟩ ho
      have e : dlist (t :: r) k = dterm k t ++ dlist r k := rfl
      rw [e]
      have hr := ih g3 fun x hx => ho x (by simp [hx])
      have ht : Fit D (a * 255) (dterm k t) := by
        unfold dterm
        split
        · have hk := eget_ok (ho t (by simp)) k
          have h5 : FitQ 1 255 ((eget t.1 k : Int) : Rat) := (FitQ.int (eget t.1 k)).mono (by omega)
          have h6 := g2.mul h5
          rw [Nat.mul_one] at h6
          exact ⟨a * 255, 0, by omega, h6, trivial⟩
        · trivial
      have := ht.append hr
      rw [← Nat.add_mul] at this
      exact this.mono (Nat.mul_le_mul_right _ g1)
  have h5 := nl_mul N 255
  have h6 : nl 255 ≤ 1 := nl_le (by decide)
  exact ⟨D, N * 255, key h1 ho, h2, by omega, by omega⟩
theorem boxAt6 (m : Mon) {k : Nat} (hk : k < 3) (r : List Value) : BoxAt (.int .u8 m.x :: .int .u8 m.y :: .int .u8 m.z :: r) (0 + Int.toNat (k : Int) * 1 + 0) [.int .u8 (eget m k)] := by
  rcases (by omega : k = 0 ∨ k = 1 ∨ k = 2) with rfl | rfl | rfl <;> exact ⟨by simp, rfl⟩
theorem polyDiff_ok {W0 : PW} {M : Nat → Prop} {s : Sl} {p : List Tm} {i : Int} {l : Nat} (h : IsPoly 183 45 W0 s p) (hB : Bd l p) (hl : l ≤ 268435456) (hp : p.length ≤ 1073741824) :
    PCallsM Go.Proofs.Tryz.prog 26 [.agg ⟨[s.v]⟩, .int .i64 i] W0 M fun v W' => ∃ (s' : Sl), v = .agg ⟨[Sl.v s']⟩ ∧ IsPoly 183 45 W' s' (diffP p i) := by
  apply callpoly_Diff
  have hn := h.n
  refine ⟨fun h0 W1 _ => ⟨⟨none, 0, 0⟩, rfl, ?_⟩, fun h0 => ⟨fun h3 W2 _ => ⟨⟨none, 0, 0⟩, rfl, ?_⟩, fun h3 => ?_⟩⟩
  · unfold diffP; rw [if_neg (by omega)]; exact IsPoly.nil W1
  · unfold diffP; rw [if_neg (by omega)]; exact IsPoly.nil W2
  obtain ⟨k, rfl⟩ := Int.eq_ofNat_of_zero_le (by omega : 0 ≤ i)
  have hk3 : k < 3 := by omega
  have hkr : (0 : Int) ≤ (k : Int) ∧ (k : Int) < 3 := ⟨by omega, by omega⟩
  refine ⟨fun L W => match L with
    | [.row xs, .val (.int .i64 i)] => ∃ j : Nat, i = (j : Int) ∧ j ≤ p.length ∧ Ext W0 W ∧ All2 (PT 183 W) xs (dlist (p.take j) k)
    | _ => False, cnL p.length, ⟨0, rfl, by omega, Ext.refl _, trivial⟩, ?_⟩
  rintro l5 i6 W7 ⟨j, rfl, hj, hE7, ha⟩
  have hal := ha.len
  have hdl := dlist_len (p.take j) k
  rw [List.length_take] at hdl
  refine ⟨fun hlt => ?_, fun hge s46 W47 hE47 hO _ => ?_⟩
  · have hjl : j < p.length := by omega
    have hP := h.ext hE7
    obtain ⟨h0', s1, b1, s2, e1, _, _, hr⟩ := hP.at (List.getElem?_eq_getElem hjl)
    have hek := eget_ok h0' k
    have hmu : p.length - Int.toNat ((j : Int) + 1) < p.length - Int.toNat (j : Int) := by omega
    have hbx := boxAt6 p[j].1 hk3 [s1.v, .bool b1, s2.v]
    have hw : IntKind.wrap .u8 (eget p[j].1 k - 1) = eget p[j].1 k - 1 ∨ ¬ 0 < eget p[j].1 k := by
      by_cases h : 0 < eget p[j].1 k
      · exact .inl (wrap8 (by omega) (by omega))
      · exact .inr h
    refine ⟨hP.inB (by omega) (by omega), _, _, _, s1, b1, s2, e1, hkr, _, hbx, fun hpos => ⟨hkr, _, hbx, hkr, by omega, ⟨⟨trivial, fun e => ?_⟩, fun e => ?_⟩, fun e => ?_⟩, fun hz => ⟨by unfold I64; omega, ⟨j + 1, by push_cast; rfl, by omega, hE7, ?_⟩, hmu⟩⟩
    case refine_4 =>
      rw [dlist_snoc hjl]
      unfold dterm
      rw [if_neg hz, List.append_nil]
      exact ha
    all_goals
      have hw' : IntKind.wrap .u8 (eget p[j].1 k - 1) = eget p[j].1 k - 1 := hw.resolve_right (fun h => h hpos)
      have hok := decM_ok h0' hk3 hpos
      have hdt : dterm k p[j] = [(decM p[j].1 k, p[j].2 * ((eget p[j].1 k : Int) : Rat))] := by unfold dterm; rw [if_pos hpos]
      have e' : k = _ := e
      subst e'
      refine ⟨by unfold I64; omega, ratOf_call (z := eget p[j].1 _) (by unfold I64; omega) fun s18 b19 s20 W17 hE17 h17 => ⟨s18, b19, s20, rfl, ratMul_call (hr.ext hE17) h17 (hB.sz _ (List.getElem_mem hjl)) ((FitQ.int _).sz (by decide) (k := l + 1) (by rw [nl_one]; omega) (Nat.le_trans (nl_mono (by omega : _ ≤ 255)) (Nat.le_trans (nl_le (by decide : 255 < B ^ 1)) (by omega)))) (by omega) (by omega) fun s23 b24 s25 W22 hE22 h22 => ⟨s23, b24, s25, rfl, by simp; omega, by unfold I64; omega, ⟨j + 1, by push_cast; rfl, by omega, hE7.trans (hE17.trans hE22), ?_⟩, hmu⟩⟩⟩
      rw [dlist_snoc hjl, hdt]
      refine (ha.mono fun _ _ h => h.ext (hE17.trans hE22)).snoc ⟨hok, s23, b24, s25, ?_, h22⟩
      rw [hw']
      rfl
  · have : j = p.length := by omega
    subst this
    rw [List.take_length] at ha
    have hdl := dlist_len p k
    refine polyNew_call (isPoly_of hO.row (ha.mono fun _ _ h => h.ext hE47)) (dlist_bd hB h.ok k) (by omega) (by omega) fun s' W49 hE49 hp' => ⟨s', rfl, fun W51 hE51 => ⟨s', rfl, ?_⟩⟩
    unfold diffP
    rw [if_pos hkr]
    exact hp'.ext hE51
theorem polyDiff_call {W0 W : PW} {M : Nat → Prop} {s : Sl} {p : List Tm} {i : Int} {l : Nat} {K : Value → PW → Prop} (h : IsPoly 183 45 W s p) (hB : Bd l p) (hl : l ≤ 268435456) (hp : p.length ≤ 1073741824) (kont : ∀ (s' : Sl) (W' : PW), Ext W W' → (IsPoly 183 45 W' s' (diffP p i)) → K (.agg ⟨[Sl.v s']⟩) W') :
    callN Go.Proofs.Tryz.prog W0 M 26 [.agg ⟨[s.v]⟩, .int .i64 i] W K :=
  callN_of (fun W' hE => polyDiff_ok (M := fun _ => False) (h.ext hE) hB hl hp) (fun W' v W'' hE hE' hP => by
    obtain ⟨s', rfl, h⟩ := hP
    exact kont s' W'' (hE.trans hE') h)
theorem refDiff_ok {W0 : PW} {M : Nat → Prop} {s : Sl} {p : List Tm} {i : Int} {l : Nat} (h : IsRPoly 183 47 W0 s p) (hB : Bd l p) (hl : l ≤ 50000000) (hp : p.length ≤ 1073741824) :
    PCallsM Go.Proofs.Tryz.prog 27 [s.v, .int .i64 i] W0 M fun v W' => ∃ (s' : Sl), v = Sl.v s' ∧ IsRPoly 183 47 W' s' (diffP p i) := by
  apply callref1_Diff
  have hn := h.n
  refine ⟨fun h0 W1 _ => ⟨⟨none, 0, 0⟩, rfl, ?_⟩, fun h0 => ⟨fun h3 W2 _ => ⟨⟨none, 0, 0⟩, rfl, ?_⟩, fun h3 => ?_⟩⟩
  · unfold diffP; rw [if_neg (by omega)]; exact IsRPoly.nil W1
  · unfold diffP; rw [if_neg (by omega)]; exact IsRPoly.nil W2
  obtain ⟨k, rfl⟩ := Int.eq_ofNat_of_zero_le (by omega : 0 ≤ i)
  have hk3 : k < 3 := by omega
  have hkr : (0 : Int) ≤ (k : Int) ∧ (k : Int) < 3 := ⟨by omega, by omega⟩
  refine ⟨fun L W => match L with
    | [.val (.slice A n c), .val (.int .i64 i)] => ∃ j : Nat, i = (j : Int) ∧ j ≤ p.length ∧ Ext W0 W ∧ IsRPoly 183 47 W ⟨A, n, c⟩ (pnorm (dlist (p.take j) k))
    | _ => False, cnL p.length, ⟨0, rfl, by omega, Ext.refl _, IsRPoly.nil W0⟩, ?_⟩
  rintro s5 i6 W7 ⟨j, rfl, hj, hE7, hr⟩
  have hr : IsRPoly 183 47 W7 s5 (pnorm (dlist (p.take j) k)) := hr
  have hdl := dlist_len (p.take j) k
  rw [List.length_take] at hdl
  have hpl := pnorm_len (dlist (p.take j) k)
  refine ⟨fun hlt => ?_, fun hge W62 hE62 => ⟨s5, rfl, ?_⟩⟩
  · have hjl : j < p.length := by omega
    have hP := h.ext hE7
    have hib := hP.inB (i := (j : Int)) (by omega) (by omega)
    obtain ⟨h0', b1, s1, s2, _, e2, e3, hq⟩ := hP.at (List.getElem?_eq_getElem hjl)
    have hek := eget_ok h0' k
    have hmu : p.length - Int.toNat ((j : Int) + 1) < p.length - Int.toNat (j : Int) := by omega
    have hbx := boxAt6 p[j].1 hk3 []
    refine ⟨hib, _, _, _, e2, hkr, _, hbx, fun hpos => ⟨hkr, _, hbx, by unfold I64; omega, hkr, _, hbx, hkr, by omega, ⟨⟨trivial, fun e => ?_⟩, fun e => ?_⟩, fun e => ?_⟩, fun hz => ⟨by unfold I64; omega, ⟨j + 1, by push_cast; rfl, by omega, hE7, ?_⟩, hmu⟩⟩
    case refine_4 =>
      rw [dlist_snoc hjl]
      unfold dterm
      rw [if_neg hz, List.append_nil]
      exact hr
    all_goals
      have hw' : IntKind.wrap .u8 (eget p[j].1 k - 1) = eget p[j].1 k - 1 := wrap8 (by omega) (by omega)
      have hok := decM_ok h0' hk3 hpos
      have hdt : dterm k p[j] = [(decM p[j].1 k, p[j].2 * ((eget p[j].1 k : Int) : Rat))] := by unfold dterm; rw [if_pos hpos]
      have hbd := dlist_bd (hB.take (j + 1)) (fun t ht => h.ok t (List.mem_of_mem_take ht)) k
      rw [dlist_snoc hjl, hdt] at hbd
      have hsz : Sz (l + 1) ((eget p[j].1 k : Int) : Rat) := (FitQ.int _).sz (by decide) (by rw [nl_one]; omega) (Nat.le_trans (nl_mono (by omega : _ ≤ 255)) (Nat.le_trans (nl_le (by decide : 255 < B ^ 1)) (by omega)))
      refine ⟨hib, b1, s1, s2, e3, ?_⟩
      refine refRatOf_call (z := eget p[j].1 k) (by unfold I64; omega) fun b19 s20 s21 W18 hE18 h18 => ⟨b19, s20, s21, rfl, hE18, ?_⟩
      refine refQMul_call (hq.ext hE18) h18 (hB.sz _ (List.getElem_mem hjl)) hsz (by omega) (by omega) fun b24 s25 s26 W23 hE23 h23 => ⟨b24, s25, s26, rfl, ?_⟩
      rw [hw']
      have hs2 := hbd.right.sz (decM p[j].1 k, p[j].2 * ((eget p[j].1 k : Int) : Rat)) (by simp)
      have fin : ∀ s29 W28, Ext W23 W28 → IsRPoly 183 47 W28 s29 (pput (pnorm (dlist (p.take j) k)) (decM p[j].1 k, p[j].2 * ((eget p[j].1 k : Int) : Rat))) → ∃ j' : Nat, (j : Int) + 1 = (j' : Int) ∧ j' ≤ p.length ∧ Ext W0 W28 ∧ IsRPoly 183 47 W28 s29 (pnorm (dlist (p.take j') k)) := fun s29 W28 hE28 h28 => ⟨j + 1, by push_cast; rfl, by omega, hE7.trans ((hE18.trans hE23).trans hE28), by rw [dlist_snoc hjl, hdt, pnorm_snoc]; exact h28⟩
    · have e' : k = 0 := e
      subst e'
      have hd : decM p[j].1 0 = ⟨p[j].1.x - 1, p[j].1.y, p[j].1.z⟩ := rfl
      have he : eget p[j].1 0 = p[j].1.x := rfl
      rw [hd] at hok hs2 fin
      rw [he] at hs2 fin h23 ⊢
      rw [he] at hbd
      exact refPut_call (m := ⟨p[j].1.x - 1, p[j].1.y, p[j].1.z⟩) (hr.ext (hE18.trans hE23)) h23 hok hbd.left.norm.sz hs2 (by omega) (by omega) fun s29 W28 hE28 h28 => ⟨s29, rfl, by unfold I64; omega, fin s29 W28 hE28 h28, hmu⟩
    · have e' : k = 1 := e
      subst e'
      have hd : decM p[j].1 1 = ⟨p[j].1.x, p[j].1.y - 1, p[j].1.z⟩ := rfl
      have he : eget p[j].1 1 = p[j].1.y := rfl
      rw [hd] at hok hs2 fin
      rw [he] at hs2 fin h23 ⊢
      rw [he] at hbd
      exact refPut_call (m := ⟨p[j].1.x, p[j].1.y - 1, p[j].1.z⟩) (hr.ext (hE18.trans hE23)) h23 hok hbd.left.norm.sz hs2 (by omega) (by omega) fun s29 W28 hE28 h28 => ⟨s29, rfl, by unfold I64; omega, fin s29 W28 hE28 h28, hmu⟩
    · have e' : k = 2 := e
      subst e'
      have hd : decM p[j].1 2 = ⟨p[j].1.x, p[j].1.y, p[j].1.z - 1⟩ := rfl
      have he : eget p[j].1 2 = p[j].1.z := rfl
      rw [hd] at hok hs2 fin
      rw [he] at hs2 fin h23 ⊢
      rw [he] at hbd
      exact refPut_call (m := ⟨p[j].1.x, p[j].1.y, p[j].1.z - 1⟩) (hr.ext (hE18.trans hE23)) h23 hok hbd.left.norm.sz hs2 (by omega) (by omega) fun s29 W28 hE28 h28 => ⟨s29, rfl, by unfold I64; omega, fin s29 W28 hE28 h28, hmu⟩
  · have : j = p.length := by omega
    subst this
    rw [List.take_length] at hr
    unfold diffP
    rw [if_pos hkr]
    exact hr.ext hE62
theorem refDiff_call {W0 W : PW} {M : Nat → Prop} {s : Sl} {p : List Tm} {i : Int} {l : Nat} {K : Value → PW → Prop} (h : IsRPoly 183 47 W s p) (hB : Bd l p) (hl : l ≤ 50000000) (hp : p.length ≤ 1073741824) (kont : ∀ (s' : Sl) (W' : PW), Ext W W' → (IsRPoly 183 47 W' s' (diffP p i)) → K (Sl.v s') W') :
    callN Go.Proofs.Tryz.prog W0 M 27 [s.v, .int .i64 i] W K :=
  callN_of (fun W' hE => refDiff_ok (M := fun _ => False) (h.ext hE) hB hl hp) (fun W' v W'' hE hE' hP => by
    obtain ⟨s', rfl, h⟩ := hP
    exact kont s' W'' (hE.trans hE') h)
theorem diffP_bd {l : Nat} {p : List Tm} (h : Bd l p) (ho : POk p) (i : Int) : Bd (l + 1) (diffP p i) := by
  unfold diffP
  split
  · exact (dlist_bd h ho _).norm
  · obtain ⟨D, N, h1, h2, h3, h4⟩ := h
    exact ⟨1, 0, trivial, by decide, by rw [nl_one]; omega, by rw [nl_zero]; omega⟩
theorem diffP_len (p : List Tm) (i : Int) : (diffP p i).length ≤ p.length := by
  unfold diffP
  split
  · exact Nat.le_trans (pnorm_len _) (dlist_len p _)
  · simp
theorem IsPoly.pok {W : PW} {s : Sl} {p : List Tm} (h : IsPoly 183 45 W s p) : POk p := h.ok
/-- One comparison of derivatives. -/
theorem diffIs {W0 W : PW} {M : Nat → Prop} {s t : Sl} {p : List Tm} {i : Int} {l : Nat} (h1 : IsPoly 183 45 W s p) (h2 : IsRPoly 183 47 W t p) (hB : Bd l p) (hl : l ≤ 50000000) (hp : p.length ≤ 1073741824) {K : Bool → PW → Prop} (kont : ∀ W', Ext W W' → K true W') :
    callN Go.Proofs.Tryz.prog W0 M 26 [.agg ⟨[s.v]⟩, .int .i64 i] W fun v17 W18 => ∃ s19 : Sl, v17 = .agg ⟨[s19.v]⟩ ∧ callN Go.Proofs.Tryz.prog W0 M 27 [t.v, .int .i64 i] W18 fun v20 W21 => ∃ s22 : Sl, v20 = s22.v ∧ callN Go.Proofs.Tryz.prog W0 M 17 [.agg ⟨[s19.v]⟩, s22.v] W21 fun v23 W24 => ∃ b25 : Bool, v23 = .bool b25 ∧ K b25 W24 := by
  have hlen := diffP_len p i
  exact polyDiff_call h1 hB (by omega) hp fun s19 W18 hE18 h18 => ⟨s19, rfl, refDiff_call (h2.ext hE18) hB hl hp fun s22 W21 hE21 h21 => ⟨s22, rfl, law8Is_call (h18.ext hE21) h21 (diffP_bd hB h1.ok i).sz (by omega) (by omega) fun W24 hE24 _ => ⟨true, rfl, kont W24 (hE18.trans (hE21.trans hE24))⟩⟩⟩
theorem polyDiffs_ok {W0 : PW} {M : Nat → Prop} {s : Sl} {L : List (Mon × ByteArray)} {i : Int} (h1 : IsAPoly W0 s L) (l1 : L.length ≤ 1099511627776) (z1 : ∀ t ∈ L, t.2.size ≤ 1099511627776) :
    PCallsM Go.Proofs.Tryz.prog 6 [s.v, .int .i64 i] W0 M fun v W' => v = .bool true ∧ True := by
  apply calllaw8_PolyDiffs
  refine law8Of_call h1 l1 z1 fun s3 s4 b5 W2 hE2 g1 => ⟨s3, s4, b5, rfl, fun _ => law8alive_call fun W7 _ _ => ⟨true, rfl, fun W9 _ => ⟨rfl, trivial⟩⟩, fun hb5 => law8alive_call fun W11 hE11 _ => ⟨true, rfl, fun e => (by cases e), fun _ => ?_⟩⟩
  obtain ⟨p, op, p1, p2⟩ := g1 (by simpa using hb5)
  have lp := op.len
  refine diffIs (p1.ext hE11) (p2.ext hE11) op.bd (by omega) (by omega) fun W24 hE24 => ⟨fun _ => ?_, fun e => (by cases e)⟩
  refine diffIs (p1.ext (hE11.trans hE24)) (p2.ext (hE11.trans hE24)) op.bd (by omega) (by omega) fun W33 hE33 => ⟨fun _ => ?_, fun e => (by cases e)⟩
  exact diffIs (p1.ext (hE11.trans (hE24.trans hE33))) (p2.ext (hE11.trans (hE24.trans hE33))) op.bd (by omega) (by omega) fun W42 hE42 W44 _ => ⟨rfl, trivial⟩
theorem polyDiffs_call {W0 W : PW} {M : Nat → Prop} {s : Sl} {L : List (Mon × ByteArray)} {i : Int} {K : Value → PW → Prop} (h1 : IsAPoly W s L) (l1 : L.length ≤ 1099511627776) (z1 : ∀ t ∈ L, t.2.size ≤ 1099511627776) (kont : ∀  (W' : PW), Ext W W' → (True) → K (.bool true) W') :
    callN Go.Proofs.Tryz.prog W0 M 6 [s.v, .int .i64 i] W K :=
  callN_of (fun W' hE => polyDiffs_ok (M := fun _ => False) (h1.ext hE) l1 z1) (fun W' v W'' hE hE' hP => by
    obtain ⟨rfl, h⟩ := hP
    exact kont  W'' (hE.trans hE') h)
end Go.Proofs.YtbingbjhgoanoaaGreat

/- poly.Same. -/
set_option maxRecDepth 100000
set_option linter.unusedVariables false
set_option linter.unusedSimpArgs false
namespace Go.Proofs.YtbingbjhgoanoaaGreat
open Go Go.SX
theorem sameTm_ok {W0 : PW} {M : Nat → Prop} {a b : Mon} {s1 s2 s3 s4 : Sl} {b1 b2 : Bool} {q r : Rat} {k : Nat} (h1 : IsRat 183 W0 s1 b1 s2 q) (h2 : IsRat 183 W0 s3 b2 s4 r) (hq : Sz k q) (hr : Sz k r) (hk : k ≤ 34359738368) :
    PCallsM Go.Proofs.Tryz.prog 77 [.agg ⟨[.int .u8 a.x, .int .u8 a.y, .int .u8 a.z, s1.v, .bool b1, s2.v]⟩, .agg ⟨[.int .u8 b.x, .int .u8 b.y, .int .u8 b.z, s3.v, .bool b2, s4.v]⟩] W0 M fun v W' => v = .bool (decide (a = b ∧ q = r)) ∧ True := by
  apply callpoly_Same_1
  refine ⟨fun he => ratCmp_call h1 h2 hq hr hk hk fun W2 hE2 _ => ⟨_, rfl, fun W4 _ => ⟨?_, trivial⟩⟩, fun hne W5 _ => ⟨?_, trivial⟩⟩
  · have he := mon_cells.1 he
    congr 1
    rw [decide_eq_decide, cmpQ_zero]
    exact ⟨fun h => ⟨he, h⟩, fun h => h.2⟩
  · rw [decide_eq_false fun h => hne (mon_cells.2 h.1)]
theorem sameTm_call {W0 W : PW} {M : Nat → Prop} {a b : Mon} {s1 s2 s3 s4 : Sl} {b1 b2 : Bool} {q r : Rat} {k : Nat} {K : Value → PW → Prop} (h1 : IsRat 183 W s1 b1 s2 q) (h2 : IsRat 183 W s3 b2 s4 r) (hq : Sz k q) (hr : Sz k r) (hk : k ≤ 34359738368) (kont : ∀  (W' : PW), Ext W W' → (True) → K (.bool (decide (a = b ∧ q = r))) W') :
    callN Go.Proofs.Tryz.prog W0 M 77 [.agg ⟨[.int .u8 a.x, .int .u8 a.y, .int .u8 a.z, s1.v, .bool b1, s2.v]⟩, .agg ⟨[.int .u8 b.x, .int .u8 b.y, .int .u8 b.z, s3.v, .bool b2, s4.v]⟩] W K :=
  callN_of (fun W' hE => sameTm_ok (M := fun _ => False) (h1.ext hE) (h2.ext hE) hq hr hk) (fun W' v W'' hE hE' hP => by
    obtain ⟨rfl, h⟩ := hP
    exact kont  W'' (hE.trans hE') h)
theorem eqTms_ok {W0 : PW} {M : Nat → Prop} {s t : Sl} {p q : List Tm} {k : Nat} (h1 : IsPoly 183 45 W0 s p) (h2 : IsPoly 183 45 W0 t q) (hp : ∀ t ∈ p, Sz k t.2) (hq : ∀ t ∈ q, Sz k t.2) (hk : k ≤ 34359738368) (hl : p.length ≤ 1099511627776) :
    PCallsM Go.Proofs.Tryz.prog 76 [s.v, t.v, .func (.func 77) #[] #[]] W0 M fun v W' => v = .bool (decide (p = q)) ∧ True := by
  apply callslices_EqualFunc_poly_Term_poly_Term_poly_Term_poly_Term
  have n1 := h1.n
  have n2 := h2.n
  refine ⟨fun hne W1 _ => ⟨?_, trivial⟩, fun heq => ?_⟩
  · rw [decide_eq_false]
    rintro rfl
    omega
  have hlen : p.length = q.length := by omega
  refine ⟨fun L W => match L with | [.val (.int .i64 i)] => Ext W0 W ∧ ∃ j : Nat, i = (j : Int) ∧ j ≤ p.length ∧ p.take j = q.take j | _ => False, fun l _ => match l with | [.val (.int .i64 i)] => p.length - i.toNat | _ => 0, ⟨Ext.refl _, 0, rfl, by omega, rfl⟩, ?_⟩
  rintro i4 W5 ⟨hE, j, rfl, hj, ht⟩
  refine ⟨fun hlt => ?_, fun hge W22 _ => ⟨?_, trivial⟩⟩
  · have hjl : j < p.length := by omega
    have hjq : j < q.length := by omega
    have hP := h1.ext hE
    have hQ := h2.ext hE
    obtain ⟨o1, a1, b1, c1, e1, _, _, r1⟩ := hP.at (List.getElem?_eq_getElem hjl)
    obtain ⟨o2, a2, b2, c2, e2, _, _, r2⟩ := hQ.at (List.getElem?_eq_getElem hjq)
    refine ⟨hP.inB (by omega) (by omega), _, _, _, a1, b1, c1, e1, hQ.inB (by omega) (by omega), _, _, _, a2, b2, c2, e2, sameTm_call r1 r2 (hp _ (List.getElem_mem hjl)) (hq _ (List.getElem_mem hjq)) hk fun W19 hE19 _ => ⟨_, rfl, fun hno W21 _ => ⟨?_, trivial⟩, fun hyes => ⟨by unfold I64; omega, ⟨hE.trans hE19, j + 1, by push_cast; rfl, by omega, ?_⟩, ?_⟩⟩⟩
    · rw [decide_eq_false]
      rintro rfl
      simp at hno
    · rw [take_snocR hjl, take_snocR hjq, ht]
      have he : p[j].1 = q[j].1 ∧ p[j].2 = q[j].2 := by simpa using hyes
      rw [show p[j] = q[j] from Prod.ext he.1 he.2]
    · show p.length - Int.toNat ((j : Int) + 1) < p.length - Int.toNat (j : Int)
      omega
  · have : j = p.length := by omega
    subst this
    rw [List.take_length, hlen, List.take_length] at ht
    rw [decide_eq_true ht]
theorem eqTms_call {W0 W : PW} {M : Nat → Prop} {s t : Sl} {p q : List Tm} {k : Nat} {K : Value → PW → Prop} (h1 : IsPoly 183 45 W s p) (h2 : IsPoly 183 45 W t q) (hp : ∀ t ∈ p, Sz k t.2) (hq : ∀ t ∈ q, Sz k t.2) (hk : k ≤ 34359738368) (hl : p.length ≤ 1099511627776) (kont : ∀  (W' : PW), Ext W W' → (True) → K (.bool (decide (p = q))) W') :
    callN Go.Proofs.Tryz.prog W0 M 76 [s.v, t.v, .func (.func 77) #[] #[]] W K :=
  callN_of (fun W' hE => eqTms_ok (M := fun _ => False) (h1.ext hE) (h2.ext hE) hp hq hk hl) (fun W' v W'' hE hE' hP => by
    obtain ⟨rfl, h⟩ := hP
    exact kont  W'' (hE.trans hE') h)
theorem polySame_ok {W0 : PW} {M : Nat → Prop} {s t : Sl} {p q : List Tm} {k : Nat} (h1 : IsPoly 183 45 W0 s p) (h2 : IsPoly 183 45 W0 t q) (hp : ∀ t ∈ p, Sz k t.2) (hq : ∀ t ∈ q, Sz k t.2) (hk : k ≤ 34359738368) (hl : p.length ≤ 1099511627776) :
    PCallsM Go.Proofs.Tryz.prog 37 [.agg ⟨[s.v]⟩, .agg ⟨[t.v]⟩] W0 M fun v W' => v = .bool (decide (p = q)) ∧ True := by
  apply callpoly_Same
  exact eqTms_call h1 h2 hp hq hk hl fun W2 _ _ => ⟨_, rfl, fun W4 _ => ⟨rfl, trivial⟩⟩
theorem polySame_call {W0 W : PW} {M : Nat → Prop} {s t : Sl} {p q : List Tm} {k : Nat} {K : Value → PW → Prop} (h1 : IsPoly 183 45 W s p) (h2 : IsPoly 183 45 W t q) (hp : ∀ t ∈ p, Sz k t.2) (hq : ∀ t ∈ q, Sz k t.2) (hk : k ≤ 34359738368) (hl : p.length ≤ 1099511627776) (kont : ∀  (W' : PW), Ext W W' → (True) → K (.bool (decide (p = q))) W') :
    callN Go.Proofs.Tryz.prog W0 M 37 [.agg ⟨[s.v]⟩, .agg ⟨[t.v]⟩] W K :=
  callN_of (fun W' hE => polySame_ok (M := fun _ => False) (h1.ext hE) (h2.ext hE) hp hq hk hl) (fun W' v W'' hE hE' hP => by
    obtain ⟨rfl, h⟩ := hP
    exact kont  W'' (hE.trans hE') h)
end Go.Proofs.YtbingbjhgoanoaaGreat

/- Exponents up to a bound; products that fit. -/
set_option linter.unusedVariables false
set_option linter.unusedSimpArgs false
namespace Go.Proofs.YtbingbjhgoanoaaGreat
open Go Go.SX
theorem TermsOK.exp {L : List (Mon × ByteArray)} {p : List Tm} {most e : Int} (h : TermsOK L most e) (hp : PParse L p) : ∀ t ∈ p, t.1.x ≤ e ∧ t.1.y ≤ e ∧ t.1.z ≤ e := fun t ht => by
  obtain ⟨u, hu, h1, _⟩ := all2_mem hp.1 ht
  have := (h.2 u hu).2
  rw [h1]
  exact this
/-- Exponents up to e. -/
def PExp (e : Int) (p : List Tm) : Prop := ∀ t ∈ p, t.1.ok ∧ t.1.x ≤ e ∧ t.1.y ≤ e ∧ t.1.z ≤ e
theorem OfOK.exp {L : List (Mon × ByteArray)} {p : List Tm} {e : Int} (h : OfOK L e p) (ho : POk p) : PExp e p := fun t ht => ⟨ho t ht, h.2.exp h.1 t ht⟩
theorem PExp.norm {e : Int} {p : List Tm} (h : PExp e p) : PExp e (pnorm p) := fun t ht => by
  obtain ⟨u, hu, h1⟩ := mem_pnorm ht
  rw [h1]
  exact h u hu
theorem PExp.append {e : Int} {p q : List Tm} (h : PExp e p) (k : PExp e q) : PExp e (p ++ q) := fun t ht => by
  rcases List.mem_append.1 ht with ht | ht
  · exact h t ht
  · exact k t ht
theorem mulOK_of {e f : Int} {p q : List Tm} (h : PExp e p) (k : PExp f q) (hef : e + f ≤ 255) : MulOK p q := fun a ha b hb => by
  have h1 := h a ha
  have h2 := k b hb
  unfold Mon.ok at *
  unfold Mon.add
  dsimp only
  omega
theorem mulP_of {p q : List Tm} (h : MulOK p q) : mulP p q = pnorm (ppairs p q) := by unfold mulP; rw [if_pos h]
theorem sub_self (p : List Tm) : pnorm (p ++ pmap p (-1)) = [] := by
  have h1 : ∀ m, ptot (pmap p (-1)) m = - ptot p m := by
    intro m
    induction p with
    | nil => rfl
    | cons t r ih =>
      have e : pmap (t :: r) (-1) = (t.1, t.2 * -1) :: pmap r (-1) := rfl
      rw [e, ptot, ptot, ih]
      dsimp only
      split <;> grind
  refine (pnorm_congr (b := []) fun m => ?_).trans rfl
  rw [ptot_append, h1]
  simp only [ptot]
  grind
theorem bd_norm_app {k : Nat} {p q : List Tm} (h : Bd k p) (g : Bd k q) : Bd (k + k + 1) (pnorm (p ++ q)) := (h.append g).norm
theorem OfOK.bd' {L : List (Mon × ByteArray)} {exp : Int} {p : List Tm} (h : OfOK L exp p) : Bd 200000 p := h.bd.mono (by omega)
end Go.Proofs.YtbingbjhgoanoaaGreat

/- cincturelaw8.PolyLeibniz. -/
set_option maxRecDepth 100000
set_option linter.unusedVariables false
set_option linter.unusedSimpArgs false
namespace Go.Proofs.YtbingbjhgoanoaaGreat
open Go Go.SX
theorem bookWithin_ok {W0 : PW} {M : Nat → Prop} {n lo hi : Int} (h0 : -1000000 ≤ lo) (h1 : lo ≤ hi) (h2 : hi ≤ 1000000) :
    PCallsM Go.Proofs.Tryz.prog 50 [.int .i64 n, .int .i64 lo, .int .i64 hi] W0 M fun v W' => ∃ (k : Int), v = .int .i64 k ∧ lo ≤ k ∧ k ≤ hi := by
  apply callbook_Within
  have hb : (Int.tmod n (hi - lo + 1)).natAbs < (hi - lo + 1).natAbs := by
    rw [Int.natAbs_tmod]
    exact Nat.mod_lt _ (by omega)
  exact ⟨by unfold I64; omega, by unfold I64; omega, by omega, fun h => ⟨by unfold I64; omega, by unfold I64; omega, by unfold I64; omega, by unfold I64; omega, fun W1 _ => ⟨_, rfl, by omega, by omega⟩⟩, fun h => ⟨by unfold I64; omega, fun W2 _ => ⟨_, rfl, by omega, by omega⟩⟩⟩
theorem bookWithin_call {W0 W : PW} {M : Nat → Prop} {n lo hi : Int} {K : Value → PW → Prop} (h0 : -1000000 ≤ lo) (h1 : lo ≤ hi) (h2 : hi ≤ 1000000) (kont : ∀ (k : Int) (W' : PW), Ext W W' → (lo ≤ k ∧ k ≤ hi) → K (.int .i64 k) W') :
    callN Go.Proofs.Tryz.prog W0 M 50 [.int .i64 n, .int .i64 lo, .int .i64 hi] W K :=
  callN_of (fun W' hE => bookWithin_ok (M := fun _ => False) h0 h1 h2) (fun W' v W'' hE hE' hP => by
    obtain ⟨k, rfl, h⟩ := hP
    exact kont k W'' (hE.trans hE') h)
/-- One exponent more. -/
def incM (m : Mon) (k : Nat) : Mon := if k = 0 then ⟨m.x + 1, m.y, m.z⟩ else if k = 1 then ⟨m.x, m.y + 1, m.z⟩ else ⟨m.x, m.y, m.z + 1⟩
theorem mon_ext_iff {a b : Mon} : a = b ↔ a.x = b.x ∧ a.y = b.y ∧ a.z = b.z := ⟨fun h => by rw [h]; exact ⟨rfl, rfl, rfl⟩, fun h => Mon.ext3 h.1 h.2.1 h.2.2⟩
theorem decM_iff {a m : Mon} {k : Nat} : decM a k = m ↔ a = incM m k := by
  unfold decM incM
  (repeat' split) <;> (rw [mon_ext_iff, mon_ext_iff]; dsimp only; omega)
theorem decM_addl {a b m : Mon} {k : Nat} : (decM a k).add b = m ↔ a.add b = incM m k := by
  unfold decM incM Mon.add
  (repeat' split) <;> (rw [mon_ext_iff, mon_ext_iff]; dsimp only; omega)
theorem decM_addr {a b m : Mon} {k : Nat} : a.add (decM b k) = m ↔ a.add b = incM m k := by
  unfold decM incM Mon.add
  (repeat' split) <;> (rw [mon_ext_iff, mon_ext_iff]; dsimp only; omega)
theorem eget_add (a b : Mon) (k : Nat) : eget (a.add b) k = eget a k + eget b k := by
  unfold eget Mon.add
  (repeat' split) <;> rfl
theorem eget_inc (m : Mon) (k : Nat) : eget (incM m k) k = eget m k + 1 := by
  unfold eget incM
  (repeat' split) <;> rfl
theorem eget_inc_ne (m : Mon) {k i : Nat} (hk : k < 3) (hi : i < 3) (h : i ≠ k) : eget (incM m k) i = eget m i := by
  unfold eget incM
  (repeat' split) <;> first | rfl | omega
theorem incM_comm (m : Mon) (i k : Nat) : incM (incM m i) k = incM (incM m k) i := by
  unfold incM
  (repeat' split) <;> rfl
theorem dlist_cons (t : Tm) (r : List Tm) (k : Nat) : dlist (t :: r) k = dterm k t ++ dlist r k := rfl
theorem ptot_dlist {p : List Tm} (hp : POk p) (k : Nat) (m : Mon) : ptot (dlist p k) m = ptot p (incM m k) * ((eget m k + 1 : Int) : Rat) := by
  induction p with
  | nil => simp [dlist, ptot, Rat.zero_mul]
  | cons t r ih =>
    have e := (eget_ok (hp t (by simp)) k).1
    rw [dlist_cons, ptot_append, ih fun x hx => hp x (by simp [hx]), ptot, Rat.add_mul]
    congr 1
    by_cases h : t.1 = incM m k
    · have h2 : eget t.1 k = eget m k + 1 := by rw [h, eget_inc]
      rw [if_pos h, ← h2]
      unfold dterm
      split
      · rw [ptot, if_pos (decM_iff.2 h), ptot, Rat.add_zero]
      · have : eget t.1 k = 0 := by omega
        rw [this]
        simp [ptot, Rat.mul_zero]
    · rw [if_neg h, Rat.zero_mul]
      unfold dterm
      split
      · rw [ptot, if_neg fun h' => h (decM_iff.1 h'), ptot, Rat.add_zero]
      · rfl
theorem ptot_pairs_nil (p : List Tm) (m : Mon) : ptot (ppairs p []) m = 0 := by
  rw [ptot_ppairs_comm]
  rfl
theorem ptot_pairs_r (p x y : List Tm) (m : Mon) : ptot (ppairs p (x ++ y)) m = ptot (ppairs p x) m + ptot (ppairs p y) m := by
  rw [ptot_ppairs_comm, ppairs_append, ptot_append, ptot_ppairs_comm x, ptot_ppairs_comm y]
theorem ptot_pairs_l (p x y : List Tm) (m : Mon) : ptot (ppairs (x ++ y) p) m = ptot (ppairs x p) m + ptot (ppairs y p) m := by
  rw [ppairs_append, ptot_append]
theorem leib_one (a b : Tm) (ha : a.1.ok) (hb : b.1.ok) (k : Nat) (m : Mon) : ptot (ppairs [a] [b]) (incM m k) * ((eget m k + 1 : Int) : Rat) = ptot (ppairs (dterm k a) [b]) m + ptot (ppairs [a] (dterm k b)) m := by
  have ea := (eget_ok ha k).1
  have eb := (eget_ok hb k).1
  have e0 : ppairs [a] [b] = [(a.1.add b.1, a.2 * b.2)] := rfl
  have e1 : ∀ c : Tm, ppairs [c] [b] = [(c.1.add b.1, c.2 * b.2)] := fun _ => rfl
  have e2 : ∀ c : Tm, ppairs [a] [c] = [(a.1.add c.1, a.2 * c.2)] := fun _ => rfl
  have z1 : ptot (ppairs ([] : List Tm) [b]) m = 0 := rfl
  have z2 : ptot (ppairs [a] ([] : List Tm)) m = 0 := rfl
  rw [e0, ptot]
  dsimp only
  by_cases h : a.1.add b.1 = incM m k
  · have h2 : eget m k + 1 = eget a.1 k + eget b.1 k := by rw [← eget_add, h, eget_inc]
    have p1 := decM_addl.2 h
    have p2 := decM_addr.2 h
    rw [if_pos h, h2]
    unfold dterm
    split <;> split
    · simp only [e1, e2, ptot, if_pos p1, if_pos p2, Rat.intCast_add]
      grind
    · have : eget b.1 k = 0 := by omega
      simp only [e1, z2, ptot, if_pos p1, this, Int.add_zero]
      grind
    · have : eget a.1 k = 0 := by omega
      simp only [z1, e2, ptot, if_pos p2, this, Int.zero_add]
      grind
    · have h3 : eget a.1 k = 0 := by omega
      have h4 : eget b.1 k = 0 := by omega
      simp only [z1, z2, h3, h4, ptot]
      grind
  · rw [if_neg h]
    unfold dterm
    have n1 : ¬ (decM a.1 k).add b.1 = m := fun h' => h (decM_addl.1 h')
    have n2 : ¬ a.1.add (decM b.1 k) = m := fun h' => h (decM_addr.1 h')
    split <;> split <;> simp only [e1, e2, z1, z2, ptot, if_neg n1, if_neg n2] <;> grind
theorem leib_row (a : Tm) (ha : a.1.ok) {q : List Tm} (hq : POk q) (k : Nat) (m : Mon) : ptot (ppairs [a] q) (incM m k) * ((eget m k + 1 : Int) : Rat) = ptot (ppairs (dterm k a) q) m + ptot (ppairs [a] (dlist q k)) m := by
  induction q with
  | nil => rw [ptot_pairs_nil, ptot_pairs_nil, show dlist [] k = [] from rfl, ptot_pairs_nil, Rat.zero_mul, Rat.add_zero]
  | cons b r ih =>
    have h1 := leib_one a b ha (hq b (by simp)) k m
    have h2 := ih fun x hx => hq x (by simp [hx])
    have e : b :: r = [b] ++ r := rfl
    rw [dlist_cons, ptot_pairs_r, e, ptot_pairs_r, ptot_pairs_r, Rat.add_mul, h1, h2]
    grind
theorem leib_tot {p q : List Tm} (hp : POk p) (hq : POk q) (k : Nat) (m : Mon) : ptot (ppairs p q) (incM m k) * ((eget m k + 1 : Int) : Rat) = ptot (ppairs (dlist p k) q) m + ptot (ppairs p (dlist q k)) m := by
  induction p with
  | nil => simp [ppairs, dlist, ptot, Rat.zero_mul, Rat.add_zero]
  | cons a r ih =>
    have h1 := leib_row a (hp a (by simp)) hq k m
    have h2 := ih fun x hx => hp x (by simp [hx])
    have e : a :: r = [a] ++ r := rfl
    rw [dlist_cons, ptot_pairs_l, e, ptot_pairs_l, ptot_pairs_l, Rat.add_mul, h1, h2]
    grind
theorem diffP_in {p : List Tm} {i : Int} (h : 0 ≤ i ∧ i ≤ 2) : diffP p i = pnorm (dlist p i.toNat) := by
  unfold diffP
  rw [if_pos (by omega)]
theorem leib {p q : List Tm} {i : Int} (h : 0 ≤ i ∧ i ≤ 2) (hp : POk p) (hq : POk q) (hm : POk (pnorm (ppairs p q))) : diffP (pnorm (ppairs p q)) i = pnorm (pnorm (ppairs (diffP p i) q) ++ pnorm (ppairs p (diffP q i))) := by
  rw [diffP_in h, diffP_in h, diffP_in h]
  refine pnorm_congr fun m => ?_
  rw [ptot_dlist hm, ptot_pnorm, leib_tot hp hq, ptot_append, ptot_pnorm, ptot_pnorm, ptot_pairs_norm, ptot_ppairs_comm p (pnorm _), ptot_pairs_norm, ptot_ppairs_comm p]
theorem diff_swap {p : List Tm} {i k : Int} (h : 0 ≤ i ∧ i ≤ 2) (h' : 0 ≤ k ∧ k ≤ 2) (hp : POk p) (h1 : POk (diffP p i)) (h2 : POk (diffP p k)) : diffP (diffP p i) k = diffP (diffP p k) i := by
  rw [diffP_in h', diffP_in (p := diffP p k) h]
  refine pnorm_congr fun m => ?_
  rw [ptot_dlist h1, ptot_dlist h2, diffP_in h, diffP_in h', ptot_pnorm, ptot_pnorm, ptot_dlist hp, ptot_dlist hp, incM_comm]
  by_cases e : i.toNat = k.toNat
  · rw [e]
  · rw [eget_inc_ne m (by omega) (by omega) e, eget_inc_ne m (by omega) (by omega) fun h => e h.symm]
    grind
theorem PExp.diff {e : Int} {p : List Tm} (h : PExp e p) {i : Int} (hi : 0 ≤ i ∧ i ≤ 2) : PExp e (diffP p i) := by
  rw [diffP_in hi]
  refine PExp.norm fun t ht => ?_
  obtain ⟨u, hu, hm⟩ := List.mem_flatMap.1 ht
  have hu := h u hu
  unfold dterm at hm
  split at hm
  · rename_i hp
    simp only [List.mem_singleton] at hm
    subst hm
    refine ⟨decM_ok hu.1 (by omega) hp, ?_⟩
    unfold decM
    (repeat' split) <;> (dsimp only; omega)
  · simp at hm
theorem polyLeibniz_ok {W0 : PW} {M : Nat → Prop} {s t : Sl} {L L2 : List (Mon × ByteArray)} {i k : Int} (h1 : IsAPoly W0 s L) (h2 : IsAPoly W0 t L2) (l1 : L.length ≤ 1099511627776) (z1 : ∀ t ∈ L, t.2.size ≤ 1099511627776) (l2 : L2.length ≤ 1099511627776) (z2 : ∀ t ∈ L2, t.2.size ≤ 1099511627776) :
    PCallsM Go.Proofs.Tryz.prog 12 [s.v, t.v, .int .i64 i, .int .i64 k] W0 M fun v W' => v = .bool true ∧ True := by
  apply calllaw8_PolyLeibniz
  have alv : ∀ W, callN Go.Proofs.Tryz.prog W0 M 15 [] W fun v11 W12 => ∃ b13 : Bool, v11 = .bool b13 ∧ ∀ (W14 : PW), Ext W12 W14 → Value.bool b13 = .bool true ∧ True := fun W => law8alive_call fun W12 _ _ => ⟨true, rfl, fun W14 _ => ⟨rfl, trivial⟩⟩
  refine law8Of_call h1 l1 z1 fun s3 s4 b5 W2 hE2 g1 => ⟨s3, s4, b5, rfl, law8Of_call (h2.ext hE2) l2 z2 fun s8 s9 b10 W7 hE7 g2 => ⟨s8, s9, b10, rfl, fun _ => alv _, fun hb5 => ⟨fun _ => alv _, fun hb10 => law8alive_call fun W20 hE20 _ => ⟨true, rfl, fun e => (by cases e), fun _ => ?_⟩⟩⟩⟩
  obtain ⟨p, op, p1, _⟩ := g1 (by simpa using hb5)
  obtain ⟨q, oq, q1, _⟩ := g2 (by simpa using hb10)
  refine bookWithin_call (by omega) (by omega) (by omega) fun i28 W27 hE27 hi => ⟨i28, rfl, bookWithin_call (by omega) (by omega) (by omega) fun i31 W30 hE30 hk => ⟨i31, rfl, ?_⟩⟩
  have nx : ∀ {W W' : PW}, (IsPoly 183 45 W s3 p ∧ IsPoly 183 45 W s8 q) → Ext W W' → IsPoly 183 45 W' s3 p ∧ IsPoly 183 45 W' s8 q := fun h hE => ⟨h.1.ext hE, h.2.ext hE⟩
  have H := nx (nx ⟨p1.ext hE7, q1⟩ hE20) (hE27.trans hE30)
  have lp := op.len
  have lq := oq.len
  have ep := op.exp p1.ok
  have eq := oq.exp q1.ok
  have okM : MulOK p q := mulOK_of ep eq (by omega)
  have okX : MulOK (diffP p i28) q := mulOK_of (ep.diff hi) eq (by omega)
  have okY : MulOK p (diffP q i28) := mulOK_of ep (eq.diff hi) (by omega)
  have lpi := diffP_len p i28
  have lqi := diffP_len q i28
  have bp := op.bd
  have bq := oq.bd
  have bpi := diffP_bd bp p1.ok i28
  have bqi := diffP_bd bq q1.ok i28
  have bp1 := bp.mono (show 56029 ≤ 56030 by omega)
  have bq1 := bq.mono (show 56029 ≤ 56030 by omega)
  refine polyMul_call H.1 H.2 bp bq (by omega) (by omega) (by omega) (by have := Nat.mul_le_mul lp lq; omega) fun s34 W33 hE33 h33 => ⟨s34, _, rfl, ?_⟩
  have H := nx H hE33
  refine polyDiff_call H.1 bp (by omega) (by omega) fun s38 W37 hE37 h37 => ⟨s38, rfl, ?_⟩
  have H := nx H hE37
  refine polyMul_call h37 H.2 bpi bq1 (by omega) (by omega) (by omega) (by have := Nat.mul_le_mul (Nat.le_trans lpi lp) lq; omega) fun s41 W40 hE40 h40 => ⟨s41, _, rfl, ?_⟩
  have H := nx H hE40
  refine polyDiff_call H.2 bq (by omega) (by omega) fun s45 W44 hE44 h44 => ⟨s45, rfl, ?_⟩
  have H := nx H hE44
  refine polyMul_call H.1 h44 bp1 bqi (by omega) (by omega) (by omega) (by have := Nat.mul_le_mul lp (Nat.le_trans lqi lq); omega) fun s48 W47 hE47 h47 => ⟨s48, _, rfl, ?_⟩
  have H := nx H hE47
  rw [mulP_of okM] at h33
  rw [mulP_of okX] at h40
  rw [mulP_of okY] at h47
  have h33 := h33.ext (hE37.trans (hE40.trans (hE44.trans hE47)))
  have h40 := h40.ext (hE44.trans hE47)
  have lM : (pnorm (ppairs p q)).length ≤ 196 := by have := pnorm_len (ppairs p q); rw [ppairs_len] at this; have := Nat.mul_le_mul lp lq; omega
  have lX : (pnorm (ppairs (diffP p i28) q)).length ≤ 196 := by have := pnorm_len (ppairs (diffP p i28) q); rw [ppairs_len] at this; have := Nat.mul_le_mul (Nat.le_trans lpi lp) lq; omega
  have lY : (pnorm (ppairs p (diffP q i28))).length ≤ 196 := by have := pnorm_len (ppairs p (diffP q i28)); rw [ppairs_len] at this; have := Nat.mul_le_mul lp (Nat.le_trans lqi lq); omega
  have bM := (bp.pairs bq).norm
  have bX := (bpi.pairs bq).norm
  have bY := ((bp.pairs bqi).norm).mono (show 56029 + (56029 + 1) ≤ 56029 + 1 + 56029 by omega)
  refine ⟨fun _ => ⟨fun _ => ⟨fun _ => ?_, fun e => ?_⟩, fun e => ?_⟩, fun e => ?_⟩
  · refine polyDiff_call h33 bM (by omega) (by omega) fun s52 W51 hE51 h51 => ⟨s52, rfl, ?_⟩
    refine polyAdd_call (h40.ext hE51) (h47.ext hE51) bX bY (by omega) (by omega) (by omega) fun s55 W54 hE54 h54 => ⟨s55, rfl, ?_⟩
    have H := nx (nx H hE51) hE54
    have b1 := diffP_bd bM h33.ok i28
    have b2 := (bX.append bY).norm
    have l1 := diffP_len (pnorm (ppairs p q)) i28
    refine polySame_call (h51.ext hE54) h54 (k := 1000000) (fun t ht => (b1.sz t ht).mono (by omega)) (fun t ht => (b2.sz t ht).mono (by omega)) (by omega) (by omega) fun W57 hE57 _ => ⟨_, rfl, fun _ => ?_, fun e => ?_⟩
    · have H := nx H hE57
      refine polyDiff_call H.1 bp (by omega) (by omega) fun s61 W60 hE60 h60 => ⟨s61, rfl, ?_⟩
      have H := nx H hE60
      refine polyDiff_call h60 bpi (by omega) (by omega) fun s64 W63 hE63 h63 => ⟨s64, rfl, ?_⟩
      have H := nx H hE63
      have lpk := diffP_len p i31
      refine polyDiff_call H.1 bp (by omega) (by omega) fun s67 W66 hE66 h66 => ⟨s67, rfl, ?_⟩
      have bpk := diffP_bd bp p1.ok i31
      refine polyDiff_call h66 bpk (by omega) (by omega) fun s70 W69 hE69 h69 => ⟨s70, rfl, ?_⟩
      have c1 := diffP_bd bpi h60.ok i31
      have c2 := diffP_bd bpk h66.ok i28
      have l2 := diffP_len (diffP p i28) i31
      refine polySame_call (h63.ext (hE66.trans hE69)) h69 c1.sz c2.sz (by omega) (by omega) fun W72 hE72 _ => ⟨_, rfl, fun W74 _ => ⟨?_, trivial⟩⟩
      rw [decide_eq_true (diff_swap hi hk p1.ok h60.ok h66.ok)]
    · rw [decide_eq_true (leib hi p1.ok q1.ok h33.ok)] at e
      cases e
  · rw [decide_eq_true okY] at e; cases e
  · rw [decide_eq_true okX] at e; cases e
  · rw [decide_eq_true okM] at e; cases e
theorem polyLeibniz_call {W0 W : PW} {M : Nat → Prop} {s t : Sl} {L L2 : List (Mon × ByteArray)} {i k : Int} {K : Value → PW → Prop} (h1 : IsAPoly W s L) (h2 : IsAPoly W t L2) (l1 : L.length ≤ 1099511627776) (z1 : ∀ t ∈ L, t.2.size ≤ 1099511627776) (l2 : L2.length ≤ 1099511627776) (z2 : ∀ t ∈ L2, t.2.size ≤ 1099511627776) (kont : ∀  (W' : PW), Ext W W' → (True) → K (.bool true) W') :
    callN Go.Proofs.Tryz.prog W0 M 12 [s.v, t.v, .int .i64 i, .int .i64 k] W K :=
  callN_of (fun W' hE => polyLeibniz_ok (M := fun _ => False) (h1.ext hE) (h2.ext hE) l1 z1 l2 z2) (fun W' v W'' hE hE' hP => by
    obtain ⟨rfl, h⟩ := hP
    exact kont  W'' (hE.trans hE') h)
end Go.Proofs.YtbingbjhgoanoaaGreat
