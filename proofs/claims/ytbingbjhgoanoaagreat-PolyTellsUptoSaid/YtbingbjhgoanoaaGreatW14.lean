/- poly.Diff, cinctureref1.Diff; cincturelaw8.PolyDiffs. -/
import Derived.Test.YtbingbjhgoanoaaGreatW13
import Derived.Test.YtbingbjhgoanoaaGreatR15
import Derived.Test.YtbingbjhgoanoaaGreatW3
import Derived.Test.YtbingbjhgoanoaaGreatW10
import Derived.Test.YtbingbjhgoanoaaGreatW12
import Derived.Test.YtbingbjhgoanoaaGreatR17
import Derived.Test.YtbingbjhgoanoaaGreatLib4
set_option linter.unusedVariables false
set_option linter.unusedSimpArgs false
set_option maxRecDepth 100000
set_option linter.unusedVariables false
set_option linter.unusedSimpArgs false
namespace Go.Proofs.YtbingbjhgoanoaaGreat
open Go Go.SX
/-- One exponent less. -/
def decM (m : Mon) (k : Nat) : Mon := if k = 0 then ⟨m.x - 1, m.y, m.z⟩ else if k = 1 then ⟨m.x, m.y - 1, m.z⟩ else ⟨m.x, m.y, m.z - 1⟩
/-- What a term's derivative is. -/
def dterm (k : Nat) (t : Tm) : List Tm := if 0 < eget t.1 k then [(decM t.1 k, t.2 * ((eget t.1 k : Int) : Rat))] else []
def dlist (p : List Tm) (k : Nat) : List Tm := p.flatMap (dterm k)
def diffP (p : List Tm) (i : Int) : List Tm := if 0 ≤ i ∧ i < 3 then pnorm (dlist p i.toNat) else []
theorem dlist_snoc {p : List Tm} {j : Nat} (hj : j < p.length) (k : Nat) : dlist (p.take (j + 1)) k = dlist (p.take j) k ++ dterm k p[j] := by
  rw [take_snocR hj]
  unfold dlist
  rw [List.flatMap_append]
  rw [show List.flatMap (dterm k) [p[j]] = dterm k p[j] from by simp [List.flatMap]]
theorem dterm_len (k : Nat) (t : Tm) : (dterm k t).length ≤ 1 := by
  unfold dterm
  split <;> simp
theorem dlist_len (p : List Tm) (k : Nat) : (dlist p k).length ≤ p.length := by
  induction p with
  | nil => simp [dlist]
  | cons t r ih =>
    have e : dlist (t :: r) k = dterm k t ++ dlist r k := rfl
    have := dterm_len k t
    rw [e]
    simp only [List.length_append, List.length_cons]
    omega
theorem decM_ok {m : Mon} {k : Nat} (h : m.ok) (hk : k < 3) (hp : 0 < eget m k) : (decM m k).ok := by
  unfold Mon.ok at h
  unfold eget at hp
  unfold decM
  rcases (by omega : k = 0 ∨ k = 1 ∨ k = 2) with rfl | rfl | rfl
  · simp at hp; exact ⟨⟨by show 0 ≤ m.x - 1; omega, by show m.x - 1 ≤ 255; omega⟩, h.2.1, h.2.2⟩
  · simp at hp; exact ⟨h.1, ⟨by show 0 ≤ m.y - 1; omega, by show m.y - 1 ≤ 255; omega⟩, h.2.2⟩
  · simp at hp; exact ⟨h.1, h.2.1, by show 0 ≤ m.z - 1; omega, by show m.z - 1 ≤ 255; omega⟩
theorem dlist_bd {l : Nat} {p : List Tm} (h : Bd l p) (ho : POk p) (k : Nat) : Bd (l + 1) (dlist p k) := by
  obtain ⟨D, N, h1, h2, h3, h4⟩ := h
  have key : ∀ {p : List Tm} {N : Nat}, Fit D N p → POk p → Fit D (N * 255) (dlist p k) := by
    intro p
    induction p with
    | nil => intro N _ _; trivial
    | cons t r ih =>
      rintro N ⟨a, b, g1, g2, g3⟩ ho
      have e : dlist (t :: r) k = dterm k t ++ dlist r k := rfl
      rw [e]
      have hr := ih g3 fun x hx => ho x (by simp [hx])
      have ht : Fit D (a * 255) (dterm k t) := by
        unfold dterm
        split
        · have hk := eget_ok (ho t (by simp)) k
          have h5 : FitQ 1 255 ((eget t.1 k : Int) : Rat) := (FitQ.int (eget t.1 k)).mono (by omega)
          have h6 := g2.mul h5
          rw [Nat.mul_one] at h6
          exact ⟨a * 255, 0, by omega, h6, trivial⟩
        · trivial
      have := ht.append hr
      rw [← Nat.add_mul] at this
      exact this.mono (Nat.mul_le_mul_right _ g1)
  have h5 := nl_mul N 255
  have h6 : nl 255 ≤ 1 := nl_le (by decide)
  exact ⟨D, N * 255, key h1 ho, h2, by omega, by omega⟩
theorem boxAt6 (m : Mon) {k : Nat} (hk : k < 3) (r : List Value) : BoxAt (.int .u8 m.x :: .int .u8 m.y :: .int .u8 m.z :: r) (0 + Int.toNat (k : Int) * 1 + 0) [.int .u8 (eget m k)] := by
  rcases (by omega : k = 0 ∨ k = 1 ∨ k = 2) with rfl | rfl | rfl <;> exact ⟨by simp, rfl⟩
theorem polyDiff_ok {W0 : PW} {M : Nat → Prop} {s : Sl} {p : List Tm} {i : Int} {l : Nat} (h : IsPoly 183 45 W0 s p) (hB : Bd l p) (hl : l ≤ 268435456) (hp : p.length ≤ 1073741824) :
    PCallsM Go.Proofs.Tryz.prog 26 [.agg ⟨[s.v]⟩, .int .i64 i] W0 M fun v W' => ∃ (s' : Sl), v = .agg ⟨[Sl.v s']⟩ ∧ IsPoly 183 45 W' s' (diffP p i) := by
  apply callpoly_Diff
  have hn := h.n
  refine ⟨fun h0 W1 _ => ⟨⟨none, 0, 0⟩, rfl, ?_⟩, fun h0 => ⟨fun h3 W2 _ => ⟨⟨none, 0, 0⟩, rfl, ?_⟩, fun h3 => ?_⟩⟩
  · unfold diffP; rw [if_neg (by omega)]; exact IsPoly.nil W1
  · unfold diffP; rw [if_neg (by omega)]; exact IsPoly.nil W2
  obtain ⟨k, rfl⟩ := Int.eq_ofNat_of_zero_le (by omega : 0 ≤ i)
  have hk3 : k < 3 := by omega
  have hkr : (0 : Int) ≤ (k : Int) ∧ (k : Int) < 3 := ⟨by omega, by omega⟩
  refine ⟨fun L W => match L with
    | [.row xs, .val (.int .i64 i)] => ∃ j : Nat, i = (j : Int) ∧ j ≤ p.length ∧ Ext W0 W ∧ All2 (PT 183 W) xs (dlist (p.take j) k)
    | _ => False, cnL p.length, ⟨0, rfl, by omega, Ext.refl _, trivial⟩, ?_⟩
  rintro l5 i6 W7 ⟨j, rfl, hj, hE7, ha⟩
  have hal := ha.len
  have hdl := dlist_len (p.take j) k
  rw [List.length_take] at hdl
  refine ⟨fun hlt => ?_, fun hge s46 W47 hE47 hO _ => ?_⟩
  · have hjl : j < p.length := by omega
    have hP := h.ext hE7
    obtain ⟨h0', s1, b1, s2, e1, _, _, hr⟩ := hP.at (List.getElem?_eq_getElem hjl)
    have hek := eget_ok h0' k
    have hmu : p.length - Int.toNat ((j : Int) + 1) < p.length - Int.toNat (j : Int) := by omega
    have hbx := boxAt6 p[j].1 hk3 [s1.v, .bool b1, s2.v]
    have hw : IntKind.wrap .u8 (eget p[j].1 k - 1) = eget p[j].1 k - 1 ∨ ¬ 0 < eget p[j].1 k := by
      by_cases h : 0 < eget p[j].1 k
      · exact .inl (wrap8 (by omega) (by omega))
      · exact .inr h
    refine ⟨hP.inB (by omega) (by omega), _, _, _, s1, b1, s2, e1, hkr, _, hbx, fun hpos => ⟨hkr, _, hbx, hkr, by omega, ⟨⟨trivial, fun e => ?_⟩, fun e => ?_⟩, fun e => ?_⟩, fun hz => ⟨by unfold I64; omega, ⟨j + 1, by push_cast; rfl, by omega, hE7, ?_⟩, hmu⟩⟩
    case refine_4 =>
      rw [dlist_snoc hjl]
      unfold dterm
      rw [if_neg hz, List.append_nil]
      exact ha
    all_goals
      have hw' : IntKind.wrap .u8 (eget p[j].1 k - 1) = eget p[j].1 k - 1 := hw.resolve_right (fun h => h hpos)
      have hok := decM_ok h0' hk3 hpos
      have hdt : dterm k p[j] = [(decM p[j].1 k, p[j].2 * ((eget p[j].1 k : Int) : Rat))] := by unfold dterm; rw [if_pos hpos]
      have e' : k = _ := e
      subst e'
      refine ⟨by unfold I64; omega, ratOf_call (z := eget p[j].1 _) (by unfold I64; omega) fun s18 b19 s20 W17 hE17 h17 => ⟨s18, b19, s20, rfl, ratMul_call (hr.ext hE17) h17 (hB.sz _ (List.getElem_mem hjl)) ((FitQ.int _).sz (by decide) (k := l + 1) (by rw [nl_one]; omega) (Nat.le_trans (nl_mono (by omega : _ ≤ 255)) (Nat.le_trans (nl_le (by decide : 255 < B ^ 1)) (by omega)))) (by omega) (by omega) fun s23 b24 s25 W22 hE22 h22 => ⟨s23, b24, s25, rfl, by simp; omega, by unfold I64; omega, ⟨j + 1, by push_cast; rfl, by omega, hE7.trans (hE17.trans hE22), ?_⟩, hmu⟩⟩⟩
      rw [dlist_snoc hjl, hdt]
      refine (ha.mono fun _ _ h => h.ext (hE17.trans hE22)).snoc ⟨hok, s23, b24, s25, ?_, h22⟩
      rw [hw']
      rfl
  · have : j = p.length := by omega
    subst this
    rw [List.take_length] at ha
    have hdl := dlist_len p k
    refine polyNew_call (isPoly_of hO.row (ha.mono fun _ _ h => h.ext hE47)) (dlist_bd hB h.ok k) (by omega) (by omega) fun s' W49 hE49 hp' => ⟨s', rfl, fun W51 hE51 => ⟨s', rfl, ?_⟩⟩
    unfold diffP
    rw [if_pos hkr]
    exact hp'.ext hE51
theorem polyDiff_call {W0 W : PW} {M : Nat → Prop} {s : Sl} {p : List Tm} {i : Int} {l : Nat} {K : Value → PW → Prop} (h : IsPoly 183 45 W s p) (hB : Bd l p) (hl : l ≤ 268435456) (hp : p.length ≤ 1073741824) (kont : ∀ (s' : Sl) (W' : PW), Ext W W' → (IsPoly 183 45 W' s' (diffP p i)) → K (.agg ⟨[Sl.v s']⟩) W') :
    callN Go.Proofs.Tryz.prog W0 M 26 [.agg ⟨[s.v]⟩, .int .i64 i] W K :=
  callN_of (fun W' hE => polyDiff_ok (M := fun _ => False) (h.ext hE) hB hl hp) (fun W' v W'' hE hE' hP => by
    obtain ⟨s', rfl, h⟩ := hP
    exact kont s' W'' (hE.trans hE') h)
theorem refDiff_ok {W0 : PW} {M : Nat → Prop} {s : Sl} {p : List Tm} {i : Int} {l : Nat} (h : IsRPoly 183 47 W0 s p) (hB : Bd l p) (hl : l ≤ 50000000) (hp : p.length ≤ 1073741824) :
    PCallsM Go.Proofs.Tryz.prog 27 [s.v, .int .i64 i] W0 M fun v W' => ∃ (s' : Sl), v = Sl.v s' ∧ IsRPoly 183 47 W' s' (diffP p i) := by
  apply callref1_Diff
  have hn := h.n
  refine ⟨fun h0 W1 _ => ⟨⟨none, 0, 0⟩, rfl, ?_⟩, fun h0 => ⟨fun h3 W2 _ => ⟨⟨none, 0, 0⟩, rfl, ?_⟩, fun h3 => ?_⟩⟩
  · unfold diffP; rw [if_neg (by omega)]; exact IsRPoly.nil W1
  · unfold diffP; rw [if_neg (by omega)]; exact IsRPoly.nil W2
  obtain ⟨k, rfl⟩ := Int.eq_ofNat_of_zero_le (by omega : 0 ≤ i)
  have hk3 : k < 3 := by omega
  have hkr : (0 : Int) ≤ (k : Int) ∧ (k : Int) < 3 := ⟨by omega, by omega⟩
  refine ⟨fun L W => match L with
    | [.val (.slice A n c), .val (.int .i64 i)] => ∃ j : Nat, i = (j : Int) ∧ j ≤ p.length ∧ Ext W0 W ∧ IsRPoly 183 47 W ⟨A, n, c⟩ (pnorm (dlist (p.take j) k))
    | _ => False, cnL p.length, ⟨0, rfl, by omega, Ext.refl _, IsRPoly.nil W0⟩, ?_⟩
  rintro s5 i6 W7 ⟨j, rfl, hj, hE7, hr⟩
  have hr : IsRPoly 183 47 W7 s5 (pnorm (dlist (p.take j) k)) := hr
  have hdl := dlist_len (p.take j) k
  rw [List.length_take] at hdl
  have hpl := pnorm_len (dlist (p.take j) k)
  refine ⟨fun hlt => ?_, fun hge W62 hE62 => ⟨s5, rfl, ?_⟩⟩
  · have hjl : j < p.length := by omega
    have hP := h.ext hE7
    have hib := hP.inB (i := (j : Int)) (by omega) (by omega)
    obtain ⟨h0', b1, s1, s2, _, e2, e3, hq⟩ := hP.at (List.getElem?_eq_getElem hjl)
    have hek := eget_ok h0' k
    have hmu : p.length - Int.toNat ((j : Int) + 1) < p.length - Int.toNat (j : Int) := by omega
    have hbx := boxAt6 p[j].1 hk3 []
    refine ⟨hib, _, _, _, e2, hkr, _, hbx, fun hpos => ⟨hkr, _, hbx, by unfold I64; omega, hkr, _, hbx, hkr, by omega, ⟨⟨trivial, fun e => ?_⟩, fun e => ?_⟩, fun e => ?_⟩, fun hz => ⟨by unfold I64; omega, ⟨j + 1, by push_cast; rfl, by omega, hE7, ?_⟩, hmu⟩⟩
    case refine_4 =>
      rw [dlist_snoc hjl]
      unfold dterm
      rw [if_neg hz, List.append_nil]
      exact hr
    all_goals
      have hw' : IntKind.wrap .u8 (eget p[j].1 k - 1) = eget p[j].1 k - 1 := wrap8 (by omega) (by omega)
      have hok := decM_ok h0' hk3 hpos
      have hdt : dterm k p[j] = [(decM p[j].1 k, p[j].2 * ((eget p[j].1 k : Int) : Rat))] := by unfold dterm; rw [if_pos hpos]
      have hbd := dlist_bd (hB.take (j + 1)) (fun t ht => h.ok t (List.mem_of_mem_take ht)) k
      rw [dlist_snoc hjl, hdt] at hbd
      have hsz : Sz (l + 1) ((eget p[j].1 k : Int) : Rat) := (FitQ.int _).sz (by decide) (by rw [nl_one]; omega) (Nat.le_trans (nl_mono (by omega : _ ≤ 255)) (Nat.le_trans (nl_le (by decide : 255 < B ^ 1)) (by omega)))
      refine ⟨hib, b1, s1, s2, e3, ?_⟩
      refine refRatOf_call (z := eget p[j].1 k) (by unfold I64; omega) fun b19 s20 s21 W18 hE18 h18 => ⟨b19, s20, s21, rfl, hE18, ?_⟩
      refine refQMul_call (hq.ext hE18) h18 (hB.sz _ (List.getElem_mem hjl)) hsz (by omega) (by omega) fun b24 s25 s26 W23 hE23 h23 => ⟨b24, s25, s26, rfl, ?_⟩
      rw [hw']
      have hs2 := hbd.right.sz (decM p[j].1 k, p[j].2 * ((eget p[j].1 k : Int) : Rat)) (by simp)
      have fin : ∀ s29 W28, Ext W23 W28 → IsRPoly 183 47 W28 s29 (pput (pnorm (dlist (p.take j) k)) (decM p[j].1 k, p[j].2 * ((eget p[j].1 k : Int) : Rat))) → ∃ j' : Nat, (j : Int) + 1 = (j' : Int) ∧ j' ≤ p.length ∧ Ext W0 W28 ∧ IsRPoly 183 47 W28 s29 (pnorm (dlist (p.take j') k)) := fun s29 W28 hE28 h28 => ⟨j + 1, by push_cast; rfl, by omega, hE7.trans ((hE18.trans hE23).trans hE28), by rw [dlist_snoc hjl, hdt, pnorm_snoc]; exact h28⟩
    · have e' : k = 0 := e
      subst e'
      have hd : decM p[j].1 0 = ⟨p[j].1.x - 1, p[j].1.y, p[j].1.z⟩ := rfl
      have he : eget p[j].1 0 = p[j].1.x := rfl
      rw [hd] at hok hs2 fin
      rw [he] at hs2 fin h23 ⊢
      rw [he] at hbd
      exact refPut_call (m := ⟨p[j].1.x - 1, p[j].1.y, p[j].1.z⟩) (hr.ext (hE18.trans hE23)) h23 hok hbd.left.norm.sz hs2 (by omega) (by omega) fun s29 W28 hE28 h28 => ⟨s29, rfl, by unfold I64; omega, fin s29 W28 hE28 h28, hmu⟩
    · have e' : k = 1 := e
      subst e'
      have hd : decM p[j].1 1 = ⟨p[j].1.x, p[j].1.y - 1, p[j].1.z⟩ := rfl
      have he : eget p[j].1 1 = p[j].1.y := rfl
      rw [hd] at hok hs2 fin
      rw [he] at hs2 fin h23 ⊢
      rw [he] at hbd
      exact refPut_call (m := ⟨p[j].1.x, p[j].1.y - 1, p[j].1.z⟩) (hr.ext (hE18.trans hE23)) h23 hok hbd.left.norm.sz hs2 (by omega) (by omega) fun s29 W28 hE28 h28 => ⟨s29, rfl, by unfold I64; omega, fin s29 W28 hE28 h28, hmu⟩
    · have e' : k = 2 := e
      subst e'
      have hd : decM p[j].1 2 = ⟨p[j].1.x, p[j].1.y, p[j].1.z - 1⟩ := rfl
      have he : eget p[j].1 2 = p[j].1.z := rfl
      rw [hd] at hok hs2 fin
      rw [he] at hs2 fin h23 ⊢
      rw [he] at hbd
      exact refPut_call (m := ⟨p[j].1.x, p[j].1.y, p[j].1.z - 1⟩) (hr.ext (hE18.trans hE23)) h23 hok hbd.left.norm.sz hs2 (by omega) (by omega) fun s29 W28 hE28 h28 => ⟨s29, rfl, by unfold I64; omega, fin s29 W28 hE28 h28, hmu⟩
  · have : j = p.length := by omega
    subst this
    rw [List.take_length] at hr
    unfold diffP
    rw [if_pos hkr]
    exact hr.ext hE62
theorem refDiff_call {W0 W : PW} {M : Nat → Prop} {s : Sl} {p : List Tm} {i : Int} {l : Nat} {K : Value → PW → Prop} (h : IsRPoly 183 47 W s p) (hB : Bd l p) (hl : l ≤ 50000000) (hp : p.length ≤ 1073741824) (kont : ∀ (s' : Sl) (W' : PW), Ext W W' → (IsRPoly 183 47 W' s' (diffP p i)) → K (Sl.v s') W') :
    callN Go.Proofs.Tryz.prog W0 M 27 [s.v, .int .i64 i] W K :=
  callN_of (fun W' hE => refDiff_ok (M := fun _ => False) (h.ext hE) hB hl hp) (fun W' v W'' hE hE' hP => by
    obtain ⟨s', rfl, h⟩ := hP
    exact kont s' W'' (hE.trans hE') h)
theorem diffP_bd {l : Nat} {p : List Tm} (h : Bd l p) (ho : POk p) (i : Int) : Bd (l + 1) (diffP p i) := by
  unfold diffP
  split
  · exact (dlist_bd h ho _).norm
  · obtain ⟨D, N, h1, h2, h3, h4⟩ := h
    exact ⟨1, 0, trivial, by decide, by rw [nl_one]; omega, by rw [nl_zero]; omega⟩
theorem diffP_len (p : List Tm) (i : Int) : (diffP p i).length ≤ p.length := by
  unfold diffP
  split
  · exact Nat.le_trans (pnorm_len _) (dlist_len p _)
  · simp
theorem IsPoly.pok {W : PW} {s : Sl} {p : List Tm} (h : IsPoly 183 45 W s p) : POk p := h.ok
/-- One comparison of derivatives. -/
theorem diffIs {W0 W : PW} {M : Nat → Prop} {s t : Sl} {p : List Tm} {i : Int} {l : Nat} (h1 : IsPoly 183 45 W s p) (h2 : IsRPoly 183 47 W t p) (hB : Bd l p) (hl : l ≤ 50000000) (hp : p.length ≤ 1073741824) {K : Bool → PW → Prop} (kont : ∀ W', Ext W W' → K true W') :
    callN Go.Proofs.Tryz.prog W0 M 26 [.agg ⟨[s.v]⟩, .int .i64 i] W fun v17 W18 => ∃ s19 : Sl, v17 = .agg ⟨[s19.v]⟩ ∧ callN Go.Proofs.Tryz.prog W0 M 27 [t.v, .int .i64 i] W18 fun v20 W21 => ∃ s22 : Sl, v20 = s22.v ∧ callN Go.Proofs.Tryz.prog W0 M 17 [.agg ⟨[s19.v]⟩, s22.v] W21 fun v23 W24 => ∃ b25 : Bool, v23 = .bool b25 ∧ K b25 W24 := by
  have hlen := diffP_len p i
  exact polyDiff_call h1 hB (by omega) hp fun s19 W18 hE18 h18 => ⟨s19, rfl, refDiff_call (h2.ext hE18) hB hl hp fun s22 W21 hE21 h21 => ⟨s22, rfl, law8Is_call (h18.ext hE21) h21 (diffP_bd hB h1.ok i).sz (by omega) (by omega) fun W24 hE24 _ => ⟨true, rfl, kont W24 (hE18.trans (hE21.trans hE24))⟩⟩⟩
theorem polyDiffs_ok {W0 : PW} {M : Nat → Prop} {s : Sl} {L : List (Mon × ByteArray)} {i : Int} (h1 : IsAPoly W0 s L) (l1 : L.length ≤ 1099511627776) (z1 : ∀ t ∈ L, t.2.size ≤ 1099511627776) :
    PCallsM Go.Proofs.Tryz.prog 6 [s.v, .int .i64 i] W0 M fun v W' => v = .bool true ∧ True := by
  apply calllaw8_PolyDiffs
  refine law8Of_call h1 l1 z1 fun s3 s4 b5 W2 hE2 g1 => ⟨s3, s4, b5, rfl, fun _ => law8alive_call fun W7 _ _ => ⟨true, rfl, fun W9 _ => ⟨rfl, trivial⟩⟩, fun hb5 => law8alive_call fun W11 hE11 _ => ⟨true, rfl, fun e => (by cases e), fun _ => ?_⟩⟩
  obtain ⟨p, op, p1, p2⟩ := g1 (by simpa using hb5)
  have lp := op.len
  refine diffIs (p1.ext hE11) (p2.ext hE11) op.bd (by omega) (by omega) fun W24 hE24 => ⟨fun _ => ?_, fun e => (by cases e)⟩
  refine diffIs (p1.ext (hE11.trans hE24)) (p2.ext (hE11.trans hE24)) op.bd (by omega) (by omega) fun W33 hE33 => ⟨fun _ => ?_, fun e => (by cases e)⟩
  exact diffIs (p1.ext (hE11.trans (hE24.trans hE33))) (p2.ext (hE11.trans (hE24.trans hE33))) op.bd (by omega) (by omega) fun W42 hE42 W44 _ => ⟨rfl, trivial⟩
theorem polyDiffs_call {W0 W : PW} {M : Nat → Prop} {s : Sl} {L : List (Mon × ByteArray)} {i : Int} {K : Value → PW → Prop} (h1 : IsAPoly W s L) (l1 : L.length ≤ 1099511627776) (z1 : ∀ t ∈ L, t.2.size ≤ 1099511627776) (kont : ∀  (W' : PW), Ext W W' → (True) → K (.bool true) W') :
    callN Go.Proofs.Tryz.prog W0 M 6 [s.v, .int .i64 i] W K :=
  callN_of (fun W' hE => polyDiffs_ok (M := fun _ => False) (h1.ext hE) l1 z1) (fun W' v W'' hE hE' hP => by
    obtain ⟨rfl, h⟩ := hP
    exact kont  W'' (hE.trans hE') h)
end Go.Proofs.YtbingbjhgoanoaaGreat

/- slices.Backward of bytes; mono.Vars. -/
set_option linter.unusedVariables false
set_option linter.unusedSimpArgs false
namespace Go.Proofs.YtbingbjhgoanoaaGreat
open Go Go.SX Go.RowKit Go.Shelf
attribute [local go_sem] Oper.semAt_some
/-- The box with the slice, and the cells that have not come yet. -/
def bkMem8 (Bs : Nat) (v : Value) (b off : Nat) (zs : List Nat) (pre : List (Nat × Nat)) (W : World) : Prop := W.cell? ⟨Bs, 0, none⟩ = some v ∧ ∀ j, j < zs.length - pre.length → W.cell? ⟨b, off + j, none⟩ = some (.int .u8 ((zs[j]?.getD 0 : Nat) : Int))
def bkEnc8 (x : Nat × Nat) : Array Value := #[.int .i64 (x.1 : Int), .int .u8 (x.2 : Int)]
set_option maxRecDepth 100000 in
set_option maxHeartbeats 2000000 in
theorem back1_in8 (n : Nat) (hn : 1 ≤ n) (Bs b off cap : Nat) (zs : List Nat) (hreach : zs.length ≤ 1099511627776) :
    SeqMem Fence.wide n Go.Proofs.Tryz.prog 155 #[.pointer (some ⟨Bs, 0, none⟩)] bkEnc8 (bkMem8 Bs (.slice (some ⟨b, off, none⟩) zs.length cap) b off zs) (bkNx zs) (fun xs => xs = bks zs zs.length) (fun pre => ∃ k, k < zs.length ∧ pre = bks zs (k + 1)) := by
  intro l J Jx W hJ hY h0
  refine callsIn_of_wp Go.Proofs.Tryz.func155 rfl trivial ?_ rfl
  simp only [Go.Proofs.Tryz.ntmps155, List.size_toArray, List.length_cons, List.length_nil, Nat.reduceAdd, Nat.reduceSub, Array.replicate_succ, Array.replicate_zero, List.push_toArray, List.append_toArray, List.nil_append, List.cons_append]
  have hbox : W.cell? ⟨Bs, 0, none⟩ = some (.slice (some ⟨b, off, none⟩) zs.length cap) := (hJ _ _ h0).1
  gi_wp2
  gi_loopw [3, 7, 8, 9, 10, 11, 12, 13, 14, 15, 16, 17, 18] (fun i _ _ _ _ _ _ _ _ _ _ _ _ wr => ∃ m : Nat, m ≤ zs.length ∧ i = .int .i64 ((m : Int) - 1) ∧ J (bks zs (zs.length - m)) wr)
    (fun i _ _ _ _ _ _ _ _ _ _ _ _ _ => (intOf i + 1).toNat)
  case atStart => exact ⟨zs.length, Nat.le_refl _, rfl, by simpa [bks] using h0⟩
  case round =>
    obtain ⟨m, hm, rfl, hJs⟩ := hrel
    obtain ⟨hbx, hmem⟩ := hJ _ _ hJs
    cases m with
    | zero =>
      gi_wp2
      go_end0
      exact ⟨⟨_, rfl⟩, .inl ⟨_, rfl, by simpa using hJs⟩⟩
    | succ k =>
      have hk : k < zs.length := by omega
      have hcx : wr.cell? ⟨b, off + k, none⟩ = some (.int .u8 ((zs[k]?.getD 0 : Nat) : Int)) := hmem k (by rw [bks_length]; omega)
      have e1 : ((k + 1 : Nat) : Int) - 1 = (k : Int) := by omega
      have hx : bk zs (zs.length - (k + 1)) = (k, zs[k]?.getD 0) := by simp only [bk]; rw [show zs.length - 1 - (zs.length - (k + 1)) = k by omega]
      obtain ⟨fn, tmps, assign, body, hy, hR⟩ := hY _ (bk zs (zs.length - (k + 1))) wr hJs ⟨by rw [bks_length]; omega, by rw [bks_length], by rw [bks_length]⟩
      obtain ⟨d, hd⟩ : ∃ d, zs[k]?.getD 0 = d := ⟨_, rfl⟩
      rw [hd] at hcx hx
      rw [hx] at hy hR
      rw [e1]
      dsimp only [bkEnc8] at hy
      have hpre : bks zs (zs.length - (k + 1)) ++ [(k, d)] = bks zs (zs.length - (k + 1) + 1) := by rw [bks_succ, hx]
      gi_wp2
      refine hR.mono ?_
      rintro e W3 (⟨rfl, hJ3⟩ | ⟨rfl, hJx3⟩)
      · rw [hpre, show zs.length - (k + 1) + 1 = zs.length - k by omega] at hJ3
        gi_wp2
        go_roundw
        case rel => exact ⟨k, by omega, rfl, hJ3⟩
        case measure => simp [intOf]
      · rw [hpre] at hJx3
        gi_wp2
        refine bodyPost_ret (results_none rfl _ _ _) rfl ?_
        exact ⟨⟨_, rfl⟩, .inr ⟨_, ⟨_, by omega, rfl⟩, hJx3⟩⟩
set_option maxRecDepth 100000 in
set_option maxHeartbeats 2000000 in
/-- .. at the nil slice, or one without elements. -/
theorem back1_nil_in8 (n : Nat) (hn : 1 ≤ n) (Bs : Nat) (A : Option Addr) (cap : Nat) (Mem : List (Nat × Nat) → World → Prop) (hMem : ∀ pre W, Mem pre W → W.cell? ⟨Bs, 0, none⟩ = some (.slice A 0 cap)) :
    SeqMem Fence.wide n Go.Proofs.Tryz.prog 155 #[.pointer (some ⟨Bs, 0, none⟩)] bkEnc8 Mem (bkNx []) (fun xs => xs = bks [] 0) (fun pre => ∃ k, k < 0 ∧ pre = bks [] (k + 1)) := by
  intro l J Jx W hJ hY h0
  refine callsIn_of_wp Go.Proofs.Tryz.func155 rfl trivial ?_ rfl
  simp only [Go.Proofs.Tryz.ntmps155, List.size_toArray, List.length_cons, List.length_nil, Nat.reduceAdd, Nat.reduceSub, Array.replicate_succ, Array.replicate_zero, List.push_toArray, List.append_toArray, List.nil_append, List.cons_append]
  have hbox : W.cell? ⟨Bs, 0, none⟩ = some (.slice A 0 cap) := hMem _ _ (hJ _ _ h0)
  gi_wp2
  gi_loopw [3, 7, 8] (fun i _ _ wr => i = .int .i64 (-1) ∧ J [] wr) (fun _ _ _ _ => 0)
  case atStart => exact ⟨by simp, h0⟩
  case round =>
    obtain ⟨rfl, hJs⟩ := hrel
    gi_wp2
    go_end0
    exact ⟨⟨_, rfl⟩, .inl ⟨_, rfl, hJs⟩⟩
/-- What an iterator's row lies in. -/
def bkA8 (Bs : Nat) (A : Option Addr) (cap : Nat) (zs : List Nat) (pre : List (Nat × Nat)) (W : World) : Prop := W.cell? ⟨Bs, 0, none⟩ = some (.slice A zs.length cap) ∧ ∀ b off, A = some ⟨b, off, none⟩ → ∀ j, j < zs.length - pre.length → W.cell? ⟨b, off + j, none⟩ = some (.int .u8 ((zs[j]?.getD 0 : Nat) : Int))
theorem back_in8 (n : Nat) (hn : 1 ≤ n) (Bs : Nat) (A : Option Addr) (cap : Nat) (zs : List Nat) (hreach : zs.length ≤ 1099511627776) (hA : zs = [] ∨ ∃ b off, A = some ⟨b, off, none⟩) :
    SeqMem Fence.wide n Go.Proofs.Tryz.prog 155 #[.pointer (some ⟨Bs, 0, none⟩)] bkEnc8 (bkA8 Bs A cap zs) (bkNx zs) (fun xs => xs = bks zs zs.length) (fun pre => ∃ k, k < zs.length ∧ pre = bks zs (k + 1)) := by
  rcases hA with rfl | ⟨b, off, rfl⟩
  · exact back1_nil_in8 n hn Bs A cap _ fun pre W h => h.1
  · intro l J Jx W hJ hY h0
    exact back1_in8 n hn Bs b off cap zs hreach l J Jx W (fun pre W' h => ⟨(hJ pre W' h).1, (hJ pre W' h).2 b off rfl⟩) hY h0
set_option maxHeartbeats 1000000 in
/-- The slice value is boxed; the function value captures the box. -/
theorem backward_in8 (n : Nat) (a : Option Addr) (len cap : Nat) (w : World) :
    CallsIn Fence.wide n Go.Proofs.Tryz.prog 129 #[.slice a len cap] w fun e w' => e = .returned (.func (.func 155) #[] #[.pointer (some ⟨w.heap.size, 0, none⟩)]) ∧ w' = w.alloc (.cells #[.slice a len cap] 168) := by
  refine callsIn_of_wp Go.Proofs.Tryz.func129 rfl trivial ?_ rfl
  simp only [Go.Proofs.Tryz.ntmps129, List.size_toArray, List.length_cons, List.length_nil, Nat.reduceAdd, Nat.reduceSub, Array.replicate_succ, Array.replicate_zero, List.push_toArray, List.append_toArray, List.nil_append, List.cons_append]
  gi_wp2
  go_ret
  exact ⟨rfl, rfl⟩
/-- How many variables a monomial has: the last that stands in it. -/
def varsN (zs : List Nat) : Nat := if 0 < zs[2]?.getD 0 then 3 else if 0 < zs[1]?.getD 0 then 2 else if 0 < zs[0]?.getD 0 then 1 else 0
set_option maxRecDepth 100000 in
set_option maxHeartbeats 4000000 in
theorem vars_in (n : Nat) (hn : 3 ≤ n) (x y z : Nat) (w : World) :
    CallsIn Fence.wide n Go.Proofs.Tryz.prog 84 #[.agg #[.int .u8 (x : Int), .int .u8 (y : Int), .int .u8 (z : Int)]] w fun e W' => e = .returned (.int .i64 (varsN [x, y, z] : Nat)) ∧ BelowD w W' := by
  refine callsIn_of_wp_marks Go.Proofs.Tryz.func84 rfl trivial ?_ rfl
  simp only [Go.Proofs.Tryz.ntmps84, List.size_toArray, List.length_cons, List.length_nil, Nat.reduceAdd, Nat.reduceSub, Array.replicate_succ, Array.replicate_zero, List.push_toArray, List.append_toArray, List.nil_append, List.cons_append]
  gi_wp2
  refine ⟨trivial, fun _ => by omega, (backward_in8 (n - 1) _ _ _ _).mono ?_⟩
  rintro e w' ⟨rfl, rfl⟩
  gi_wp2
  obtain ⟨W4, hW4⟩ : ∃ W4, (((w.alloc (.cells #[.int .u8 (x : Int), .int .u8 (y : Int), .int .u8 (z : Int)] 41)).alloc (.cells #[.int .i64 0] 3)).alloc (.cells #[.slice (some ⟨w.heap.size, 0, none⟩) 3 3] 168)) = W4 := ⟨_, rfl⟩
  have hsz : W4.heap.size = w.heap.size + 1 + 1 + 1 := by rw [← hW4]; simp
  have hB4 : BelowD w W4 := by rw [← hW4]; exact ⟨((((Below.refl _ w).alloc (Nat.le_refl _) _).alloc (by simp) _).alloc (by simp; omega) _), Nat.le_refl _⟩
  have bL : Boxed W4 (w.heap.size + 1 + 1) 168 (.slice (some ⟨w.heap.size, 0, none⟩) 3 3) := by
    rw [← hW4]
    have := Boxed.new ((w.alloc (.cells #[.int .u8 (x : Int), .int .u8 (y : Int), .int .u8 (z : Int)] 41)).alloc (.cells #[.int .i64 0] 3)) 168 (.slice (some ⟨w.heap.size, 0, none⟩) 3 3)
    simpa using this
  have bR : Boxed W4 (w.heap.size + 1) 3 (.int .i64 0) := by
    rw [← hW4]
    have := Boxed.new (w.alloc (.cells #[.int .u8 (x : Int), .int .u8 (y : Int), .int .u8 (z : Int)] 41)) 3 (.int .i64 0)
    simpa using this.alloc (.cells #[.slice (some ⟨w.heap.size, 0, none⟩) 3 3] 168)
  have hX0 : W4.heap[w.heap.size]? = some (.cells #[.int .u8 (x : Int), .int .u8 (y : Int), .int .u8 (z : Int)] 41) := by
    rw [← hW4]
    rw [Below.heap_alloc _ _ _ (by simp; omega), Below.heap_alloc _ _ _ (by simp)]
    exact World.alloc_heap_new w _
  have hX : ∀ j, j < 3 → W4.cell? ⟨w.heap.size, 0 + j, none⟩ = some (.int .u8 ((([x, y, z] : List Nat)[j]?.getD 0 : Nat) : Int)) := fun j hj => by
    simp only [World.cell?, hX0]
    rcases (by omega : j = 0 ∨ j = 1 ∨ j = 2) with rfl | rfl | rfl <;> rfl
  rw [hW4]
  refine wpIn_rangeMem (α := Nat × Nat) (n := n) rfl (by omega) (gf := 155) (lb := #[.pointer (some ⟨w.heap.size + 1 + 1, 0, none⟩)]) rfl trivial (enters_of Go.Proofs.Tryz.func155 (by kernel_rfl) rfl)
    (back_in8 (n - 1) (by omega) (w.heap.size + 1 + 1) (some ⟨w.heap.size, 0, none⟩) 3 [x, y, z] (by simp) (.inr ⟨_, _, rfl⟩)) (fun _ => rfl)
    (fun pre W => ((∀ p ∈ pre, p.2 = 0) ∧ W.cell? ⟨w.heap.size + 1, 0, none⟩ = some (.int .i64 0) ∧ W.frozen? ⟨w.heap.size + 1, 0, none⟩ = false ∧ (∀ j, j < 3 → W.cell? ⟨w.heap.size, 0 + j, none⟩ = some (.int .u8 ((([x, y, z] : List Nat)[j]?.getD 0 : Nat) : Int))) ∧ W.cell? ⟨w.heap.size + 1 + 1, 0, none⟩ = some (.slice (some ⟨w.heap.size, 0, none⟩) 3 3)) ∧ BelowD w W)
    (fun c pre W => (c = .ret ∧ ∃ ini last, pre = ini ++ [last] ∧ (∀ p ∈ ini, p.2 = 0) ∧ 0 < last.2 ∧ W.cell? ⟨w.heap.size + 1, 0, none⟩ = some (.int .i64 ((last.1 : Int) + 1))) ∧ BelowD w W)
    ?_ ?_ ?_ ?_
    (fun v => { tmps := #[.agg #[.int .u8 (x : Int), .int .u8 (y : Int), .int .u8 (z : Int)], .pointer (some ⟨w.heap.size, 0, none⟩), .pointer (some ⟨w.heap.size + 1, 0, none⟩), .int .i64 (v.1 : Int), .int .u8 (v.2 : Int), .slice (some ⟨w.heap.size, 0, none⟩) 3 3,
        .func (.func 155) #[] #[.pointer (some ⟨w.heap.size + 1 + 1, 0, none⟩)], .int .i64 (v.1 : Int), .int .u8 (v.2 : Int), undef, undef, undef, undef], defers := [] }) ?assign ?body ?done ?stop
  case assign =>
    intro l p W K hK
    simp only [bkEnc8]
    gi_wp2
    exact hK
  case body =>
    rintro l pre p W ⟨⟨hp, hcr, hfr, hcy, hcl⟩, hB⟩ ⟨hlen, hpre, hpx⟩
    have hi : p.1 < 3 := by rw [hpx]; simp only [bk]; simp; omega
    obtain ⟨i, v⟩ := p
    dsimp only at *
    gi_wp2
    · have hlt : 0 < v := by first | assumption | omega
      exact ⟨(KeepsOthers.setCell _ _ _).from _, ⟨rfl, pre, (i, v), rfl, hp, hlt, World.cell?_setCell_same' _ _ _ (by rw [hcr]; rfl)⟩, hB.setCell (p := ⟨w.heap.size + 1, 0, none⟩) (by show w.heap.size ≤ w.heap.size + 1; omega) _⟩
    · have h0 : v = 0 := by omega
      refine ⟨KeepsFrom.refl _ _, trivial, ⟨fun p hp' => ?_, hcr, hfr, hcy, hcl⟩, hB⟩
      rcases List.mem_append.1 hp' with h | h
      · exact hp p h
      · simp at h; subst h; exact h0
  case done =>
    rintro D ps W hD rfl ⟨⟨hne, hcr, hfr, hcy, hcl⟩, hB⟩ hK
    gi_wp2
    have hK' := (KeepsOthers.setCell W ⟨w.heap.size + 1, 0, none⟩ (.int .i64 0)).same D _ hK rfl
    refine ⟨by simp, .inl ⟨_, _, rfl, run_takeDeferred hK', ?_⟩⟩
    have hc5 := cell_kept (World.cell?_setCell_same' W ⟨w.heap.size + 1, 0, none⟩ (.int .i64 0) (by rw [hcr]; rfl)) (grownBy_putObj' _ D (.deferred none)) (fun r e => by cases e; exact ⟨_, hK', rfl⟩)
    refine ⟨.int .i64 0, ?_, ?_, (hB.setCell (p := ⟨w.heap.size + 1, 0, none⟩) (by show w.heap.size ≤ w.heap.size + 1; omega) _).put (by omega) hK' rfl rfl⟩
    · simp [results, Go.Proofs.Tryz.f84, go_sem, hc5]
    · have hz : ∀ k, k < 3 → ([x, y, z] : List Nat)[3 - 1 - k]?.getD 0 = 0 := fun k hk => hne (bk [x, y, z] k) (List.mem_map.2 ⟨k, List.mem_range.2 (by simpa using hk), rfl⟩)
      have h0 := hz 0 (by omega)
      have h1 := hz 1 (by omega)
      have h2 := hz 2 (by omega)
      simp at h0 h1 h2
      simp [varsN, h0, h1, h2]
  case stop =>
    rintro D c pre W hD ⟨k, hk, rfl⟩ ⟨⟨rfl, ini, last, e1, e2, e3, hcr⟩, hB⟩ hK
    gi_wp2
    refine ⟨by simp, .inl ⟨_, _, rfl, run_takeDeferred hK, ?_⟩⟩
    rw [bks_succ] at e1
    obtain ⟨rfl, e5⟩ := List.append_inj' e1 rfl
    have e6 : last = bk [x, y, z] k := by simpa using e5.symm
    subst e6
    have hBD := hB.put (o' := .deferred none) (by omega) hK rfl rfl
    have hc5 := cell_kept hcr (grownBy_putObj' _ D (.deferred none)) (fun r e => by cases e; exact ⟨_, hK, rfl⟩)
    have hz : ∀ j, j < k → ([x, y, z] : List Nat)[3 - 1 - j]?.getD 0 = 0 := fun j hj => e2 (bk [x, y, z] j) (List.mem_map.2 ⟨j, List.mem_range.2 hj, rfl⟩)
    refine ⟨.int .i64 (((bk [x, y, z] k).1 : Int) + 1), by simp [results, Go.Proofs.Tryz.f84, go_sem, hc5], ?_, hBD⟩
    have hk3 : k < 3 := by simpa using hk
    rcases (by omega : k = 0 ∨ k = 1 ∨ k = 2) with rfl | rfl | rfl
    · have e3 : 0 < z := e3
      simp [varsN, bk, e3]
    · have h0 := hz 0 (by omega)
      have e3 : 0 < y := e3
      simp at h0
      simp [varsN, bk, e3, h0]
    · have h0 := hz 0 (by omega)
      have h1 := hz 1 (by omega)
      have e3 : 0 < x := e3
      simp at h0 h1
      simp [varsN, bk, e3, h0, h1]
  · exact OwnFromD.and (Own.fromD (fun s A B row hs hg hr => ⟨hs.1, cell_kept hs.2.1 hg hr, (frozen_kept hs.2.1 hg hr).trans hs.2.2.1, fun j hj => cell_kept (hs.2.2.2.1 j hj) hg hr, cell_kept hs.2.2.2.2 hg hr⟩) _) (ownFrom_belowD (by omega))
  · exact fun c => OwnFromD.and (Own.fromD (fun s A B row hs hg hr => by
      obtain ⟨hc, ini, last, e1, e2, e3, e4⟩ := hs
      exact ⟨hc, ini, last, e1, e2, e3, cell_kept e4 hg hr⟩) _) (ownFrom_belowD (by omega))
  · rintro pre W ⟨⟨_, _, _, hcy, hcl⟩, hB⟩
    refine ⟨hcl, fun b off hA j hj => ?_⟩
    cases hA
    exact hcy j (by simp at hj; omega)
  · exact ⟨⟨by simp, bR.cell, bR.frozen, hX, bL.cell⟩, hB4⟩
/-- mono.Vars of a monomial. -/
def varsM (m : Mon) : Int := if 0 < m.z then 3 else if 0 < m.y then 2 else if 0 < m.x then 1 else 0
theorem monoVars_ok {W0 : PW} {M : Nat → Prop} {m : Mon} (hm : m.ok) :
    PCallsM Go.Proofs.Tryz.prog 84 [.agg ⟨[.int .u8 m.x, .int .u8 m.y, .int .u8 m.z]⟩] W0 M fun v W' => v = .int .i64 (varsM m) ∧ True := by
  refine ⟨⟨_, Go.Proofs.Tryz.func84, rfl, rfl⟩, fun _ => ?_⟩
  obtain ⟨⟨x0, _⟩, ⟨y0, _⟩, z0, _⟩ := hm
  obtain ⟨mx, my, mz⟩ := m
  obtain ⟨x, rfl⟩ := Int.eq_ofNat_of_zero_le x0
  obtain ⟨y, rfl⟩ := Int.eq_ofNat_of_zero_le y0
  obtain ⟨z, rfl⟩ := Int.eq_ofNat_of_zero_le z0
  have := callsIn_wide.1 (vars_in 5 (by omega) x y z W0.w)
  have e : ((varsN [x, y, z] : Nat) : Int) = varsM ⟨x, y, z⟩ := by
    simp only [varsN, varsM]
    show ((if 0 < z then 3 else if 0 < y then 2 else if 0 < x then 1 else 0 : Nat) : Int) = _
    (repeat' split) <;> omega
  rw [e] at this
  exact Calls.mono this fun e w' ⟨he, hB⟩ => ⟨_, he, keep_of_below hB, rfl, trivial⟩
theorem monoVars_call {W0 W : PW} {M : Nat → Prop} {m : Mon} {K : Value → PW → Prop} (hm : m.ok) (kont : ∀  (W' : PW), Ext W W' → (True) → K (.int .i64 (varsM m)) W') :
    callN Go.Proofs.Tryz.prog W0 M 84 [.agg ⟨[.int .u8 m.x, .int .u8 m.y, .int .u8 m.z]⟩] W K :=
  callN_of (fun W' hE => monoVars_ok (M := fun _ => False) hm) (fun W' v W'' hE hE' hP => by
    obtain ⟨rfl, h⟩ := hP
    exact kont  W'' (hE.trans hE') h)
end Go.Proofs.YtbingbjhgoanoaaGreat

/- poly.Degree, poly.Top. -/
set_option maxRecDepth 100000
set_option linter.unusedVariables false
set_option linter.unusedSimpArgs false
namespace Go.Proofs.YtbingbjhgoanoaaGreat
open Go Go.SX
/-- What counts for the i-th exponent. -/
def topw (i : Int) (m : Mon) : Int := if 0 ≤ i ∧ i < 3 then eget m i.toNat else 0
theorem topw_ok {m : Mon} (h : m.ok) (i : Int) : 0 ≤ topw i m ∧ topw i m ≤ 255 := by
  unfold topw
  split
  · exact eget_ok h _
  · omega
theorem topw_add (i : Int) (a b : Mon) : topw i (a.add b) = topw i a + topw i b := by
  unfold topw
  split
  · unfold eget Mon.add
    dsimp only
    (repeat' split) <;> omega
  · rfl
theorem deg_bd {p : List Tm} (h : POk p) : -1 ≤ maxf Mon.deg (-1) p ∧ maxf Mon.deg (-1) p ≤ 765 := ⟨le_maxf.1, maxf_le (by omega) fun t ht => by have := h t ht; unfold Mon.ok at this; unfold Mon.deg; omega⟩
theorem top_bd {p : List Tm} (h : POk p) (i : Int) : 0 ≤ maxf (topw i) 0 p ∧ maxf (topw i) 0 p ≤ 255 := ⟨le_maxf.1, maxf_le (by omega) fun t ht => (topw_ok (h t ht) i).2⟩
theorem polyDegree_ok {W0 : PW} {M : Nat → Prop} {s : Sl} {p : List Tm} (h : IsPoly 183 45 W0 s p) (hl : p.length ≤ 1099511627776) :
    PCallsM Go.Proofs.Tryz.prog 47 [.agg ⟨[s.v]⟩] W0 M fun v W' => v = .int .i64 (lastDeg p) ∧ True := by
  apply callpoly_Degree
  have hn := h.n
  refine ⟨fun h0 W1 _ => ⟨?_, trivial⟩, fun h0 => ?_⟩
  · have : p = [] := List.eq_nil_of_length_eq_zero (by omega)
    subst this
    rfl
  · have hp : p.length - 1 < p.length := by omega
    obtain ⟨k0, c1, d1, c2, e1, e2, _, hr⟩ := h.at (List.getElem?_eq_getElem hp)
    rw [show Int.toNat ((s.n : Int) - 1) = p.length - 1 by omega]
    refine ⟨by unfold I64; omega, h.inB (by omega) (by omega), _, _, _, e2, monoDegree_call k0 fun W6 _ _ => ⟨_, rfl, fun W8 _ => ⟨?_, trivial⟩⟩⟩
    unfold lastDeg
    rw [List.getLast?_eq_getElem?, List.getElem?_eq_getElem hp]
theorem polyDegree_call {W0 W : PW} {M : Nat → Prop} {s : Sl} {p : List Tm} {K : Value → PW → Prop} (h : IsPoly 183 45 W s p) (hl : p.length ≤ 1099511627776) (kont : ∀  (W' : PW), Ext W W' → (True) → K (.int .i64 (lastDeg p)) W') :
    callN Go.Proofs.Tryz.prog W0 M 47 [.agg ⟨[s.v]⟩] W K :=
  callN_of (fun W' hE => polyDegree_ok (M := fun _ => False) (h.ext hE) hl) (fun W' v W'' hE hE' hP => by
    obtain ⟨rfl, h⟩ := hP
    exact kont  W'' (hE.trans hE') h)
def topI (W0 : PW) (p : List Tm) (i : Int) (L : List PL) (W : PW) : Prop := match L with
  | [.val (.int .i64 a), .val (.int .i64 k)] => ∃ j : Nat, k = (j : Int) ∧ j ≤ p.length ∧ Ext W0 W ∧ a = maxf (topw i) 0 (p.take j)
  | _ => False
def topM (p : List Tm) (L : List PL) (_ : PW) : Nat := match L with
  | [_, .val (.int .i64 k)] => p.length - k.toNat
  | _ => 0
theorem polyTop_ok {W0 : PW} {M : Nat → Prop} {s : Sl} {p : List Tm} {i : Int} (h : IsPoly 183 45 W0 s p) (hl : p.length ≤ 1099511627776) :
    PCallsM Go.Proofs.Tryz.prog 48 [.agg ⟨[s.v]⟩, .int .i64 i] W0 M fun v W' => v = .int .i64 (maxf (topw i) 0 p) ∧ True := by
  apply callpoly_Top
  have hn := h.n
  refine ⟨topI W0 p i, topM p, ⟨0, rfl, by omega, Ext.refl _, rfl⟩, ?_⟩
  rintro i3 i4 W5 ⟨j, rfl, hj, hE, rfl⟩
  refine ⟨fun hlt => ?_, fun hge W13 _ => ⟨?_, trivial⟩⟩
  · have hjl : j < p.length := by omega
    have hP := h.ext hE
    obtain ⟨k0, c1, d1, c2, e1, _, _, hr⟩ := hP.at (List.getElem?_eq_getElem hjl)
    have hmu : p.length - Int.toNat ((j : Int) + 1) < p.length - Int.toNat (j : Int) := by omega
    have next : ∀ z, z = topw i p[j].1 → stp (topI W0 p i) (topM p) [.val (.int .i64 (mx (maxf (topw i) 0 (p.take j)) z)), .val (.int .i64 ((j : Int) + 1))] W5 [.val (.int .i64 (maxf (topw i) 0 (p.take j))), .val (.int .i64 (j : Int))] W5 := by
      rintro z rfl
      exact ⟨⟨j + 1, by push_cast; rfl, by omega, hE, by rw [take_snocR hjl, maxf_snoc]⟩, hmu⟩
    have h0 := (le_maxf (w := topw i) (n := 0) (p := p.take j)).1
    have same : topw i p[j].1 = 0 → stp (topI W0 p i) (topM p) [.val (.int .i64 (maxf (topw i) 0 (p.take j))), .val (.int .i64 ((j : Int) + 1))] W5 [.val (.int .i64 (maxf (topw i) 0 (p.take j))), .val (.int .i64 (j : Int))] W5 := fun e => by
      have := next 0 e.symm
      rwa [show mx (maxf (topw i) 0 (p.take j)) 0 = maxf (topw i) 0 (p.take j) by unfold mx; rw [if_neg (by omega)]] at this
    have hI : I64 ((j : Int) + 1) := by unfold I64; omega
    refine ⟨hP.inB (by omega) (by omega), _, _, _, c1, d1, c2, e1, fun hi0 => ⟨fun hi3 => ?_, fun hi3 => ⟨hI, same (by unfold topw; rw [if_neg (by omega)])⟩⟩, fun hi0 => ⟨hI, same (by unfold topw; rw [if_neg (by omega)])⟩⟩
    obtain ⟨m, rfl⟩ := Int.eq_ofNat_of_zero_le hi0
    have hm3 : m < 3 := by omega
    have hb := boxAt6 p[j].1 hm3 [c1.v, .bool d1, c2.v]
    have he := eget_ok k0 m
    refine ⟨⟨hi0, hi3⟩, _, hb, by unfold I64; omega, hI, next _ ?_⟩
    unfold topw
    rw [if_pos ⟨hi0, hi3⟩, Int.toNat_natCast]
  · have : j = p.length := by omega
    subst this
    rw [List.take_length]
theorem polyTop_call {W0 W : PW} {M : Nat → Prop} {s : Sl} {p : List Tm} {i : Int} {K : Value → PW → Prop} (h : IsPoly 183 45 W s p) (hl : p.length ≤ 1099511627776) (kont : ∀  (W' : PW), Ext W W' → (True) → K (.int .i64 (maxf (topw i) 0 p)) W') :
    callN Go.Proofs.Tryz.prog W0 M 48 [.agg ⟨[s.v]⟩, .int .i64 i] W K :=
  callN_of (fun W' hE => polyTop_ok (M := fun _ => False) (h.ext hE) hl) (fun W' v W'' hE hE' hP => by
    obtain ⟨rfl, h⟩ := hP
    exact kont  W'' (hE.trans hE') h)
theorem varsM_ok (m : Mon) : 0 ≤ varsM m ∧ varsM m ≤ 3 := by unfold varsM; (repeat' split) <;> omega
def varI (W0 : PW) (p : List Tm) (L : List PL) (W : PW) : Prop := match L with
  | [.val (.int .i64 a), .val (.int .i64 k)] => ∃ j : Nat, k = (j : Int) ∧ j ≤ p.length ∧ Ext W0 W ∧ a = maxf varsM 0 (p.take j)
  | _ => False
theorem polyVars_ok {W0 : PW} {M : Nat → Prop} {s : Sl} {p : List Tm} (h : IsPoly 183 45 W0 s p) (hl : p.length ≤ 1099511627776) :
    PCallsM Go.Proofs.Tryz.prog 49 [.agg ⟨[s.v]⟩] W0 M fun v W' => v = .int .i64 (maxf varsM 0 p) ∧ True := by
  apply callpoly_Vars
  have hn := h.n
  refine ⟨varI W0 p, topM p, ⟨0, rfl, by omega, Ext.refl _, rfl⟩, ?_⟩
  rintro i3 i4 W5 ⟨j, rfl, hj, hE, rfl⟩
  refine ⟨fun hlt => ?_, fun hge W13 _ => ⟨?_, trivial⟩⟩
  · have hjl : j < p.length := by omega
    have hP := h.ext hE
    obtain ⟨k0, c1, d1, c2, e1, _, _, hr⟩ := hP.at (List.getElem?_eq_getElem hjl)
    have hmu : p.length - Int.toNat ((j : Int) + 1) < p.length - Int.toNat (j : Int) := by omega
    refine ⟨hP.inB (by omega) (by omega), _, _, _, c1, d1, c2, e1, monoVars_call k0 fun W13 hE13 _ => ⟨_, rfl, by unfold I64; omega, ⟨j + 1, by push_cast; rfl, by omega, hE.trans hE13, by rw [take_snocR hjl, maxf_snoc]⟩, hmu⟩⟩
  · have : j = p.length := by omega
    subst this
    rw [List.take_length]
theorem polyVars_call {W0 W : PW} {M : Nat → Prop} {s : Sl} {p : List Tm} {K : Value → PW → Prop} (h : IsPoly 183 45 W s p) (hl : p.length ≤ 1099511627776) (kont : ∀  (W' : PW), Ext W W' → (True) → K (.int .i64 (maxf varsM 0 p)) W') :
    callN Go.Proofs.Tryz.prog W0 M 49 [.agg ⟨[s.v]⟩] W K :=
  callN_of (fun W' hE => polyVars_ok (M := fun _ => False) (h.ext hE) hl) (fun W' v W'' hE hE' hP => by
    obtain ⟨rfl, h⟩ := hP
    exact kont  W'' (hE.trans hE') h)
end Go.Proofs.YtbingbjhgoanoaaGreat
