/- poly.Diff, cinctureref1.Diff; cincturelaw8.PolyDiffs. -/
import Derived.Test.YtbingbjhgoanoaaGreatW14
import Derived.Test.YtbingbjhgoanoaaGreatR15
import Derived.Test.YtbingbjhgoanoaaGreatLib4
import Derived.Test.YtbingbjhgoanoaaGreatRows
import Derived.WalkKit
import Derived.ProofKit
import Derived.OpenShut
import Derived.JoinedCond
import Derived.Carry
import Derived.Deep.Slices
set_option linter.unusedVariables false
set_option linter.unusedSimpArgs false
set_option maxRecDepth 100000
set_option linter.unusedVariables false
set_option linter.unusedSimpArgs false
namespace Go.Proofs.YtbingbjhgoanoaaGreat
open Go Go.SX
/-- One exponent less. -/
def decM (m : Mon) (k : Nat) : Mon := if k = 0 then ⟨m.x - 1, m.y, m.z⟩ else if k = 1 then ⟨m.x, m.y - 1, m.z⟩ else ⟨m.x, m.y, m.z - 1⟩
/-- What a term's derivative is. -/
def dterm (k : Nat) (t : Tm) : List Tm := if 0 < eget t.1 k then [(decM t.1 k, t.2 * ((eget t.1 k : Int) : Rat))] else []
def dlist (p : List Tm) (k : Nat) : List Tm := p.flatMap (dterm k)
def diffP (p : List Tm) (i : Int) : List Tm := if 0 ≤ i ∧ i < 3 then pnorm (dlist p i.toNat) else []
theorem dlist_snoc {p : List Tm} {j : Nat} (hj : j < p.length) (k : Nat) : dlist (p.take (j + 1)) k = dlist (p.take j) k ++ dterm k p[j] := by
  rw [take_snocR hj]
  unfold dlist
  rw [List.flatMap_append]
  rw [show List.flatMap (dterm k) [p[j]] = dterm k p[j] from by simp [List.flatMap]]
theorem dterm_len (k : Nat) (t : Tm) : (dterm k t).length ≤ 1 := by
  unfold dterm
  split <;> simp
theorem dlist_len (p : List Tm) (k : Nat) : (dlist p k).length ≤ p.length := by
  induction p with
  | nil => simp [dlist]
  | cons t r ih =>
    have e : dlist (t :: r) k = dterm k t ++ dlist r k := rfl
    have := dterm_len k t
    rw [e]
    simp only [List.length_append, List.length_cons]
    omega
theorem decM_ok {m : Mon} {k : Nat} (h : m.ok) (hk : k < 3) (hp : 0 < eget m k) : (decM m k).ok := by
  unfold Mon.ok at h
  unfold eget at hp
  unfold decM
  rcases (by omega : k = 0 ∨ k = 1 ∨ k = 2) with rfl | rfl | rfl
  · simp at hp; exact ⟨⟨by show 0 ≤ m.x - 1; omega, by show m.x - 1 ≤ 255; omega⟩, h.2.1, h.2.2⟩
  · simp at hp; exact ⟨h.1, ⟨by show 0 ≤ m.y - 1; omega, by show m.y - 1 ≤ 255; omega⟩, h.2.2⟩
  · simp at hp; exact ⟨h.1, h.2.1, by show 0 ≤ m.z - 1; omega, by show m.z - 1 ≤ 255; omega⟩
theorem dlist_bd {l : Nat} {p : List Tm} (h : Bd l p) (ho : POk p) (k : Nat) : Bd (l + 1) (dlist p k) := by
  obtain ⟨D, N, h1, h2, h3, h4⟩ := h
  have key : ∀ {p : List Tm} {N : Nat}, Fit D N p → POk p → Fit D (N * 255) (dlist p k) := by
    intro p
    induction p with
    | nil => intro N _ _; trivial
    | cons t r ih =>
      rintro N ⟨a, b, g1, g2, g3⟩ ho
      have e : dlist (t :: r) k = dterm k t ++ dlist r k := rfl
      rw [e]
      have hr := ih g3 fun x hx => ho x (by simp [hx])
      have ht : Fit D (a * 255) (dterm k t) := by
        unfold dterm
        split
        · have hk := eget_ok (ho t (by simp)) k
          have h5 : FitQ 1 255 ((eget t.1 k : Int) : Rat) := (FitQ.int (eget t.1 k)).mono (by omega)
          have h6 := g2.mul h5
          rw [Nat.mul_one] at h6
          exact ⟨a * 255, 0, by omega, h6, trivial⟩
        · trivial
      have := ht.append hr
      rw [← Nat.add_mul] at this
      exact this.mono (Nat.mul_le_mul_right _ g1)
  have h5 := nl_mul N 255
  have h6 : nl 255 ≤ 1 := nl_le (by decide)
  exact ⟨D, N * 255, key h1 ho, h2, by omega, by omega⟩
theorem boxAt6 (m : Mon) {k : Nat} (hk : k < 3) (r : List Value) : BoxAt (.int .u8 m.x :: .int .u8 m.y :: .int .u8 m.z :: r) (0 + Int.toNat (k : Int) * 1 + 0) [.int .u8 (eget m k)] := by
  rcases (by omega : k = 0 ∨ k = 1 ∨ k = 2) with rfl | rfl | rfl <;> exact ⟨by simp, rfl⟩
theorem polyDiff_ok {W0 : PW} {M : Nat → Prop} {s : Sl} {p : List Tm} {i : Int} {l : Nat} (h : IsPoly 183 45 W0 s p) (hB : Bd l p) (hl : l ≤ 268435456) (hp : p.length ≤ 1073741824) :
    PCallsM Go.Proofs.Tryz.prog 26 [.agg ⟨[s.v]⟩, .int .i64 i] W0 M fun v W' => ∃ (s' : Sl), v = .agg ⟨[Sl.v s']⟩ ∧ IsPoly 183 45 W' s' (diffP p i) := by
  apply callpoly_Diff
  have hn := h.n
  refine ⟨fun h0 W1 _ => ⟨⟨none, 0, 0⟩, rfl, ?_⟩, fun h0 => ⟨fun h3 W2 _ => ⟨⟨none, 0, 0⟩, rfl, ?_⟩, fun h3 => ?_⟩⟩
  · unfold diffP; rw [if_neg (by omega)]; exact IsPoly.nil W1
  · unfold diffP; rw [if_neg (by omega)]; exact IsPoly.nil W2
  obtain ⟨k, rfl⟩ := Int.eq_ofNat_of_zero_le (by omega : 0 ≤ i)
  have hk3 : k < 3 := by omega
  have hkr : (0 : Int) ≤ (k : Int) ∧ (k : Int) < 3 := ⟨by omega, by omega⟩
  refine ⟨fun L W => match L with
    | [.row xs, .val (.int .i64 i)] => ∃ j : Nat, i = (j : Int) ∧ j ≤ p.length ∧ Ext W0 W ∧ All2 (PT 183 W) xs (dlist (p.take j) k)
    | _ => False, cnL p.length, ⟨0, rfl, by omega, Ext.refl _, trivial⟩, ?_⟩
  rintro l5 i6 W7 ⟨j, rfl, hj, hE7, ha⟩
  have hal := ha.len
  have hdl := dlist_len (p.take j) k
  rw [List.length_take] at hdl
  refine ⟨fun hlt => ?_, fun hge s46 W47 hE47 hO _ => ?_⟩
  · have hjl : j < p.length := by omega
    have hP := h.ext hE7
    obtain ⟨h0', s1, b1, s2, e1, _, _, hr⟩ := hP.at (List.getElem?_eq_getElem hjl)
    have hek := eget_ok h0' k
    have hmu : p.length - Int.toNat ((j : Int) + 1) < p.length - Int.toNat (j : Int) := by omega
    have hbx := boxAt6 p[j].1 hk3 [s1.v, .bool b1, s2.v]
    have hw : IntKind.wrap .u8 (eget p[j].1 k - 1) = eget p[j].1 k - 1 ∨ ¬ 0 < eget p[j].1 k := by
      by_cases h : 0 < eget p[j].1 k
      · exact .inl (wrap8 (by omega) (by omega))
      · exact .inr h
    refine ⟨hP.inB (by omega) (by omega), _, _, _, s1, b1, s2, e1, hkr, _, hbx, fun hpos => ⟨hkr, _, hbx, hkr, by omega, ⟨⟨trivial, fun e => ?_⟩, fun e => ?_⟩, fun e => ?_⟩, fun hz => ⟨by unfold I64; omega, ⟨j + 1, by push_cast; rfl, by omega, hE7, ?_⟩, hmu⟩⟩
    case refine_4 =>
      rw [dlist_snoc hjl]
      unfold dterm
      rw [if_neg hz, List.append_nil]
      exact ha
    all_goals
      have hw' : IntKind.wrap .u8 (eget p[j].1 k - 1) = eget p[j].1 k - 1 := hw.resolve_right (fun h => h hpos)
      have hok := decM_ok h0' hk3 hpos
      have hdt : dterm k p[j] = [(decM p[j].1 k, p[j].2 * ((eget p[j].1 k : Int) : Rat))] := by unfold dterm; rw [if_pos hpos]
      have e' : k = _ := e
      subst e'
      refine ⟨by unfold I64; omega, ratOf_call (z := eget p[j].1 _) (by unfold I64; omega) fun s18 b19 s20 W17 hE17 h17 => ⟨s18, b19, s20, rfl, ratMul_call (hr.ext hE17) h17 (hB.sz _ (List.getElem_mem hjl)) ((FitQ.int _).sz (by decide) (k := l + 1) (by rw [nl_one]; omega) (Nat.le_trans (nl_mono (by omega : _ ≤ 255)) (Nat.le_trans (nl_le (by decide : 255 < B ^ 1)) (by omega)))) (by omega) (by omega) fun s23 b24 s25 W22 hE22 h22 => ⟨s23, b24, s25, rfl, by simp; omega, by unfold I64; omega, ⟨j + 1, by push_cast; rfl, by omega, hE7.trans (hE17.trans hE22), ?_⟩, hmu⟩⟩⟩
      rw [dlist_snoc hjl, hdt]
      refine (ha.mono fun _ _ h => h.ext (hE17.trans hE22)).snoc ⟨hok, s23, b24, s25, ?_, h22⟩
      rw [hw']
      rfl
  · have : j = p.length := by omega
    subst this
    rw [List.take_length] at ha
    have hdl := dlist_len p k
    refine polyNew_call (isPoly_of hO.row (ha.mono fun _ _ h => h.ext hE47)) (dlist_bd hB h.ok k) (by omega) (by omega) fun s' W49 hE49 hp' => ⟨s', rfl, fun W51 hE51 => ⟨s', rfl, ?_⟩⟩
    unfold diffP
    rw [if_pos hkr]
    exact hp'.ext hE51
theorem polyDiff_call {W0 W : PW} {M : Nat → Prop} {s : Sl} {p : List Tm} {i : Int} {l : Nat} {K : Value → PW → Prop} (h : IsPoly 183 45 W s p) (hB : Bd l p) (hl : l ≤ 268435456) (hp : p.length ≤ 1073741824) (kont : ∀ (s' : Sl) (W' : PW), Ext W W' → (IsPoly 183 45 W' s' (diffP p i)) → K (.agg ⟨[Sl.v s']⟩) W') :
    callN Go.Proofs.Tryz.prog W0 M 26 [.agg ⟨[s.v]⟩, .int .i64 i] W K :=
  callN_of (fun W' hE => polyDiff_ok (M := fun _ => False) (h.ext hE) hB hl hp) (fun W' v W'' hE hE' hP => by
    obtain ⟨s', rfl, h⟩ := hP
    exact kont s' W'' (hE.trans hE') h)
theorem refDiff_ok {W0 : PW} {M : Nat → Prop} {s : Sl} {p : List Tm} {i : Int} {l : Nat} (h : IsRPoly 183 47 W0 s p) (hB : Bd l p) (hl : l ≤ 50000000) (hp : p.length ≤ 1073741824) :
    PCallsM Go.Proofs.Tryz.prog 27 [s.v, .int .i64 i] W0 M fun v W' => ∃ (s' : Sl), v = Sl.v s' ∧ IsRPoly 183 47 W' s' (diffP p i) := by
  apply callref1_Diff
  have hn := h.n
  refine ⟨fun h0 W1 _ => ⟨⟨none, 0, 0⟩, rfl, ?_⟩, fun h0 => ⟨fun h3 W2 _ => ⟨⟨none, 0, 0⟩, rfl, ?_⟩, fun h3 => ?_⟩⟩
  · unfold diffP; rw [if_neg (by omega)]; exact IsRPoly.nil W1
  · unfold diffP; rw [if_neg (by omega)]; exact IsRPoly.nil W2
  obtain ⟨k, rfl⟩ := Int.eq_ofNat_of_zero_le (by omega : 0 ≤ i)
  have hk3 : k < 3 := by omega
  have hkr : (0 : Int) ≤ (k : Int) ∧ (k : Int) < 3 := ⟨by omega, by omega⟩
  refine ⟨fun L W => match L with
    | [.val (.slice A n c), .val (.int .i64 i)] => ∃ j : Nat, i = (j : Int) ∧ j ≤ p.length ∧ Ext W0 W ∧ IsRPoly 183 47 W ⟨A, n, c⟩ (pnorm (dlist (p.take j) k))
    | _ => False, cnL p.length, ⟨0, rfl, by omega, Ext.refl _, IsRPoly.nil W0⟩, ?_⟩
  rintro s5 i6 W7 ⟨j, rfl, hj, hE7, hr⟩
  have hr : IsRPoly 183 47 W7 s5 (pnorm (dlist (p.take j) k)) := hr
  have hdl := dlist_len (p.take j) k
  rw [List.length_take] at hdl
  have hpl := pnorm_len (dlist (p.take j) k)
  refine ⟨fun hlt => ?_, fun hge W62 hE62 => ⟨s5, rfl, ?_⟩⟩
  · have hjl : j < p.length := by omega
    have hP := h.ext hE7
    have hib := hP.inB (i := (j : Int)) (by omega) (by omega)
    obtain ⟨h0', b1, s1, s2, _, e2, e3, hq⟩ := hP.at (List.getElem?_eq_getElem hjl)
    have hek := eget_ok h0' k
    have hmu : p.length - Int.toNat ((j : Int) + 1) < p.length - Int.toNat (j : Int) := by omega
    have hbx := boxAt6 p[j].1 hk3 []
    refine ⟨hib, _, _, _, e2, hkr, _, hbx, fun hpos => ⟨hkr, _, hbx, by unfold I64; omega, hkr, _, hbx, hkr, by omega, ⟨⟨trivial, fun e => ?_⟩, fun e => ?_⟩, fun e => ?_⟩, fun hz => ⟨by unfold I64; omega, ⟨j + 1, by push_cast; rfl, by omega, hE7, ?_⟩, hmu⟩⟩
    case refine_4 =>
      rw [dlist_snoc hjl]
      unfold dterm
      rw [if_neg hz, List.append_nil]
      exact hr
    all_goals
      have hw' : IntKind.wrap .u8 (eget p[j].1 k - 1) = eget p[j].1 k - 1 := wrap8 (by omega) (by omega)
      have hok := decM_ok h0' hk3 hpos
      have hdt : dterm k p[j] = [(decM p[j].1 k, p[j].2 * ((eget p[j].1 k : Int) : Rat))] := by unfold dterm; rw [if_pos hpos]
      have hbd := dlist_bd (hB.take (j + 1)) (fun t ht => h.ok t (List.mem_of_mem_take ht)) k
      rw [dlist_snoc hjl, hdt] at hbd
      have hsz : Sz (l + 1) ((eget p[j].1 k : Int) : Rat) := (FitQ.int _).sz (by decide) (by rw [nl_one]; omega) (Nat.le_trans (nl_mono (by omega : _ ≤ 255)) (Nat.le_trans (nl_le (by decide : 255 < B ^ 1)) (by omega)))
      refine ⟨hib, b1, s1, s2, e3, ?_⟩
      refine refRatOf_call (z := eget p[j].1 k) (by unfold I64; omega) fun b19 s20 s21 W18 hE18 h18 => ⟨b19, s20, s21, rfl, hE18, ?_⟩
      refine refQMul_call (hq.ext hE18) h18 (hB.sz _ (List.getElem_mem hjl)) hsz (by omega) (by omega) fun b24 s25 s26 W23 hE23 h23 => ⟨b24, s25, s26, rfl, ?_⟩
      rw [hw']
      have hs2 := hbd.right.sz (decM p[j].1 k, p[j].2 * ((eget p[j].1 k : Int) : Rat)) (by simp)
      have fin : ∀ s29 W28, Ext W23 W28 → IsRPoly 183 47 W28 s29 (pput (pnorm (dlist (p.take j) k)) (decM p[j].1 k, p[j].2 * ((eget p[j].1 k : Int) : Rat))) → ∃ j' : Nat, (j : Int) + 1 = (j' : Int) ∧ j' ≤ p.length ∧ Ext W0 W28 ∧ IsRPoly 183 47 W28 s29 (pnorm (dlist (p.take j') k)) := fun s29 W28 hE28 h28 => ⟨j + 1, by push_cast; rfl, by omega, hE7.trans ((hE18.trans hE23).trans hE28), by rw [dlist_snoc hjl, hdt, pnorm_snoc]; exact h28⟩
    · have e' : k = 0 := e
      subst e'
      have hd : decM p[j].1 0 = ⟨p[j].1.x - 1, p[j].1.y, p[j].1.z⟩ := rfl
      have he : eget p[j].1 0 = p[j].1.x := rfl
      rw [hd] at hok hs2 fin
      rw [he] at hs2 fin h23 ⊢
      rw [he] at hbd
      exact refPut_call (m := ⟨p[j].1.x - 1, p[j].1.y, p[j].1.z⟩) (hr.ext (hE18.trans hE23)) h23 hok hbd.left.norm.sz hs2 (by omega) (by omega) fun s29 W28 hE28 h28 => ⟨s29, rfl, by unfold I64; omega, fin s29 W28 hE28 h28, hmu⟩
    · have e' : k = 1 := e
      subst e'
      have hd : decM p[j].1 1 = ⟨p[j].1.x, p[j].1.y - 1, p[j].1.z⟩ := rfl
      have he : eget p[j].1 1 = p[j].1.y := rfl
      rw [hd] at hok hs2 fin
      rw [he] at hs2 fin h23 ⊢
      rw [he] at hbd
      exact refPut_call (m := ⟨p[j].1.x, p[j].1.y - 1, p[j].1.z⟩) (hr.ext (hE18.trans hE23)) h23 hok hbd.left.norm.sz hs2 (by omega) (by omega) fun s29 W28 hE28 h28 => ⟨s29, rfl, by unfold I64; omega, fin s29 W28 hE28 h28, hmu⟩
    · have e' : k = 2 := e
      subst e'
      have hd : decM p[j].1 2 = ⟨p[j].1.x, p[j].1.y, p[j].1.z - 1⟩ := rfl
      have he : eget p[j].1 2 = p[j].1.z := rfl
      rw [hd] at hok hs2 fin
      rw [he] at hs2 fin h23 ⊢
      rw [he] at hbd
      exact refPut_call (m := ⟨p[j].1.x, p[j].1.y, p[j].1.z - 1⟩) (hr.ext (hE18.trans hE23)) h23 hok hbd.left.norm.sz hs2 (by omega) (by omega) fun s29 W28 hE28 h28 => ⟨s29, rfl, by unfold I64; omega, fin s29 W28 hE28 h28, hmu⟩
  · have : j = p.length := by omega
    subst this
    rw [List.take_length] at hr
    unfold diffP
    rw [if_pos hkr]
    exact hr.ext hE62
theorem refDiff_call {W0 W : PW} {M : Nat → Prop} {s : Sl} {p : List Tm} {i : Int} {l : Nat} {K : Value → PW → Prop} (h : IsRPoly 183 47 W s p) (hB : Bd l p) (hl : l ≤ 50000000) (hp : p.length ≤ 1073741824) (kont : ∀ (s' : Sl) (W' : PW), Ext W W' → (IsRPoly 183 47 W' s' (diffP p i)) → K (Sl.v s') W') :
    callN Go.Proofs.Tryz.prog W0 M 27 [s.v, .int .i64 i] W K :=
  callN_of (fun W' hE => refDiff_ok (M := fun _ => False) (h.ext hE) hB hl hp) (fun W' v W'' hE hE' hP => by
    obtain ⟨s', rfl, h⟩ := hP
    exact kont s' W'' (hE.trans hE') h)
theorem diffP_bd {l : Nat} {p : List Tm} (h : Bd l p) (ho : POk p) (i : Int) : Bd (l + 1) (diffP p i) := by
  unfold diffP
  split
  · exact (dlist_bd h ho _).norm
  · obtain ⟨D, N, h1, h2, h3, h4⟩ := h
    exact ⟨1, 0, trivial, by decide, by rw [nl_one]; omega, by rw [nl_zero]; omega⟩
theorem diffP_len (p : List Tm) (i : Int) : (diffP p i).length ≤ p.length := by
  unfold diffP
  split
  · exact Nat.le_trans (pnorm_len _) (dlist_len p _)
  · simp
theorem IsPoly.pok {W : PW} {s : Sl} {p : List Tm} (h : IsPoly 183 45 W s p) : POk p := h.ok
/-- One comparison of derivatives. -/
theorem diffIs {W0 W : PW} {M : Nat → Prop} {s t : Sl} {p : List Tm} {i : Int} {l : Nat} (h1 : IsPoly 183 45 W s p) (h2 : IsRPoly 183 47 W t p) (hB : Bd l p) (hl : l ≤ 50000000) (hp : p.length ≤ 1073741824) {K : Bool → PW → Prop} (kont : ∀ W', Ext W W' → K true W') :
    callN Go.Proofs.Tryz.prog W0 M 26 [.agg ⟨[s.v]⟩, .int .i64 i] W fun v17 W18 => ∃ s19 : Sl, v17 = .agg ⟨[s19.v]⟩ ∧ callN Go.Proofs.Tryz.prog W0 M 27 [t.v, .int .i64 i] W18 fun v20 W21 => ∃ s22 : Sl, v20 = s22.v ∧ callN Go.Proofs.Tryz.prog W0 M 17 [.agg ⟨[s19.v]⟩, s22.v] W21 fun v23 W24 => ∃ b25 : Bool, v23 = .bool b25 ∧ K b25 W24 := by
  have hlen := diffP_len p i
  exact polyDiff_call h1 hB (by omega) hp fun s19 W18 hE18 h18 => ⟨s19, rfl, refDiff_call (h2.ext hE18) hB hl hp fun s22 W21 hE21 h21 => ⟨s22, rfl, law8Is_call (h18.ext hE21) h21 (diffP_bd hB h1.ok i).sz (by omega) (by omega) fun W24 hE24 _ => ⟨true, rfl, kont W24 (hE18.trans (hE21.trans hE24))⟩⟩⟩
theorem polyDiffs_ok {W0 : PW} {M : Nat → Prop} {s : Sl} {L : List (Mon × ByteArray)} {i : Int} (h1 : IsAPoly W0 s L) (l1 : L.length ≤ 1099511627776) (z1 : ∀ t ∈ L, t.2.size ≤ 1099511627776) :
    PCallsM Go.Proofs.Tryz.prog 6 [s.v, .int .i64 i] W0 M fun v W' => v = .bool true ∧ True := by
  apply calllaw8_PolyDiffs
  refine law8Of_call h1 l1 z1 fun s3 s4 b5 W2 hE2 g1 => ⟨s3, s4, b5, rfl, fun _ => law8alive_call fun W7 _ _ => ⟨true, rfl, fun W9 _ => ⟨rfl, trivial⟩⟩, fun hb5 => law8alive_call fun W11 hE11 _ => ⟨true, rfl, fun e => (by cases e), fun _ => ?_⟩⟩
  obtain ⟨p, op, p1, p2⟩ := g1 (by simpa using hb5)
  have lp := op.len
  refine diffIs (p1.ext hE11) (p2.ext hE11) op.bd (by omega) (by omega) fun W24 hE24 => ⟨fun _ => ?_, fun e => (by cases e)⟩
  refine diffIs (p1.ext (hE11.trans hE24)) (p2.ext (hE11.trans hE24)) op.bd (by omega) (by omega) fun W33 hE33 => ⟨fun _ => ?_, fun e => (by cases e)⟩
  exact diffIs (p1.ext (hE11.trans (hE24.trans hE33))) (p2.ext (hE11.trans (hE24.trans hE33))) op.bd (by omega) (by omega) fun W42 hE42 W44 _ => ⟨rfl, trivial⟩
theorem polyDiffs_call {W0 W : PW} {M : Nat → Prop} {s : Sl} {L : List (Mon × ByteArray)} {i : Int} {K : Value → PW → Prop} (h1 : IsAPoly W s L) (l1 : L.length ≤ 1099511627776) (z1 : ∀ t ∈ L, t.2.size ≤ 1099511627776) (kont : ∀  (W' : PW), Ext W W' → (True) → K (.bool true) W') :
    callN Go.Proofs.Tryz.prog W0 M 6 [s.v, .int .i64 i] W K :=
  callN_of (fun W' hE => polyDiffs_ok (M := fun _ => False) (h1.ext hE) l1 z1) (fun W' v W'' hE hE' hP => by
    obtain ⟨rfl, h⟩ := hP
    exact kont  W'' (hE.trans hE') h)
end Go.Proofs.YtbingbjhgoanoaaGreat

/- An argument that is a slice of terms with texts, opened. -/
set_option maxRecDepth 100000
set_option linter.unusedVariables false
set_option linter.unusedSimpArgs false
namespace Go.Proofs.YtbingbjhgoanoaaGreat
open Go Go.SX Go.ChangeShapes Go.WideShapes Go.ChangeAt Go.RowKit Go.Deep
instance : Inhabited (Mon × ByteArray) := ⟨(⟨0, 0, 0⟩, ⟨#[]⟩)⟩
theorem ownKnob_none : ownKnob Go.Proofs.Tryz.prog.godebug = none := by kernel_rfl
theorem laidOut : laidOutB Go.Proofs.Tryz.prog = true := by kernel_rfl
theorem cells_term : Go.Proofs.Tryz.prog.cellsOf 43 = 4 := by kernel_rfl
theorem cells_mono : Go.Proofs.Tryz.prog.cellsOf 41 = 3 := by kernel_rfl
theorem cells_str : Go.Proofs.Tryz.prog.cellsOf 9 = 1 := by kernel_rfl
theorem cells_u8 : Go.Proofs.Tryz.prog.cellsOf 5 = 1 := by kernel_rfl
theorem cell_block {W : World} {b o : Nat} {v : Value} (h : W.cell? ⟨b, o, none⟩ = some v) : ∃ cs t fz, W.heap[b]? = some (.cells cs t fz) ∧ cs[o]? = some v := by
  unfold World.cell? at h
  cases e : W.heap[b]? with
  | none => simp [e] at h
  | some ob =>
    cases ob with
    | cells cs t fz => exact ⟨cs, t, fz, rfl, by simpa [e] using h⟩
    | _ => simp [e] at h
theorem bulk_one {H : Type} (d : DataW H) : 1 ≤ Rows.uptoBulk d := by
  cases d with
  | lit l => cases l <;> simp [Rows.uptoBulk]
  | nil => simp [Rows.uptoBulk]
  | ptr d => simp [Rows.uptoBulk]
  | slice elems spare => simp [Rows.uptoBulk]
  | agg parts => simp [Rows.uptoBulk]
  | iface t d => simp [Rows.uptoBulk]
  | map entries => simp [Rows.uptoBulk]
  | held h => simp [Rows.uptoBulk]
theorem bulk_part {H : Type} {d : DataW H} {l : List (DataW H)} (h : d ∈ l) : Rows.uptoBulk d ≤ Rows.uptoBulkAll l := by
  induction l with
  | nil => cases h
  | cons x r ih =>
    simp only [Rows.uptoBulkAll]
    cases List.mem_cons.1 h with
    | inl e => subst e; omega
    | inr e => have := ih e; omega
theorem bulk_length {H : Type} (l : List (DataW H)) : l.length ≤ Rows.uptoBulkAll l := by
  induction l with
  | nil => simp [Rows.uptoBulkAll]
  | cons x r ih => have := bulk_one x; simp only [Rows.uptoBulkAll, List.length_cons]; omega
/-- Rows of sz cells each. -/
theorem rowA_of_cellsN {W : World} {a : Addr} {n c sz : Nat} {V : Nat → List Value} (h : ∀ j, j < n → ∀ i v, (V j)[i]? = some v → W.cell? (a.add (j * sz + i)) = some v) (hV : ∀ j, j < n → (V j).length = sz) (hsz : 0 < sz) (hn : n ≤ c) (hc : c ≤ maxLen) (h1 : ∀ j, j < n → ∀ u ∈ V j, u.oneCell' = true) :
    RowA ⟨W, fun _ => False⟩ sz ⟨some a, n, c⟩ ((List.range n).map V) := by
  have hel : ∀ x ∈ (List.range n).map V, x.length = sz ∧ ∀ u ∈ x, u.oneCell' = true := by
    intro x hx
    obtain ⟨j, hj, rfl⟩ := List.mem_map.1 hx
    exact ⟨hV j (List.mem_range.1 hj), h1 j (List.mem_range.1 hj)⟩
  by_cases h0 : n = 0
  · subst h0
    exact ⟨0, rfl, Nat.zero_le _, hc, hel, .inl rfl⟩
  · obtain ⟨b, off, sp⟩ := a
    have hlen0 := hV 0 (by omega)
    obtain ⟨v0, hv0⟩ : ∃ v, (V 0)[0]? = some v := ⟨_, List.getElem?_eq_getElem (by omega)⟩
    have hc0 := h 0 (by omega) 0 v0 hv0
    have hsp : sp = none := by simpa [Addr.add] using World.cell?_spot hc0
    subst hsp
    obtain ⟨cs, t, fz, hh, _⟩ := cell_block (by rw [← add_plain]; exact hc0)
    refine ⟨t, by simp, hn, hc, hel, .inr ⟨b, off, cs, fz, rfl, id, hh, fun j v hj => ?_⟩⟩
    have hjl := (List.getElem?_eq_some_iff.1 hj).1
    rw [flatten_length (sz := sz) (fun x hx => (hel x hx).1)] at hjl
    simp only [List.length_map, List.length_range] at hjl
    have hi : j / sz < n := (Nat.div_lt_iff_lt_mul hsz).2 hjl
    have hm : j % sz < sz := Nat.mod_lt _ hsz
    have e : j / sz * sz + j % sz = j := by rw [Nat.mul_comm]; exact Nat.div_add_mod j sz
    have hx : ((List.range n).map V)[j / sz]? = some (V (j / sz)) := by simp [hi]
    have hl := hV _ hi
    have hf := flatten_at (sz := sz) (fun x hx => (hel x hx).1) hx (j := j % sz) (v := (V (j / sz))[j % sz]'(by omega)) (List.getElem?_eq_getElem (by omega))
    rw [e, hj] at hf
    have hcell := h _ hi (j % sz) v (by rw [hf]; exact List.getElem?_eq_getElem (by omega))
    rw [e, add_plain] at hcell
    obtain ⟨cs', t', fz', hh', hv⟩ := cell_block hcell
    rw [hh] at hh'
    cases hh'
    exact hv
theorem u8_ok {n : Int} (h : (Lit.int .u8 n).wf = true) : 0 ≤ n ∧ n ≤ 255 := by
  simp [Lit.wf, IntKind.min, IntKind.max, IntKind.bits, IntKind.signed] at h
  omega
/-- An element. -/
theorem open_term {H : Type} {enc : TypeId × Value → H} {W : World} {fuel : Nat} {cs : List Value} {x : DataW H × List MemPlace} (h : DataW.trod enc Go.Proofs.Tryz.prog W 0 (fun _ => true) true fuel 43 cs = some x) :
    ∃ t : Mon × ByteArray, AT cs t ∧ t.2.size ≤ Rows.uptoBulk x.1 := by
  obtain ⟨xs, k, rfl, rfl, hl, hxl, hf⟩ := DataW.trod_struct Go.Proofs.Tryz.underlying43 h
  rw [cells_term] at hl
  have g0 : DataW.trod enc Go.Proofs.Tryz.prog W 0 (fun _ => true) true k 41 ((cs.drop 0).take (Go.Proofs.Tryz.prog.cellsOf 41)) = xs[0]? := hf 0 _ rfl
  have g1 : DataW.trod enc Go.Proofs.Tryz.prog W 0 (fun _ => true) true k 9 ((cs.drop 3).take (Go.Proofs.Tryz.prog.cellsOf 9)) = xs[1]? := hf 1 _ rfl
  rw [cells_mono] at g0
  rw [cells_str] at g1
  match cs, hl, xs, hxl with
  | [v0, v1, v2, v3], _, [y0, y1], _ =>
    have g0 : DataW.trod enc Go.Proofs.Tryz.prog W 0 (fun _ => true) true k 41 [v0, v1, v2] = some y0 := g0
    have g1 : DataW.trod enc Go.Proofs.Tryz.prog W 0 (fun _ => true) true k 9 [v3] = some y1 := g1
    obtain ⟨zs, m, rfl, rfl, _, hzl, hz⟩ := DataW.trod_array Go.Proofs.Tryz.underlying41 g0
    obtain ⟨s, hs, rfl, hsz⟩ := DataW.trod_string Go.Proofs.Tryz.underlying9 g1
    have e0 := hz 0 (by omega)
    have e1 := hz 1 (by omega)
    have e2 := hz 2 (by omega)
    rw [cells_u8] at e0 e1 e2
    match zs, hzl with
    | [w0, w1, w2], _ =>
      have e0 : DataW.trod enc Go.Proofs.Tryz.prog W 0 (fun _ => true) true m 5 [v0] = some w0 := e0
      have e1 : DataW.trod enc Go.Proofs.Tryz.prog W 0 (fun _ => true) true m 5 [v1] = some w1 := e1
      have e2 : DataW.trod enc Go.Proofs.Tryz.prog W 0 (fun _ => true) true m 5 [v2] = some w2 := e2
      obtain ⟨n0, h0, _, k0⟩ := DataW.trod_int Go.Proofs.Tryz.underlying5 e0
      obtain ⟨n1, h1, _, k1⟩ := DataW.trod_int Go.Proofs.Tryz.underlying5 e1
      obtain ⟨n2, h2, _, k2⟩ := DataW.trod_int Go.Proofs.Tryz.underlying5 e2
      have hs : [v3] = [Value.string s] := hs
      have h0 : [v0] = [Value.int .u8 n0] := h0
      have h1 : [v1] = [Value.int .u8 n1] := h1
      have h2 : [v2] = [Value.int .u8 n2] := h2
      simp only [List.cons.injEq, and_true] at hs h0 h1 h2
      subst hs h0 h1 h2
      refine ⟨(⟨n0, n1, n2⟩, s), ⟨⟨u8_ok k0, u8_ok k1, u8_ok k2⟩, rfl⟩, ?_⟩
      have e : s.data.toList.length = s.size := by rw [Array.length_toList]; rfl
      simp only [List.map_cons, List.map_nil, Rows.uptoBulk, Rows.uptoBulkAll]
      omega
theorem all2_map {n : Nat} {V : Nat → List Value} {y : Nat → Mon × ByteArray} (h : ∀ i, i < n → AT (V i) (y i)) : All2 AT ((List.range n).map V) ((List.range n).map y) := by
  induction n with
  | zero => trivial
  | succ n ih =>
    rw [List.range_succ, List.map_append, List.map_append]
    exact (ih fun i hi => h i (by omega)).append ⟨h n (by omega), trivial⟩
theorem open_terms {H : Type} {enc : TypeId × Value → H} {W : World} {fuel : Nat} {v : Value} {d : DataW H} {p : List MemPlace} (h : DataW.trod enc Go.Proofs.Tryz.prog W 0 (fun _ => true) true fuel 22 [v] = some (d, p)) :
    ∃ (s : Sl) (L : List (Mon × ByteArray)), v = s.v ∧ IsAPoly ⟨W, fun _ => False⟩ s L ∧ L.length ≤ Rows.uptoBulk d ∧ ∀ t ∈ L, t.2.size ≤ Rows.uptoBulk d := by
  rcases open_slice Go.Proofs.Tryz.underlying22 h with ⟨hcs, hx⟩ | ⟨a, len, cap, m, n, D, Pl, hcs, _, hl, hm, hmm, hx, hcell⟩
  · have hv : v = .slice none 0 0 := by simpa using hcs
    subst hv
    exact ⟨⟨none, 0, 0⟩, [], rfl, ⟨[], ⟨0, rfl, Nat.le_refl _, Nat.zero_le _, fun x h => by simp at h, .inl rfl⟩, trivial⟩, Nat.zero_le _, fun l h => by simp at h⟩
  · have hv : v = .slice (some a) len cap := by simpa using hcs
    subst hv
    simp only [if_true] at hmm
    subst hmm
    simp only [Prod.mk.injEq] at hx
    obtain ⟨rfl, _⟩ := hx
    rw [cells_term] at hcell
    obtain ⟨q, hq⟩ : ∃ q : Nat → List Value × (Mon × ByteArray), ∀ i, i < m → W.cells? 0 (a.add (i * 4)) 4 = some (q i).1 ∧ AT (q i).1 (q i).2 ∧ (q i).2.2.size ≤ Rows.uptoBulk (D i) := choose_lt (α := List Value × (Mon × ByteArray)) (p := fun i q => W.cells? 0 (a.add (i * 4)) 4 = some q.1 ∧ AT q.1 q.2 ∧ q.2.2.size ≤ Rows.uptoBulk (D i)) fun i hi => by
      obtain ⟨cs', h1, h2⟩ := hcell i hi
      obtain ⟨t, h3, h4⟩ := open_term h2
      exact ⟨(cs', t), h1, h3, h4⟩
    have hr := rowA_of_cellsN (W := W) (a := a) (n := len) (c := m) (sz := 4) (V := fun i => (q i).1) (fun j hj i v hv => by
      obtain ⟨_, hlen, hc⟩ := World.cells?_some (hq j (by omega)).1
      have hi : i < 4 := by have := (List.getElem?_eq_some_iff.1 hv).1; omega
      have := hc i hi
      rw [add_add] at this
      rw [this]; exact hv) (fun j hj => (World.cells?_some (hq j (by omega)).1).2.1) (by omega) hl hm (fun j hj u hu => by
      rw [(hq j (by omega)).2.1.2] at hu
      simp only [List.mem_cons, List.not_mem_nil, or_false] at hu
      rcases hu with rfl | rfl | rfl | rfl <;> rfl)
    have hbulk : ∀ i, i < len → Rows.uptoBulk (D i) ≤ Rows.uptoBulkAll ((List.range len).map D) := fun i hi => bulk_part (List.mem_map.2 ⟨i, List.mem_range.2 hi, rfl⟩)
    have hlen := bulk_length ((List.range len).map D)
    simp only [List.length_map, List.length_range] at hlen
    refine ⟨⟨some a, len, m⟩, (List.range len).map fun i => (q i).2, rfl, ⟨_, hr, all2_map fun i hi => (hq i (by omega)).2.1⟩, ?_, fun t ht => ?_⟩
    · simp only [List.length_map, List.length_range, Rows.uptoBulk]
      omega
    · obtain ⟨j, hj, rfl⟩ := List.mem_map.1 ht
      have hj' := List.mem_range.1 hj
      have h1 := hbulk j hj'
      have h2 := (hq j (by omega)).2.2
      simp only [Rows.uptoBulk]
      omega
end Go.Proofs.YtbingbjhgoanoaaGreat

/- cincturelaw8.PolyDiffs answers true for every input whose bulk is at most 1048576 (the second form), and its arguments read behind the call as they did ahead of it. -/
set_option maxRecDepth 100000
set_option linter.unusedVariables false
set_option linter.unusedSimpArgs false
namespace Go.Proofs.YtbingbjhgoanoaaGreat
open Go Go.SX Go.ChangeShapes Go.WideShapes Go.ChangeAt Go.RowKit Go.Deep
/-- What the walk gives, for every argument within the bound. -/
theorem contract (H : Type) (enc : TypeId × Value → H) (W : World) (base : Nat) (args : Array Value) (ds gs : List (DataW H)) (before : List MemPlace)
    (hval : ∀ (j : Nat) t v, Go.Proofs.Tryz.f6.params[j]? = some t → args[j]? = some v → Value.okWide Go.Proofs.Tryz.prog W .any base t v)
    (hW : DataW.Whole enc Go.Proofs.Tryz.prog Go.Proofs.Tryz.f6.params.toList Rows.polyDiffsSpec.vars false W args.toList ds gs before) (hk : Rows.uptoSmall H (ds ++ gs) = true) :
    Calls Go.Proofs.Tryz.prog 6 args W fun e W' => ∃ v, e = .returned v ∧ Rows.polyDiffsSpec.post enc Go.Proofs.Tryz.prog Go.Proofs.Tryz.f6 false true false false W args v W' := by
  have hW' := hW
  obtain ⟨p, q, hA0, hV, rfl, hfz, hnd⟩ := hW
  have hA : DataW.TrodAll enc Go.Proofs.Tryz.prog W 0 (fun _ => true) true Go.Proofs.Tryz.f6.params.toList args.toList ds p := hA0
  rw [Go.Proofs.Tryz.params6] at hA hval
  obtain ⟨v0, vs0, d0, ds0, p0, q0, hargs, rfl, rfl, h0, r0⟩ := trodAll_cons hA
  obtain ⟨v1, vs1, d1, ds1, p1, q1, rfl, rfl, rfl, h1, r1⟩ := trodAll_cons r0
  obtain ⟨rfl, rfl, rfl⟩ := trodAll_nil r1
  obtain rfl : args = #[v0, v1] := by cases args; simp_all
  obtain ⟨rfl, rfl⟩ := trodVars_none hV
  obtain ⟨a0, n0, c0, rfl⟩ := okWide_slice Go.Proofs.Tryz.underlying22 (hval 0 22 v0 rfl rfl)
  obtain ⟨z1, rfl⟩ := okWide_int Go.Proofs.Tryz.underlying3 (hval 1 3 v1 rfl rfl)
  clear hA0
  simp only [List.append_nil] at hW' hk
  have hlt : ∀ x ∈ p0 ++ p1, x.block < W.heap.size := fun x hx => by simpa using hW'.lt x (by simpa using hx)
  have hbulk : Rows.uptoBulkAll [d0, d1] ≤ 1048576 := of_decide_eq_true hk
  simp only [Rows.uptoBulkAll] at hbulk
  have h0k := h0
  obtain ⟨fuel0, hf0⟩ := h0
  have hf0' : DataW.trod enc Go.Proofs.Tryz.prog W 0 (fun _ => true) true fuel0 22 [.slice a0 n0 c0] = some (d0, p0) := by simpa [Value.cells] using hf0
  obtain ⟨s0, L0, hs0, hL0, hb0, hc0⟩ := open_terms hf0'
  have h1k := h1
  have hc := polyDiffs_ok (M := fun _ => False) (i := z1) hL0 (by omega) (fun t ht => by have := hc0 t ht; omega)
  have hcall := hc.2 (fun b h => h.elim)
  rw [hs0]
  refine hcall.mono fun e W' ⟨v, he, hkeep, hv, _⟩ => ⟨v, he, ?_⟩
  subst hv
  have hbel := hkeep.below
  refine ⟨[d0, d1], [], _, [], p0 ++ p1, [], (by rw [← hs0]; simpa using hW'), trodAll_mk1 (shut_bool Go.Proofs.Tryz.underlying4 _), (by rw [← hs0]; exact trodAll_mk2 (Below.trod laidOut (by kernel_rfl) (of_decide_eq_true (by kernel_rfl)) h0k hbel fun x hx => hlt x (List.mem_append_left _ hx)) (Below.trod laidOut (by kernel_rfl) (of_decide_eq_true (by kernel_rfl)) h1k hbel fun x hx => hlt x (List.mem_append_right _ hx))), rfl, hbel.frame _, fun h => by cases h⟩
theorem lifted (os : Os) (started : os.Started) (H : Type) (enc : TypeId × Value → H) (F : Stop.Interp) :
    ReturnsInHanded {} Go.Proofs.Tryz.checked os 6 .any ((Rows.OpenSpec.upto Rows.polyDiffsSpec).pre6 enc Go.Proofs.Tryz.prog Go.Proofs.Tryz.f6 Rows.polyDiffsUptoRow.domain false) (((Rows.OpenSpec.upto Rows.polyDiffsSpec).at F).post enc Go.Proofs.Tryz.prog Go.Proofs.Tryz.f6 false true false false) := by
  refine returnsInHanded_of_cond (C := Go.Proofs.Tryz.checked) (s := Rows.OpenSpec.upto Rows.polyDiffsSpec) (k := Rows.uptoSmall) rfl ownKnob_none started (by kernel_rfl) Go.Proofs.Tryz.func6
    (OpenSpec.witness (enc := enc) (C := Go.Proofs.Tryz.checked) (s := Rows.OpenSpec.upto Rows.polyDiffsSpec) (k := Rows.uptoSmall) rfl false ⟨#[], #[.slice none 0 0, .int .i64 0], []⟩ 8 (by kernel_rfl) (by kernel_rfl) (by kernel_rfl)
      (x := ([.nil, .lit (.int .i64 0)], [], [])) (by kernel_rfl) rfl (by kernel_rfl)) ?_
  intro W base args ds gs before hval hW _ hk _
  exact contract H enc W base args ds gs before hval hW hk
theorem polyDiffs_holds : Rows.PolyDiffsUptoSaid :=
  OpenClaim.holds_of_cond 6 Go.Proofs.Tryz.f6 rfl rfl rfl rfl rfl rfl rfl ⟨rfl, rfl, rfl, rfl, rfl⟩ rfl rfl rfl rfl rfl (by kernel_rfl) Go.Proofs.Tryz.func6 (by kernel_rfl)
    (of_decide_eq_true (by kernel_rfl)) (by unfold Func.isWrapper; first | (rw [if_pos (by decide +kernel)]; kernel_rfl) | (rw [if_neg (by decide +kernel)]; exact ⟨rfl, rfl⟩))
    (fun os started H enc _ F => lifted os started H enc F)
#print axioms polyDiffs_holds
end Go.Proofs.YtbingbjhgoanoaaGreat
