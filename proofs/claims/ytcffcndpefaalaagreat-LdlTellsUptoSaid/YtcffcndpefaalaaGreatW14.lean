/- mat.Plain, cinctureref1.MatPlain; cincturebook.SameTexts, SameRows; cincturelaw11.Is, cincturelaw10.Is. -/
import Derived.Test.YtcffcndpefaalaaGreatW13
set_option linter.unusedVariables false
set_option linter.unusedSimpArgs false
set_option maxRecDepth 100000
set_option linter.unusedVariables false
set_option linter.unusedSimpArgs false
namespace Go.Proofs.YtcffcndpefaalaaGreat
open Go Go.SX
theorem RQMs.mat {t tq ts : TypeId} {W : PW} {s : Sl} {Q : List (List Rat)} (h : IsRefMat t tq ts W s Q) : IsRMat t tq ts W s Q.length (qw Q) (qm Q) := by
  obtain ⟨ss, hr, h⟩ := h
  refine ⟨ss, hr, h.1, fun i hi => ?_⟩
  have hi' : i < Q.length := by have := h.1; omega
  obtain ⟨xs, h1, h2⟩ := h.2 i hi hi'
  have e : Q[i]?.getD [] = Q[i] := by rw [List.getElem?_eq_getElem hi']; rfl
  refine ⟨xs, h1, by unfold qw; rw [e]; exact h2.1, fun j hj => ?_⟩
  unfold qw at hj
  rw [e] at hj
  obtain ⟨b, a, c, k1, k2⟩ := h2.2 j hj
  refine ⟨a, b, c, k1, ?_⟩
  unfold qm
  rw [e, List.getElem?_eq_getElem hj]
  exact k2
/-- The texts of a matrix. -/
def plR (n : Nat) (f : Nat → Rat) : List ByteArray := (List.range n).map fun j => decQ (f j)
def plT (r : Nat) (c : Nat → Nat) (m : Nat → Nat → Rat) : List (List ByteArray) := (List.range r).map fun i => plR (c i) (m i)
theorem plR_len (n : Nat) (f : Nat → Rat) : (plR n f).length = n := by simp [plR]
theorem plT_len (r : Nat) (c : Nat → Nat) (m : Nat → Nat → Rat) : (plT r c m).length = r := by simp [plT]
theorem plR_snoc (n : Nat) (f : Nat → Rat) : tcel (plR n f) ++ [[.string (decQ (f n))]] = tcel (plR (n + 1) f) := by simp [plR, tcel, List.range_succ]
theorem plT_congr {r : Nat} {c c' : Nat → Nat} {m m' : Nat → Nat → Rat} (h : ∀ i, i < r → c i = c' i ∧ ∀ j, j < c i → m i j = m' i j) : plT r c m = plT r c' m' := by
  unfold plT
  refine List.map_congr_left fun i hi => ?_
  obtain ⟨h1, h2⟩ := h i (List.mem_range.1 hi)
  unfold plR
  rw [← h1]
  refine List.map_congr_left fun j hj => ?_
  rw [h2 j (List.mem_range.1 hj)]
def plI (W0 : PW) (r : Nat) (c : Nat → Nat) (m : Nat → Nat → Rat) (l : List PL) (W : PW) : Prop :=
  match l with
  | [.row l3, .val (.int .i64 i)] => Ext W0 W ∧ ∃ (k : Nat) (ss : List Sl), i = (k : Int) ∧ l3 = (ss.map fun x => [x.v]) ∧ ss.length = k ∧ k ≤ r ∧ ∀ i (h : i < ss.length), RowA W 1 ss[i] (tcel (plR (c i) (m i)))
  | _ => False
def plJ (W0 : PW) (n : Nat) (f : Nat → Rat) (l : List PL) (W : PW) : Prop :=
  match l with
  | [.row l3, .val (.int .i64 i)] => Ext W0 W ∧ ∃ (k : Nat), i = (k : Int) ∧ l3 = tcel (plR k f) ∧ k ≤ n
  | _ => False
theorem pl_snoc {W W' : PW} {ss : List Sl} {c : Nat → Nat} {m : Nat → Nat → Rat} {s : Sl} (h : ∀ i (h : i < ss.length), RowA W 1 ss[i] (tcel (plR (c i) (m i)))) (hE : Ext W W') (hs : RowA W' 1 s (tcel (plR (c ss.length) (m ss.length)))) :
    ∀ i (h : i < (ss ++ [s]).length), RowA W' 1 (ss ++ [s])[i] (tcel (plR (c i) (m i))) := by
  intro i hi
  by_cases e : i < ss.length
  · rw [List.getElem_append_left e]
    exact (h i e).ext hE
  · have : i = ss.length := by simp at hi; omega
    subst this
    rw [List.getElem_concat_length rfl]
    exact hs
theorem pl_tx {W W' : PW} {ss : List Sl} {r : Nat} {c : Nat → Nat} {m : Nat → Nat → Rat} {s : Sl} {t : TypeId} (h : ∀ i (h : i < ss.length), RowA W 1 ss[i] (tcel (plR (c i) (m i)))) (hl : ss.length = r) (hE : Ext W W') (hs : Row W' t 1 s (ss.map fun x => [x.v])) : IsTx W' s (plT r c m) :=
  ⟨ss, ⟨t, hs⟩, by rw [plT_len]; exact hl, fun i hi hi' => by simpa [plT] using (h i hi).ext hE⟩
theorem matPlain_ok {W0 : PW} {M : Nat → Prop} {k r : Nat} {s : Sl} {c : Nat → Nat} {m : Nat → Nat → Rat} (h : IsMat 107 52 31 W0 s r c m) (hr : r ≤ 1048576) (hc : ∀ i, i < r → c i ≤ 1048576) (hz : ∀ i j, i < r → j < c i → Sz k (m i j)) (hk : k ≤ 100000000) :
    PCallsM Go.Proofs.Tryz.prog 30 [s.v] W0 M fun v W' => ∃ (s' : Sl), v = Sl.v s' ∧ IsTx W' s' (plT r c m) := by
  apply callmat_Plain
  have hsn := h.n
  refine ⟨plI W0 r c m, cn2 r, ⟨Ext.refl _, 0, [], rfl, rfl, rfl, Nat.zero_le _, fun i h => by simp at h⟩, ?_⟩
  rintro l3 i4 W5 ⟨hE5, a, ss, rfl, rfl, hl, ha, hO⟩
  refine ⟨fun hlt => ?_, fun hge s20 W21 hE21 hO21 hf21 W22 hE22 => ⟨s20, rfl, ?_⟩⟩
  · have har : a < r := by omega
    obtain ⟨x, e1, e2⟩ := (h.ext hE5).at (i := a) har
    have hx := e2.n
    have hca := hc a har
    refine ⟨(h.ext hE5).inB (by omega) (by omega), x, e1, plJ W5 (c a) (m a), cn2 (c a), ⟨Ext.refl _, 0, rfl, rfl, Nat.zero_le _⟩, ?_⟩
    rintro l9 i10 W11 ⟨hE11, j, rfl, rfl, hj⟩
    have hpl := plR_len j (m a)
    have htl := tcel_length (plR j (m a))
    refine ⟨fun hlt2 => ?_, fun hge2 s18 W19 hE19 hO19 hf19 => ⟨by simp; omega, by unfold I64; omega, ⟨(hE5.trans hE11).trans hE19, a + 1, ss ++ [s18], by push_cast; rfl, by simp, by simp [hl], by omega, pl_snoc hO (hE11.trans hE19) ?_⟩, ?_⟩⟩
    · obtain ⟨p1, pb, p2, p3, p4⟩ := (e2.ext hE11).at (i := j) (by omega)
      refine ⟨(e2.ext hE11).inB (by omega) (by omega), p1, pb, p2, p3, ratText_call p4 (hz a j har (by omega)) hk fun W16 hE16 _ => ⟨_, rfl, by rw [htl, hpl]; simp only [List.length_cons, List.length_nil]; omega, by unfold I64; omega, ⟨hE11.trans hE16, j + 1, by push_cast; rfl, plR_snoc j (m a), by omega⟩, ?_⟩⟩
      show c a - Int.toNat ((j : Int) + 1) < c a - Int.toNat (j : Int)
      omega
    · have : j = c a := by omega
      subst this
      rw [hl]
      exact ⟨_, hO19.row⟩
    · show r - Int.toNat ((a : Int) + 1) < r - Int.toNat (a : Int)
      omega
  · exact (pl_tx hO (by omega) hE21 hO21.row).ext hE22
theorem matPlain_call {W0 W : PW} {M : Nat → Prop} {k r : Nat} {s : Sl} {c : Nat → Nat} {m : Nat → Nat → Rat} {K : Value → PW → Prop} (h : IsMat 107 52 31 W s r c m) (hr : r ≤ 1048576) (hc : ∀ i, i < r → c i ≤ 1048576) (hz : ∀ i j, i < r → j < c i → Sz k (m i j)) (hk : k ≤ 100000000) (kont : ∀ (s' : Sl) (W' : PW), Ext W W' → (IsTx W' s' (plT r c m)) → K (Sl.v s') W') :
    callN Go.Proofs.Tryz.prog W0 M 30 [s.v] W K :=
  callN_of (fun W' hE => matPlain_ok (M := fun _ => False) (h.ext hE) hr hc hz hk) (fun W' v W'' hE hE' hP => by
    obtain ⟨s', rfl, h⟩ := hP
    exact kont s' W'' (hE.trans hE') h)
theorem refMPlain_ok {W0 : PW} {M : Nat → Prop} {k r : Nat} {s : Sl} {c : Nat → Nat} {m : Nat → Nat → Rat} (h : IsRMat 107 58 34 W0 s r c m) (hr : r ≤ 1048576) (hc : ∀ i, i < r → c i ≤ 1048576) (hz : ∀ i j, i < r → j < c i → Sz k (m i j)) (hk : k ≤ 100000000) :
    PCallsM Go.Proofs.Tryz.prog 31 [s.v] W0 M fun v W' => ∃ (s' : Sl), v = Sl.v s' ∧ IsTx W' s' (plT r c m) := by
  apply callref1_MatPlain
  have hsn := h.n
  refine ⟨plI W0 r c m, cn2 r, ⟨Ext.refl _, 0, [], rfl, rfl, rfl, Nat.zero_le _, fun i h => by simp at h⟩, ?_⟩
  rintro l3 i4 W5 ⟨hE5, a, ss, rfl, rfl, hl, ha, hO⟩
  refine ⟨fun hlt => ?_, fun hge s20 W21 hE21 hO21 hf21 W22 hE22 => ⟨s20, rfl, ?_⟩⟩
  · have har : a < r := by omega
    have hca := hc a har
    refine ⟨plJ W5 (c a) (m a), cn2 (c a), ⟨Ext.refl _, 0, rfl, rfl, Nat.zero_le _⟩, ?_⟩
    rintro l9 i10 W11 ⟨hE11, j, rfl, rfl, hj⟩
    have h11 := h.ext (hE5.trans hE11)
    obtain ⟨x, e1, e2⟩ := h11.at (i := a) har
    have hx := e2.n
    have hpl := plR_len j (m a)
    have htl := tcel_length (plR j (m a))
    have hib := h11.inB (i := (a : Int)) (by omega) (by omega)
    refine ⟨hib, x, e1, fun hlt2 => ?_, fun hge2 s18 W19 hE19 hO19 hf19 => ⟨by simp; omega, by unfold I64; omega, ⟨(hE5.trans hE11).trans hE19, a + 1, ss ++ [s18], by push_cast; rfl, by simp, by simp [hl], by omega, pl_snoc hO (hE11.trans hE19) ?_⟩, ?_⟩⟩
    · obtain ⟨p1, pb, p2, p3, p4⟩ := e2.at (i := j) (by omega)
      refine ⟨hib, x, e1, e2.inB (by omega) (by omega), pb, p1, p2, p3, refQText_call p4 (hz a j har (by omega)) hk fun W16 hE16 _ => ⟨_, rfl, by rw [htl, hpl]; simp only [List.length_cons, List.length_nil]; omega, by unfold I64; omega, ⟨hE11.trans hE16, j + 1, by push_cast; rfl, plR_snoc j (m a), by omega⟩, ?_⟩⟩
      show c a - Int.toNat ((j : Int) + 1) < c a - Int.toNat (j : Int)
      omega
    · have : j = c a := by omega
      subst this
      rw [hl]
      exact ⟨_, hO19.row⟩
    · show r - Int.toNat ((a : Int) + 1) < r - Int.toNat (a : Int)
      omega
  · exact (pl_tx hO (by omega) hE21 hO21.row).ext hE22
theorem refMPlain_call {W0 W : PW} {M : Nat → Prop} {k r : Nat} {s : Sl} {c : Nat → Nat} {m : Nat → Nat → Rat} {K : Value → PW → Prop} (h : IsRMat 107 58 34 W s r c m) (hr : r ≤ 1048576) (hc : ∀ i, i < r → c i ≤ 1048576) (hz : ∀ i j, i < r → j < c i → Sz k (m i j)) (hk : k ≤ 100000000) (kont : ∀ (s' : Sl) (W' : PW), Ext W W' → (IsTx W' s' (plT r c m)) → K (Sl.v s') W') :
    callN Go.Proofs.Tryz.prog W0 M 31 [s.v] W K :=
  callN_of (fun W' hE => refMPlain_ok (M := fun _ => False) (h.ext hE) hr hc hz hk) (fun W' v W'' hE hE' hP => by
    obtain ⟨s', rfl, h⟩ := hP
    exact kont s' W'' (hE.trans hE') h)
theorem bookTexts_ok {W0 : PW} {M : Nat → Prop} {s t : Sl} {l l' : List ByteArray} (h1 : RowA W0 1 s (tcel l)) (h2 : RowA W0 1 t (tcel l')) (hl : l.length ≤ 1099511627776) :
    PCallsM Go.Proofs.Tryz.prog 60 [s.v, t.v] W0 M fun v W' => v = .bool (decide (l = l')) ∧ True := by
  apply callbook_SameTexts
  have n1 := h1.nt
  have n2 := h2.nt
  refine ⟨fun hne W1 _ => ⟨?_, trivial⟩, fun heq => ?_⟩
  · rw [decide_eq_false fun e => hne (by rw [n1, n2, e])]
  refine ⟨fun l2 W => match l2 with | [.val (.int .i64 i)] => Ext W0 W ∧ ∃ k : Nat, i = (k : Int) ∧ k ≤ l.length ∧ ∀ j, j < k → l[j]? = l'[j]? | _ => False, cn1 l.length, ⟨Ext.refl _, 0, rfl, Nat.zero_le _, fun j h => by omega⟩, ?_⟩
  rintro i4 W5 ⟨hE, k, rfl, hk, hj⟩
  refine ⟨fun hlt => ?_, fun hge W9 _ => ⟨?_, trivial⟩⟩
  · have hkl : k < l.length := by omega
    have hkl' : k < l'.length := by omega
    refine ⟨(h1.ext hE).inBt (by omega) (by omega), l[k], (h1.ext hE).text hkl, (h2.ext hE).inBt (by omega) (by omega), l'[k], (h2.ext hE).text hkl', fun hne W8 _ => ⟨?_, trivial⟩, fun he => ⟨by unfold I64; omega, ⟨hE, k + 1, by push_cast; rfl, by omega, fun j h => ?_⟩, ?_⟩⟩
    · rw [decide_eq_false]
      rintro rfl
      exact hne rfl
    · by_cases e : j = k
      · subst e
        rw [List.getElem?_eq_getElem hkl, List.getElem?_eq_getElem hkl', Classical.not_not.1 he]
      · exact hj j (by omega)
    · show l.length - Int.toNat ((k : Int) + 1) < l.length - Int.toNat (k : Int)
      omega
  · have : l = l' := by
      apply List.ext_getElem?
      intro j
      by_cases h : j < l.length
      · exact hj j (by omega)
      · rw [List.getElem?_eq_none (by omega), List.getElem?_eq_none (by omega)]
    rw [decide_eq_true this]
theorem bookTexts_call {W0 W : PW} {M : Nat → Prop} {s t : Sl} {l l' : List ByteArray} {K : Value → PW → Prop} (h1 : RowA W 1 s (tcel l)) (h2 : RowA W 1 t (tcel l')) (hl : l.length ≤ 1099511627776) (kont : ∀  (W' : PW), Ext W W' → (True) → K (.bool (decide (l = l'))) W') :
    callN Go.Proofs.Tryz.prog W0 M 60 [s.v, t.v] W K :=
  callN_of (fun W' hE => bookTexts_ok (M := fun _ => False) (h1.ext hE) (h2.ext hE) hl) (fun W' v W'' hE hE' hP => by
    obtain ⟨rfl, h⟩ := hP
    exact kont  W'' (hE.trans hE') h)
theorem bookRows_ok {W0 : PW} {M : Nat → Prop} {s t : Sl} {T T' : List (List ByteArray)} (h1 : IsTx W0 s T) (h2 : IsTx W0 t T') (hT : T.length ≤ 1099511627776) (hl : ∀ l ∈ T, l.length ≤ 1099511627776) :
    PCallsM Go.Proofs.Tryz.prog 29 [s.v, t.v] W0 M fun v W' => v = .bool (decide (T = T')) ∧ True := by
  apply callbook_SameRows
  have n1 := h1.n
  have n2 := h2.n
  refine ⟨fun hne W1 _ => ⟨?_, trivial⟩, fun heq => ?_⟩
  · rw [decide_eq_false fun e => hne (by rw [n1, n2, e])]
  refine ⟨fun l2 W => match l2 with | [.val (.int .i64 i)] => Ext W0 W ∧ ∃ k : Nat, i = (k : Int) ∧ k ≤ T.length ∧ ∀ j, j < k → T[j]? = T'[j]? | _ => False, cn1 T.length, ⟨Ext.refl _, 0, rfl, Nat.zero_le _, fun j h => by omega⟩, ?_⟩
  rintro i4 W5 ⟨hE, k, rfl, hk, hj⟩
  refine ⟨fun hlt => ?_, fun hge W9 _ => ⟨?_, trivial⟩⟩
  · have hkl : k < T.length := by omega
    have hkl' : k < T'.length := by omega
    obtain ⟨x, x1, x2⟩ := (h1.ext hE).at hkl
    obtain ⟨y, y1, y2⟩ := (h2.ext hE).at hkl'
    refine ⟨(h1.ext hE).inB (by omega) (by omega), x, x1, (h2.ext hE).inB (by omega) (by omega), y, y1, bookTexts_call x2 y2 (hl _ (List.getElem_mem hkl)) fun W9 hE9 _ => ⟨_, rfl, fun hne W8 _ => ⟨?_, trivial⟩, fun he => ⟨by unfold I64; omega, ⟨hE.trans hE9, k + 1, by push_cast; rfl, by omega, fun j h => ?_⟩, ?_⟩⟩⟩
    · rw [decide_eq_false]
      rintro rfl
      simp at hne
    · by_cases e : j = k
      · subst e
        have he' : T[j] = T'[j] := by simpa using he
        rw [List.getElem?_eq_getElem hkl, List.getElem?_eq_getElem hkl', he']
      · exact hj j (by omega)
    · show T.length - Int.toNat ((k : Int) + 1) < T.length - Int.toNat (k : Int)
      omega
  · have : T = T' := by
      apply List.ext_getElem?
      intro j
      by_cases h : j < T.length
      · exact hj j (by omega)
      · rw [List.getElem?_eq_none (by omega), List.getElem?_eq_none (by omega)]
    rw [decide_eq_true this]
theorem bookRows_call {W0 W : PW} {M : Nat → Prop} {s t : Sl} {T T' : List (List ByteArray)} {K : Value → PW → Prop} (h1 : IsTx W s T) (h2 : IsTx W t T') (hT : T.length ≤ 1099511627776) (hl : ∀ l ∈ T, l.length ≤ 1099511627776) (kont : ∀  (W' : PW), Ext W W' → (True) → K (.bool (decide (T = T'))) W') :
    callN Go.Proofs.Tryz.prog W0 M 29 [s.v, t.v] W K :=
  callN_of (fun W' hE => bookRows_ok (M := fun _ => False) (h1.ext hE) (h2.ext hE) hT hl) (fun W' v W'' hE hE' hP => by
    obtain ⟨rfl, h⟩ := hP
    exact kont  W'' (hE.trans hE') h)
theorem law11Is_ok {W0 : PW} {M : Nat → Prop} {k r : Nat} {s t : Sl} {c c' : Nat → Nat} {m m' : Nat → Nat → Rat} (h1 : IsMat 107 52 31 W0 s r c m) (h2 : IsRMat 107 58 34 W0 t r c' m') (hr : r ≤ 1048576) (hc : ∀ i, i < r → c i ≤ 1048576) (hz : ∀ i j, i < r → j < c i → Sz k (m i j)) (hk : k ≤ 100000000) (he : ∀ i, i < r → c i = c' i ∧ ∀ j, j < c i → m i j = m' i j) :
    PCallsM Go.Proofs.Tryz.prog 9 [s.v, t.v] W0 M fun v W' => v = .bool true ∧ True := by
  apply calllaw11_Is
  refine matPlain_call h1 hr hc hz hk fun s3 W2 hE2 h3 => ⟨s3, rfl, refMPlain_call (h2.ext hE2) hr (fun i hi => by rw [← (he i hi).1]; exact hc i hi) (fun i j hi hj => by rw [← (he i hi).1] at hj; rw [← (he i hi).2 j hj]; exact hz i j hi hj) hk fun s6 W5 hE5 h6 => ⟨s6, rfl, bookRows_call (h3.ext hE5) h6 (by rw [plT_len]; omega) (fun l hl => ?_) fun W8 hE8 _ => ⟨_, rfl, fun W10 _ => ⟨?_, trivial⟩⟩⟩⟩
  · obtain ⟨i, hi, rfl⟩ := List.mem_map.1 hl
    rw [plR_len]
    have := hc i (List.mem_range.1 hi)
    omega
  · rw [decide_eq_true (plT_congr he)]
theorem law11Is_call {W0 W : PW} {M : Nat → Prop} {k r : Nat} {s t : Sl} {c c' : Nat → Nat} {m m' : Nat → Nat → Rat} {K : Value → PW → Prop} (h1 : IsMat 107 52 31 W s r c m) (h2 : IsRMat 107 58 34 W t r c' m') (hr : r ≤ 1048576) (hc : ∀ i, i < r → c i ≤ 1048576) (hz : ∀ i j, i < r → j < c i → Sz k (m i j)) (hk : k ≤ 100000000) (he : ∀ i, i < r → c i = c' i ∧ ∀ j, j < c i → m i j = m' i j) (kont : ∀  (W' : PW), Ext W W' → (True) → K (.bool true) W') :
    callN Go.Proofs.Tryz.prog W0 M 9 [s.v, t.v] W K :=
  callN_of (fun W' hE => law11Is_ok (M := fun _ => False) (h1.ext hE) (h2.ext hE) hr hc hz hk he) (fun W' v W'' hE hE' hP => by
    obtain ⟨rfl, h⟩ := hP
    exact kont  W'' (hE.trans hE') h)
theorem law10Is_ok {W0 : PW} {M : Nat → Prop} {k n : Nat} {s t : Sl} {f g : Nat → Rat} (h1 : IsQs 107 52 W0 s n f) (h2 : IsRQs 107 58 W0 t n g) (hn : n ≤ 1048576) (hz : ∀ i, i < n → Sz k (f i)) (hk : k ≤ 100000000) (he : ∀ i, i < n → f i = g i) :
    PCallsM Go.Proofs.Tryz.prog 10 [s.v, t.v] W0 M fun v W' => v = .bool true ∧ True := by
  apply calllaw10_Is
  have n1 := h1.n
  have n2 := h2.n
  refine ⟨fun hne => absurd (by rw [n1, n2]) hne, fun _ => ⟨fun l2 W => match l2 with | [.val (.int .i64 i)] => Ext W0 W ∧ ∃ k : Nat, i = (k : Int) ∧ k ≤ n | _ => False, cn1 n, ⟨Ext.refl _, 0, rfl, Nat.zero_le _⟩, ?_⟩⟩
  rintro i4 W5 ⟨hE, k, rfl, hk⟩
  refine ⟨fun hlt => ?_, fun hge W16 _ => ⟨rfl, trivial⟩⟩
  have hkn : k < n := by omega
  obtain ⟨p1, pb, p2, p3, p4⟩ := (h1.ext hE).at hkn
  obtain ⟨q1, qb, q2, q3, q4⟩ := (h2.ext hE).at hkn
  refine ⟨(h1.ext hE).inB (by omega) (by omega), p1, pb, p2, p3, (h2.ext hE).inB (by omega) (by omega), qb, q1, q2, q3, law3Is_call p4 q4 (hz k hkn) (by rw [← he k hkn]; exact hz k hkn) (by assumption) fun W13 hE13 _ => ⟨_, rfl, fun hne => ?_, fun _ => ⟨by unfold I64; omega, ⟨hE.trans hE13, k + 1, by push_cast; rfl, by omega⟩, ?_⟩⟩⟩
  · rw [he k hkn] at hne
    simp at hne
  · show n - Int.toNat ((k : Int) + 1) < n - Int.toNat (k : Int)
    omega
theorem law10Is_call {W0 W : PW} {M : Nat → Prop} {k n : Nat} {s t : Sl} {f g : Nat → Rat} {K : Value → PW → Prop} (h1 : IsQs 107 52 W s n f) (h2 : IsRQs 107 58 W t n g) (hn : n ≤ 1048576) (hz : ∀ i, i < n → Sz k (f i)) (hk : k ≤ 100000000) (he : ∀ i, i < n → f i = g i) (kont : ∀  (W' : PW), Ext W W' → (True) → K (.bool true) W') :
    callN Go.Proofs.Tryz.prog W0 M 10 [s.v, t.v] W K :=
  callN_of (fun W' hE => law10Is_ok (M := fun _ => False) (h1.ext hE) (h2.ext hE) hn hz hk he) (fun W' v W'' hE hE' hP => by
    obtain ⟨rfl, h⟩ := hP
    exact kont  W'' (hE.trans hE') h)
theorem noParts_not {r : Nat} {c : Nat → Nat} {m L : Nat → Nat → Rat} {D : Nat → Rat} (hS : SymP r c m) (hP : Parts m L D r r) : ¬ NoParts r c m := by
  rintro (h | ⟨L', D', k, j, hP', hk, h0, hkj, hjr, hne⟩)
  · exact h hS
  · have hu := Parts.unique (c := k) (by omega) (hP.less (by omega)) hP'
    have hl : ∀ i, i < r → leftF m L D i k = leftF m L' D' i k := fun i hi => leftF_congr fun t ht => ⟨(hu t ht).2 i hi, (hu t ht).2 k (by omega), (hu t ht).1⟩
    have hd : D k = 0 := by rw [hP.diag k (by omega), hl k (by omega), ← hk, h0]
    exact hne (by rw [← hl j hjr]; exact (hP.low j k (by omega) hkj hjr).2 hd)
theorem cmpQ_neg {q : Rat} : cmpQ q 0 < 0 ↔ ¬ 0 ≤ q := by
  unfold cmpQ
  rw [Rat.not_le]
  split
  · simp [*]
  · split <;> simp_all
theorem ldlSemi_ok {W0 : PW} {M : Nat → Prop} {s : Sl} {r : Nat} {c : Nat → Nat} {m : Nat → Nat → Rat} (h : IsMat 107 52 31 W0 s r c m) (hr : r ≤ 5) (hz : ∀ i j, i < r → j < c i → Sz 3 (m i j)) :
    PCallsM Go.Proofs.Tryz.prog 11 [s.v] W0 M fun v W' => ∃ (b : Bool), v = .bool b ∧ (b = true ↔ ∃ (L : Nat → Nat → Rat) (D : Nat → Rat), SymP r c m ∧ Parts m L D r r ∧ ∀ j, j < r → 0 ≤ D j) := by
  apply callldl_Semi
  refine ldlOf_call h hr hz fun u d b W2 hE2 ⟨hbf, hbt⟩ => ⟨u, d, b, rfl, ?_⟩
  cases b with
  | false =>
    obtain ⟨_, rfl, hN⟩ := hbf rfl
    refine ⟨fun l2 W => match l2 with | [.val (.int .i64 i)] => i = 0 | _ => False, fun _ _ => 0, rfl, ?_⟩
    rintro i8 W9 rfl
    exact ⟨fun h => absurd h (by decide), fun _ W17 _ => ⟨false, rfl, fun h => (by cases h), fun ⟨L, D, hS, hP, _⟩ => absurd hN (noParts_not hS hP)⟩⟩
  | true =>
    obtain ⟨hS, L, D, _, hd, hP, hsz⟩ := hbt rfl
    have hub := (Ub_le r hr).1
    have hdn := hd.n
    refine ⟨fun l2 W => match l2 with | [.val (.int .i64 i)] => Ext W2 W ∧ ∃ k : Nat, i = (k : Int) ∧ k ≤ r ∧ ∀ j, j < k → 0 ≤ D j | _ => False, cn1 r, ⟨Ext.refl _, 0, rfl, Nat.zero_le _, fun j h => by omega⟩, ?_⟩
    rintro i8 W9 ⟨hE, k, rfl, hk, hj⟩
    refine ⟨fun hlt => ?_, fun hge W17 _ => ⟨true, rfl, fun _ => ⟨L, D, hS, hP, fun j h => hj j (by omega)⟩, fun _ => rfl⟩⟩
    have hkr : k < r := by omega
    obtain ⟨p1, pb, p2, p3, p4⟩ := (hd.ext hE).at hkr
    refine ⟨(hd.ext hE).inB (by omega) (by omega), p1, pb, p2, p3, ratSign_call p4 (hsz.2 k hkr) (by omega) fun W14 hE14 _ => ⟨_, rfl, fun hneg W16 _ => ⟨false, rfl, fun h => (by cases h), fun ⟨L', D', _, hP', hD'⟩ => ?_⟩, fun hpos => ⟨by unfold I64; omega, ⟨hE.trans hE14, k + 1, by push_cast; rfl, by omega, fun j h => ?_⟩, ?_⟩⟩⟩
    · have h1 := (Parts.unique (Nat.le_refl _) hP hP' k hkr).1
      have h2 := hD' k hkr
      rw [← h1] at h2
      exact absurd h2 (cmpQ_neg.1 hneg)
    · by_cases e : j = k
      · subst e; exact Rat.not_lt.1 fun h => hpos (cmpQ_neg.2 (Rat.not_le.2 h))
      · exact hj j (by omega)
    · show r - Int.toNat ((k : Int) + 1) < r - Int.toNat (k : Int)
      omega
theorem ldlSemi_call {W0 W : PW} {M : Nat → Prop} {s : Sl} {r : Nat} {c : Nat → Nat} {m : Nat → Nat → Rat} {K : Value → PW → Prop} (h : IsMat 107 52 31 W s r c m) (hr : r ≤ 5) (hz : ∀ i j, i < r → j < c i → Sz 3 (m i j)) (kont : ∀ (b : Bool) (W' : PW), Ext W W' → ((b = true ↔ ∃ (L : Nat → Nat → Rat) (D : Nat → Rat), SymP r c m ∧ Parts m L D r r ∧ ∀ j, j < r → 0 ≤ D j)) → K (.bool b) W') :
    callN Go.Proofs.Tryz.prog W0 M 11 [s.v] W K :=
  callN_of (fun W' hE => ldlSemi_ok (M := fun _ => False) (h.ext hE) hr hz) (fun W' v W'' hE hE' hP => by
    obtain ⟨b, rfl, h⟩ := hP
    exact kont b W'' (hE.trans hE') h)
theorem refSemi_ok {W0 : PW} {M : Nat → Prop} {s : Sl} {r : Nat} {c : Nat → Nat} {m : Nat → Nat → Rat} (h : IsRMat 107 58 34 W0 s r c m) (hr : r ≤ 5) (hz : ∀ i j, i < r → j < c i → Sz 3 (m i j)) :
    PCallsM Go.Proofs.Tryz.prog 12 [s.v] W0 M fun v W' => ∃ (b : Bool), v = .bool b ∧ (b = true ↔ ∃ (L : Nat → Nat → Rat) (D : Nat → Rat), SymP r c m ∧ Parts m L D r r ∧ ∀ j, j < r → 0 ≤ D j) := by
  apply callref1_Semi
  refine refLdl_call h hr hz fun u d b W2 hE2 ⟨hbf, hbt⟩ => ⟨u, d, b, rfl, ?_⟩
  cases b with
  | false =>
    obtain ⟨_, rfl, hN⟩ := hbf rfl
    refine ⟨fun l2 W => match l2 with | [.val (.bool b), .val (.int .i64 i)] => i = 0 ∧ b = false | _ => False, fun _ _ => 0, ⟨rfl, rfl⟩, ?_⟩
    rintro b8 i9 W10 ⟨rfl, rfl⟩
    exact ⟨fun h => absurd h (by decide), fun _ W17 _ => ⟨false, rfl, fun h => (by cases h), fun ⟨L, D, hS, hP, _⟩ => absurd hN (noParts_not hS hP)⟩⟩
  | true =>
    obtain ⟨hS, L, D, _, hd, hP, hsz⟩ := hbt rfl
    have hdn := hd.n
    have other : ∀ k, k < r → ¬ 0 ≤ D k → ∃ b : Bool, (Value.bool false) = .bool b ∧ (b = true ↔ ∃ (L : Nat → Nat → Rat) (D : Nat → Rat), SymP r c m ∧ Parts m L D r r ∧ ∀ j, j < r → 0 ≤ D j) := fun k hk hn => ⟨false, rfl, fun h => (by cases h), fun ⟨L', D', _, hP', hD'⟩ => absurd (by rw [(Parts.unique (Nat.le_refl _) hP hP' k hk).1]; exact hD' k hk) hn⟩
    refine ⟨fun l2 W => match l2 with | [.val (.bool b), .val (.int .i64 i)] => Ext W2 W ∧ ∃ k : Nat, i = (k : Int) ∧ k ≤ r ∧ (b = true → ∀ j, j < k → 0 ≤ D j) ∧ (b = false → ∃ j, j < r ∧ ¬ 0 ≤ D j) | _ => False, fun l _ => match l with | [_, .val (.int .i64 i)] => r - i.toNat | _ => 0, ⟨Ext.refl _, 0, rfl, Nat.zero_le _, fun _ j h => by omega, fun h => by cases h⟩, ?_⟩
    rintro b8 i9 W10 ⟨hE, k, rfl, hk, hj, hj'⟩
    refine ⟨fun hlt => ⟨fun hb => ?_, fun hb W16 _ => ?_⟩, fun hge W17 _ => ?_⟩
    · have hkr : k < r := by omega
      obtain ⟨p1, pb, p2, p3, p4⟩ := (hd.ext hE).at hkr
      refine ⟨(hd.ext hE).inB (by omega) (by omega), pb, p1, ElemAt.pre2 p3, refSign_call p4.1 fun W14 hE14 _ => ⟨_, rfl, by unfold I64; omega, ⟨hE.trans hE14, k + 1, by push_cast; rfl, by omega, fun hp j h => ?_, fun hn => ⟨k, hkr, fun h => ?_⟩⟩, ?_⟩⟩
      · by_cases e : j = k
        · subst e
          have := of_decide_eq_true hp
          rw [sgnI_num] at this
          exact Rat.not_lt.1 fun h => absurd (cmpQ_neg.2 (Rat.not_le.2 h)) (by omega)
        · exact hj hb j (by omega)
      · have := of_decide_eq_false hn
        rw [sgnI_num] at this
        exact absurd h (cmpQ_neg.1 (by omega))
      · show r - Int.toNat ((k : Int) + 1) < r - Int.toNat (k : Int)
        omega
    · obtain ⟨j, h1, h2⟩ := hj' hb
      rw [hb]
      exact other j h1 h2
    · cases b8 with
      | false =>
        obtain ⟨j, h1, h2⟩ := hj' rfl
        exact other j h1 h2
      | true => exact ⟨true, rfl, fun _ => ⟨L, D, hS, hP, fun j h => hj rfl j (by omega)⟩, fun _ => rfl⟩
theorem refSemi_call {W0 W : PW} {M : Nat → Prop} {s : Sl} {r : Nat} {c : Nat → Nat} {m : Nat → Nat → Rat} {K : Value → PW → Prop} (h : IsRMat 107 58 34 W s r c m) (hr : r ≤ 5) (hz : ∀ i j, i < r → j < c i → Sz 3 (m i j)) (kont : ∀ (b : Bool) (W' : PW), Ext W W' → ((b = true ↔ ∃ (L : Nat → Nat → Rat) (D : Nat → Rat), SymP r c m ∧ Parts m L D r r ∧ ∀ j, j < r → 0 ≤ D j)) → K (.bool b) W') :
    callN Go.Proofs.Tryz.prog W0 M 12 [s.v] W K :=
  callN_of (fun W' hE => refSemi_ok (M := fun _ => False) (h.ext hE) hr hz) (fun W' v W'' hE hE' hP => by
    obtain ⟨b, rfl, h⟩ := hP
    exact kont b W'' (hE.trans hE') h)
end Go.Proofs.YtcffcndpefaalaaGreat

/- cincturelaw14.even. -/
set_option maxRecDepth 100000
set_option linter.unusedVariables false
set_option linter.unusedSimpArgs false
namespace Go.Proofs.YtcffcndpefaalaaGreat
open Go Go.SX
def TB (T : List (List ByteArray)) : Prop := ∀ l ∈ T, ∀ t ∈ l, t.size ≤ 1099511627776
theorem TB.txt {T : List (List ByteArray)} (h : TB T) (i j : Nat) : (txt T i j).size ≤ 1099511627776 := by
  unfold Go.Proofs.YtcffcndpefaalaaGreat.txt
  cases e : T[i]? with
  | none => exact Nat.zero_le _
  | some l =>
    show (l[j]?.getD ⟨⟨[]⟩⟩).size ≤ _
    cases e2 : l[j]? with
    | none => exact Nat.zero_le _
    | some t => exact h l (List.mem_of_getElem? e) t (List.mem_of_getElem? e2)
def evI (W0 : PW) (n : Nat) (l : List PL) (W : PW) : Prop :=
  match l with
  | [.row l3, .val (.int .i64 i)] => ExtN W0.w.heap.size W0 W ∧ ∃ (ss : List Sl) (T' : List (List ByteArray)), l3 = (ss.map fun x => [x.v]) ∧ i = (T'.length : Int) ∧ T'.length ≤ n ∧ OTab 9 (W0.w.heap.size ≤ ·) W ss T' ∧ TB T'
  | _ => False
def evI2 (W0 : PW) (k : Nat) (S : List Sl) (l : List PL) (W : PW) : Prop :=
  match l with
  | [.val (.int .i64 i)] => ExtN W0.w.heap.size W0 W ∧ ∃ (T' : List (List ByteArray)) (j : Nat), i = (j : Int) ∧ j ≤ k ∧ T'.length = k + 1 ∧ OTab 9 (W0.w.heap.size ≤ ·) W S T' ∧ TB T'
  | _ => False
def evM (n : Nat) (l : List PL) (W : PW) : Nat :=
  match l with
  | [_, .val (.int .i64 i)] => n - i.toNat
  | [.val (.int .i64 i)] => n - i.toNat
  | _ => 0
theorem lawEven_ok {W0 : PW} {M : Nat → Prop} {s : Sl} {T : List (List ByteArray)} (h : IsTx W0 s T) (hl : T.length ≤ 1099511627776) (hw : ∀ l ∈ T, l.length ≤ 1099511627776) (hb : TB T) :
    PCallsM Go.Proofs.Tryz.prog 5 [s.v] W0 M fun v W' => ∃ (s' : Sl), ∃ (T' : List (List ByteArray)), v = Sl.v s' ∧ IsTx W' s' T' ∧ TB T' := by
  apply calllaw14_even
  have hn := h.n
  refine ⟨evI W0 T.length, evM T.length, ⟨ExtM.refl _ _, [], [], rfl, rfl, Nat.zero_le _, ⟨rfl, fun i h => by simp at h, fun i j h => by simp at h⟩, fun l h => by simp at h⟩, ?_⟩
  rintro l3 i4 W5 ⟨hE5, ss, T', rfl, rfl, hTn, hO, hTB⟩
  have h5 := h.new hE5 (Nat.le_refl _)
  refine ⟨fun hlt => ?_, fun hge s34 W35 hE35 hO35 hf35 W37 hE37 => ⟨s34, T', rfl, ⟨ss, ⟨_, (hO35.ext hE37).row⟩, hO.1, fun i hi hi' => ⟨_, (((hO.2.1 i hi hi').1.ext hE35).ext hE37).row⟩⟩, hTB⟩⟩
  have hk : T'.length < T.length := by omega
  obtain ⟨k, hk'⟩ : ∃ k, T'.length = k := ⟨_, rfl⟩
  rw [hk'] at hk ⊢
  obtain ⟨x, e1, e2⟩ := h5.at (i := k) hk
  have hwk := hw T[k] (List.getElem_mem hk)
  refine ⟨h5.inB (by omega) (by omega), x, e1, tcel T[k], e2, by rw [tcel_length]; omega, fun s8 W9 hE9 hO9 hf9 => ?_⟩
  have hsl := hO.1
  have eS : (ss.map fun x => [x.v]) ++ [[s8.v]] = ((ss ++ [s8]).map fun x => [x.v]) := by simp
  obtain ⟨S, hS⟩ : ∃ S, ss ++ [s8] = S := ⟨_, rfl⟩
  have hSl : S.length = k + 1 := by rw [← hS]; simp; omega
  rw [eS, hS]
  have hO2 := hO.snoc hE9 hO9 fun g hg => hf9 g hg
  rw [hS] at hO2
  refine ⟨by rw [List.length_map]; simp only [List.length_cons, List.length_nil]; omega, evI2 W0 k S, evM k, ⟨hE5.trans (hE9.toM _), _, 0, rfl, Nat.zero_le _, by simp; omega, hO2, fun l hl => ?_⟩, ?_⟩
  · rcases List.mem_append.1 hl with h | h
    · exact hTB l h
    · rw [List.mem_singleton.1 h]
      exact hb T[k] (List.getElem_mem hk)
  rintro i13 W14 ⟨hE14, T2, j, rfl, hj, hT2, h14, hB14⟩
  have own : ∀ i (hi : i < k + 1), OwnAt (S.map fun x => [x.v]) i 0 [Sl.v (S[i]'(by omega))] := fun i hi => ⟨[Sl.v (S[i]'(by omega))], by simp [List.getElem?_eq_getElem (show i < S.length by omega)], rfl⟩
  have hSm : (S.map fun x => [x.v]).length = k + 1 := by rw [List.length_map]; exact hSl
  have next : I64 ((k : Int) + 1) ∧ evI W0 T.length [PL.row (S.map fun x => [x.v]), PL.val (.int .i64 ((k : Int) + 1))] W14 ∧ evM T.length [PL.row (S.map fun x => [x.v]), PL.val (.int .i64 ((k : Int) + 1))] W14 < evM T.length [PL.row (ss.map fun x => [x.v]), PL.val (.int .i64 (k : Int))] W5 := by
    refine ⟨by unfold I64; omega, ⟨hE14, S, T2, rfl, by omega, by omega, h14, hB14⟩, ?_⟩
    show T.length - Int.toNat ((k : Int) + 1) < T.length - Int.toNat (k : Int)
    omega
  rw [hSm]
  rw [show Int.toNat (k : Int) = k from rfl, show Int.toNat (j : Int) = j from rfl]
  have hkS : k < S.length := by omega
  have hkT : k < T2.length := by omega
  have ok := (h14.2.1 k hkS hkT).1
  have nk : (S[k]).n = T2[k].length := by rw [ok.n, tcel_length]
  refine ⟨fun hlt2 => ⟨by omega, S[k], own k (by omega), fun hlt3 => ?_, fun _ => next⟩, fun _ => next⟩
  have hjS : j < S.length := by omega
  have hjT : j < T2.length := by omega
  have oj := (h14.2.1 j hjS hjT).1
  have nj : (S[j]).n = T2[j].length := by rw [oj.n, tcel_length]
  refine ⟨by omega, S[j], own j (by omega), fun hlt4 => ?_, fun _ => next⟩
  have hjk : j < T2[k].length := by omega
  have hkj : k < T2[j].length := by omega
  refine ⟨by omega, S[k], own k (by omega), by omega, S[j], own j (by omega), Row.inBt oj.row (by omega) (by omega), _, Row.text oj.row hkj, Row.inBt ok.row (by omega) (by omega), ?_⟩
  refine h14.store hkS hkT hjk (fun g hg => .inr hg) fun W20 g hg hw' h20 => ⟨by unfold I64; omega, ⟨hE14.trans (hw'.extN hg), _, j + 1, by push_cast; rfl, by omega, by simpa using hT2, h20, fun l hl t ht => ?_⟩, ?_⟩
  · rcases List.mem_or_eq_of_mem_set hl with hl | rfl
    · exact hB14 l hl t ht
    · rcases List.mem_or_eq_of_mem_set ht with ht | rfl
      · exact hB14 _ (List.getElem_mem hkT) t ht
      · exact hB14 _ (List.getElem_mem hjT) _ (List.getElem_mem hkj)
  · show k - Int.toNat ((j : Int) + 1) < k - Int.toNat (j : Int)
    omega
theorem lawEven_call {W0 W : PW} {M : Nat → Prop} {s : Sl} {T : List (List ByteArray)} {K : Value → PW → Prop} (h : IsTx W s T) (hl : T.length ≤ 1099511627776) (hw : ∀ l ∈ T, l.length ≤ 1099511627776) (hb : TB T) (kont : ∀ (s' : Sl) (T' : List (List ByteArray)) (W' : PW), Ext W W' → (IsTx W' s' T' ∧ TB T') → K (Sl.v s') W') :
    callN Go.Proofs.Tryz.prog W0 M 5 [s.v] W K :=
  callN_of (fun W' hE => lawEven_ok (M := fun _ => False) (h.ext hE) hl hw hb) (fun W' v W'' hE hE' hP => by
    obtain ⟨s', T', rfl, h⟩ := hP
    exact kont s' T' W'' (hE.trans hE') h)
end Go.Proofs.YtcffcndpefaalaaGreat

/- cincturelaw14.alive. -/
set_option maxRecDepth 100000
set_option linter.unusedVariables false
set_option linter.unusedSimpArgs false
namespace Go.Proofs.YtcffcndpefaalaaGreat
open Go Go.SX
def b1 : ByteArray := ⟨⟨[49]⟩⟩
def b2 : ByteArray := ⟨⟨[50]⟩⟩
def aT : List (List ByteArray) := [[b2, b1], [b1, b2]]
theorem parse_b1 : parseQ b1 = some 1 := by
  have h1 : slashAt b1 = none := by decide
  have h2 : parseI b1 = some 1 := by decide
  unfold parseQ
  rw [h1, h2]; rfl
theorem parse_b2 : parseQ b2 = some 2 := by
  have h1 : slashAt b2 = none := by decide
  have h2 : parseI b2 = some 2 := by decide
  unfold parseQ
  rw [h1, h2]; rfl
def aM (i j : Nat) : Rat := (parseQ (txt aT i j)).getD 0
theorem aM00 : aM 0 0 = 2 := by show (parseQ b2).getD 0 = 2; rw [parse_b2]; rfl
theorem aM01 : aM 0 1 = 1 := by show (parseQ b1).getD 0 = 1; rw [parse_b1]; rfl
theorem aM10 : aM 1 0 = 1 := by show (parseQ b1).getD 0 = 1; rw [parse_b1]; rfl
theorem aM11 : aM 1 1 = 2 := by show (parseQ b2).getD 0 = 2; rw [parse_b2]; rfl
theorem two_cases {P : Nat → Prop} (h0 : P 0) (h1 : P 1) : ∀ i, i < 2 → P i := by
  intro i hi
  rcases (show i = 0 ∨ i = 1 by omega) with rfl | rfl
  · exact h0
  · exact h1
theorem aSym : SymP 2 (fun _ => 2) aM :=
  ⟨⟨fun _ _ => rfl, by decide, by decide, by decide, by decide⟩, rfl, fun i j hi hj => two_cases (P := fun i => aM i j = aM j i) (two_cases (P := fun j => aM 0 j = aM j 0) rfl (by rw [aM01, aM10]) j hj) (two_cases (P := fun j => aM 1 j = aM j 1) (by rw [aM01, aM10]) rfl j hj) i hi⟩
theorem aParts {L : Nat → Nat → Rat} {D : Nat → Rat} (h : Parts aM L D 2 2) : D 0 = 2 ∧ D 1 = 3 / 2 := by
  have h0 := h.diag 0 (by omega)
  have h1 := h.diag 1 (by omega)
  have hl := (h.low 1 0 (by omega) (by omega) (by omega)).1
  simp only [leftF, lsum, aM00, aM10, aM11] at h0 h1 hl
  have e0 : D 0 = 2 := by rw [h0]; grind
  have e1 : L 1 0 = 1 / 2 := by rw [hl, e0]; grind
  refine ⟨e0, ?_⟩
  rw [h1, e1, e0]
  grind
theorem aNoParts : ¬ NoParts 2 (fun _ => 2) aM := by
  rintro (h | ⟨L, D, k, j, _, h1, h2, h3, h4, _⟩)
  · exact h aSym
  · have : k = 0 := by omega
    subst this
    rw [h2] at h1
    simp only [leftF, lsum, aM00] at h1
    grind
theorem txt_two : decQ 2 = b2 := by
  have h : (2 : Rat).den = 1 := by decide
  have h2 : (2 : Rat).num = 2 := by decide
  unfold decQ
  rw [if_pos h, h2]
  unfold decI decN
  rw [if_neg (by decide), if_neg (by decide), show Int.natAbs 2 = 2 from rfl, dec_pos (by decide), show 2 / 10 = 0 from rfl, dec_zero]
  decide
theorem txt_half : decQ (3 / 2) = ⟨⟨[51, 47, 50]⟩⟩ := by
  have e : (3 / 2 : Rat) = mkRat 3 2 := by rw [Rat.mkRat_eq_div]; rfl
  have h : (3 / 2 : Rat).den = 2 := by rw [e, Rat.den_mkRat]; decide
  have h2 : (3 / 2 : Rat).num = 3 := by rw [e, Rat.num_mkRat]; decide
  unfold decQ
  rw [if_neg (by rw [h]; decide), h2, h]
  unfold decI decN
  rw [if_neg (by decide), if_neg (by decide), if_neg (by decide), show Int.natAbs 3 = 3 from rfl, dec_pos (by decide), dec_pos (x := 2) (by decide), show 3 / 10 = 0 from rfl, dec_zero]
  decide
theorem aTx {W : PW} {s1 s4 s7 : Sl} (h1 : Row W 9 1 s1 [[.string b2], [.string b1]]) (h4 : Row W 9 1 s4 [[.string b1], [.string b2]]) (h7 : Row W 45 1 s7 [[s1.v], [s4.v]]) : IsTx W s7 aT :=
  ⟨[s1, s4], ⟨_, h7⟩, rfl, fun i hi hi' => by
    have hi2 : i < 2 := hi
    rcases (show i = 0 ∨ i = 1 by omega) with rfl | rfl
    · exact ⟨_, h1⟩
    · exact ⟨_, h4⟩⟩
theorem aSz {i j : Nat} : Sz 3 (aM i j) := by
  have : (txt aT i j).size ≤ 20 := by
    unfold txt
    cases e : aT[i]? with
    | none => exact Nat.zero_le _
    | some l =>
      show (l[j]?.getD ⟨⟨[]⟩⟩).size ≤ _
      cases e2 : l[j]? with
      | none => exact Nat.zero_le _
      | some t =>
        have h1 : ∀ l ∈ aT, ∀ t ∈ l, t.size ≤ 20 := by decide
        exact h1 l (List.mem_of_getElem? e) t (List.mem_of_getElem? e2)
  unfold aM
  cases e : parseQ (txt aT i j) with
  | none => exact Sz.zero (by omega)
  | some q => exact (parseQ_sz e).2 this
theorem lawAlive_ok {W0 : PW} {M : Nat → Prop}   :
    PCallsM Go.Proofs.Tryz.prog 4 [] W0 M fun v W' => v = .bool true ∧ True := by
  apply calllaw14_alive
  intro s1 W2 hE2 hO1 hf1 s4 W5 hE5 hO4 hf4 s7 W8 hE8 hO7 hf7
  have ht := aTx (((hO1.ext hE5).ext hE8).row) (hO4.ext hE8).row hO7.row
  have hnn : NewFrom W8.w.heap.size W8 := Nat.le_refl _
  have hts : ∀ i j, (txt aT i j).size ≤ 1099511627776 := TB.txt (by intro l hl t ht; have h1 : ∀ l ∈ aT, ∀ t ∈ l, t.size ≤ 20 := by decide
                                                                    exact Nat.le_trans (h1 l hl t ht) (by omega))
  refine matParse_call hnn ht (by decide) hts fun s12 e W11 hE11 ⟨h1, h2⟩ => ⟨s12, e, rfl, ?_⟩
  have hR : RightP aT.length (tw aT) := ⟨two_cases (P := fun i => tw aT i = tw aT 0) rfl rfl, by decide, by decide, by decide, by decide⟩
  have he : e = 0 := by
    apply Decidable.byContradiction
    intro hne
    refine h2 hne ⟨hR, fun i j hi hj => ?_⟩
    have hi2 : i < 2 := hi
    rcases (show i = 0 ∨ i = 1 by omega) with rfl | rfl
    · have hj2 : j < 2 := hj
      rcases (show j = 0 ∨ j = 1 by omega) with rfl | rfl
      · show (parseQ b2).isSome = true; rw [parse_b2]; rfl
      · show (parseQ b1).isSome = true; rw [parse_b1]; rfl
    · have hj2 : j < 2 := hj
      rcases (show j = 0 ∨ j = 1 by omega) with rfl | rfl
      · show (parseQ b1).isSome = true; rw [parse_b1]; rfl
      · show (parseQ b2).isSome = true; rw [parse_b2]; rfl
  subst he
  have hm : IsMat 107 52 31 W11 s12 2 (fun _ => 2) aM := (h1 rfl).2.mat
  refine ldlOf_call hm (by decide) (fun i j _ _ => aSz) fun s16 s17 b18 W15 hE15 ⟨hf, ht'⟩ => ⟨s16, s17, b18, rfl, ?_⟩
  have hb : b18 = true := by
    cases b18 with
    | true => rfl
    | false => exact absurd (hf rfl).2.2 aNoParts
  subst hb
  obtain ⟨_, L, D, hu, hd, hP, hS⟩ := ht' rfl
  have hD := aParts hP
  have hub : Ub 2 ≤ 1000000 := (Ub_le 2 (by omega)).1
  refine ⟨fun _ => ⟨fun _ => ⟨fun _ => ?_, fun hne => absurd (by rw [hd.n]; rfl) hne⟩, fun h => (by cases h)⟩, fun h => absurd rfl h⟩
  obtain ⟨s19, b20, s21, e1, e2⟩ := hd.at (i := 0) (by omega)
  refine ⟨hd.inB (by omega) (by omega), s19, b20, s21, e1, ratText_call e2 (hS.2 0 (by omega)) (by omega) fun W23 hE23 _ => ⟨_, rfl, fun _ => ?_, fun hne => absurd (by rw [hD.1, txt_two]; rfl) hne⟩⟩
  have hd' := hd.ext hE23
  obtain ⟨s25, b26, s27, f1, f2⟩ := hd'.at (i := 1) (by omega)
  refine ⟨hd'.inB (by omega) (by omega), s25, b26, s27, f1, ratText_call f2 (hS.2 1 (by omega)) (by omega) fun W29 hE29 _ => ⟨_, rfl, fun W31 hE31 => ⟨?_, trivial⟩⟩⟩
  rw [hD.2, txt_half]
  rfl
theorem lawAlive_call {W0 W : PW} {M : Nat → Prop}  {K : Value → PW → Prop}  (kont : ∀  (W' : PW), Ext W W' → (True) → K (.bool true) W') :
    callN Go.Proofs.Tryz.prog W0 M 4 [] W K :=
  callN_of (fun W' hE => lawAlive_ok (M := fun _ => False) ) (fun W' v W'' hE hE' hP => by
    obtain ⟨rfl, h⟩ := hP
    exact kont  W'' (hE.trans hE') h)
end Go.Proofs.YtcffcndpefaalaaGreat
