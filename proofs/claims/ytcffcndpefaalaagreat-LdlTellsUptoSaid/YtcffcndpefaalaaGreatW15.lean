/- cincturelaw14.LdlTells: it answers true. -/
import Derived.Test.YtcffcndpefaalaaGreatW14
import Derived.Test.YtcffcndpefaalaaGreatLib3
import Derived.Test.YtcffcndpefaalaaGreatRows
import Derived.WalkKit
import Derived.ProofKit
import Derived.OpenShut
import Derived.JoinedCond
import Derived.Carry
import Derived.Deep.Strs
set_option linter.unusedVariables false
set_option linter.unusedSimpArgs false
set_option maxRecDepth 100000
set_option linter.unusedVariables false
set_option linter.unusedSimpArgs false
namespace Go.Proofs.YtcffcndpefaalaaGreat
open Go Go.SX
theorem isMat_nil {tu tq ts : TypeId} (W : PW) {c : Nat → Nat} {m : Nat → Nat → Rat} : IsMat tu tq ts W ⟨none, 0, 0⟩ 0 c m := ⟨[], ⟨rfl, Nat.le_refl _, Nat.zero_le _, fun x h => by simp at h, .inl rfl⟩, rfl, fun i h => by simp at h⟩
theorem isRMat_nil {tu tq ts : TypeId} (W : PW) {c : Nat → Nat} {m : Nat → Nat → Rat} : IsRMat tu tq ts W ⟨none, 0, 0⟩ 0 c m := ⟨[], ⟨rfl, Nat.le_refl _, Nat.zero_le _, fun x h => by simp at h, .inl rfl⟩, rfl, fun i h => by simp at h⟩
theorem isQs_nil {tu tq : TypeId} (W : PW) {f : Nat → Rat} : IsQs tu tq W ⟨none, 0, 0⟩ 0 f := ⟨[], ⟨rfl, Nat.le_refl _, Nat.zero_le _, fun x h => by simp at h, .inl rfl⟩, rfl, fun i h => by omega⟩
theorem isRQs_nil {tu tq : TypeId} (W : PW) {f : Nat → Rat} : IsRQs tu tq W ⟨none, 0, 0⟩ 0 f := ⟨[], ⟨rfl, Nat.le_refl _, Nat.zero_le _, fun x h => by simp at h, .inl rfl⟩, rfl, fun i h => by omega⟩
theorem ldlTells_ok {W0 : PW} {M : Nat → Prop} {s : Sl} {y : Bool} {T : List (List ByteArray)} (h : IsTx W0 s T) (hl : T.length ≤ 1099511627776) (hw : ∀ l ∈ T, l.length ≤ 1099511627776) (hb : TB T) :
    PCallsM Go.Proofs.Tryz.prog 3 [s.v, .bool y] W0 M fun v W' => v = .bool true ∧ True := by
  apply calllaw14_LdlTells
  refine lawAlive_call fun W2 hE2 _ => ⟨true, rfl, fun h => (by cases h), fun _ => ⟨fun _ => ?_, fun _ => ?_⟩⟩
  · refine lawEven_call (h.ext hE2) hl hw hb fun s7 T' W6 hE6 ⟨hT, hB⟩ => ⟨s7, rfl, ?_⟩
    refine lawRaw_call hT hB.txt fun s10 s11 Q W9 hE9 ⟨h9, hx, hSm⟩ => ⟨s10, s11, rfl, ?_⟩
    have hx' := RQMs.mat hx
    have hr5 := hSm.1
    refine ldlOf_call h9 hr5 (fun i j _ _ => hSm.sz i j) fun u d b W13 hE13 ⟨hbf, hbt⟩ => ⟨u, d, b, rfl, refLdl_call (hx'.ext hE13) hr5 (fun i j _ _ => hSm.sz i j) fun u' d' b' W18 hE18 ⟨hbf', hbt'⟩ => ⟨u', d', b', rfl, ?_⟩⟩
    have hbb : b = b' := by
      cases b with
      | false =>
        cases b' with
        | false => rfl
        | true =>
          obtain ⟨hS, L, D, _, _, hP, _⟩ := hbt' rfl
          exact absurd (hbf rfl).2.2 (noParts_not hS hP)
      | true =>
        cases b' with
        | true => rfl
        | false =>
          obtain ⟨hS, L, D, _, _, hP, _⟩ := hbt rfl
          exact absurd (hbf' rfl).2.2 (noParts_not hS hP)
    refine ⟨fun _ => ?_, fun hne => absurd hbb hne⟩
    obtain ⟨r, L, L', D, D', hr, hu, hu', hd, hd', eL, eD, sL, sD⟩ : ∃ (r : Nat) (L L' : Nat → Nat → Rat) (D D' : Nat → Rat), r ≤ 5 ∧ IsMat 107 52 31 W18 u r (fun _ => r) L ∧ IsRMat 107 58 34 W18 u' r (fun _ => r) L' ∧
        IsQs 107 52 W18 d r D ∧ IsRQs 107 58 W18 d' r D' ∧ (∀ i j, i < r → j < r → L i j = L' i j) ∧ (∀ j, j < r → D j = D' j) ∧ (∀ i j, i < r → j < r → Sz 1000000 (L i j)) ∧ ∀ j, j < r → Sz 1000000 (D j) := by
      subst hbb
      cases b with
      | false =>
        obtain ⟨rfl, rfl, _⟩ := hbf rfl
        obtain ⟨rfl, rfl, _⟩ := hbf' rfl
        exact ⟨0, fun _ _ => 0, fun _ _ => 0, fun _ => 0, fun _ => 0, by omega, isMat_nil _, isRMat_nil _, isQs_nil _, isRQs_nil _, fun i j h => by omega, fun j h => by omega, fun i j h => by omega, fun j h => by omega⟩
      | true =>
        obtain ⟨_, L, D, k1, k2, k3, k4⟩ := hbt rfl
        obtain ⟨_, L', D', j1, j2, j3, j4⟩ := hbt' rfl
        have hub := (Ub_le Q.length hr5).1
        have hU := fun k hk => Parts.unique (Nat.le_refl _) k3 j3 k hk
        exact ⟨Q.length, L, L', D, D', hr5, k1.ext hE18, j1, k2.ext hE18, j2, fun i j hi hj => (hU j hj).2 i hi, fun j hj => (hU j hj).1, fun i j hi hj => (k4.1 i j hi hj).mono hub, fun j hj => (k4.2 j hj).mono hub⟩
    refine law11Is_call hu hu' (by omega) (fun _ _ => by omega) (fun i j hi hj => sL i j hi hj) (by omega) (fun i hi => ⟨rfl, fun j hj => eL i j hi hj⟩) fun W23 hE23 _ => ⟨_, rfl, fun _ => law10Is_call (hd.ext hE23) (hd'.ext hE23) (by omega) sD (by omega) eD fun W26 hE26 _ => ⟨_, rfl, fun _ => ?_, fun h => (by cases h)⟩, fun h => (by cases h)⟩
    have hE := ((hE13.trans hE18).trans hE23).trans hE26
    refine ldlSemi_call (h9.ext hE) hr5 (fun i j _ _ => hSm.sz i j) fun b30 W29 hE29 hb30 => ⟨b30, rfl, refSemi_call (hx'.ext (hE.trans hE29)) hr5 (fun i j _ _ => hSm.sz i j) fun b33 W32 hE32 hb33 => ⟨b33, rfl, fun W34 _ => ⟨?_, trivial⟩⟩⟩
    rw [decide_eq_true (Bool.eq_iff_iff.2 (hb30.trans hb33.symm))]
  · have hT := h.ext hE2
    have hB := hb
    refine lawRaw_call hT hB.txt fun s10 s11 Q W9 hE9 ⟨h9, hx, hSm⟩ => ⟨s10, s11, rfl, ?_⟩
    have hx' := RQMs.mat hx
    have hr5 := hSm.1
    refine ldlOf_call h9 hr5 (fun i j _ _ => hSm.sz i j) fun u d b W13 hE13 ⟨hbf, hbt⟩ => ⟨u, d, b, rfl, refLdl_call (hx'.ext hE13) hr5 (fun i j _ _ => hSm.sz i j) fun u' d' b' W18 hE18 ⟨hbf', hbt'⟩ => ⟨u', d', b', rfl, ?_⟩⟩
    have hbb : b = b' := by
      cases b with
      | false =>
        cases b' with
        | false => rfl
        | true =>
          obtain ⟨hS, L, D, _, _, hP, _⟩ := hbt' rfl
          exact absurd (hbf rfl).2.2 (noParts_not hS hP)
      | true =>
        cases b' with
        | true => rfl
        | false =>
          obtain ⟨hS, L, D, _, _, hP, _⟩ := hbt rfl
          exact absurd (hbf' rfl).2.2 (noParts_not hS hP)
    refine ⟨fun _ => ?_, fun hne => absurd hbb hne⟩
    obtain ⟨r, L, L', D, D', hr, hu, hu', hd, hd', eL, eD, sL, sD⟩ : ∃ (r : Nat) (L L' : Nat → Nat → Rat) (D D' : Nat → Rat), r ≤ 5 ∧ IsMat 107 52 31 W18 u r (fun _ => r) L ∧ IsRMat 107 58 34 W18 u' r (fun _ => r) L' ∧
        IsQs 107 52 W18 d r D ∧ IsRQs 107 58 W18 d' r D' ∧ (∀ i j, i < r → j < r → L i j = L' i j) ∧ (∀ j, j < r → D j = D' j) ∧ (∀ i j, i < r → j < r → Sz 1000000 (L i j)) ∧ ∀ j, j < r → Sz 1000000 (D j) := by
      subst hbb
      cases b with
      | false =>
        obtain ⟨rfl, rfl, _⟩ := hbf rfl
        obtain ⟨rfl, rfl, _⟩ := hbf' rfl
        exact ⟨0, fun _ _ => 0, fun _ _ => 0, fun _ => 0, fun _ => 0, by omega, isMat_nil _, isRMat_nil _, isQs_nil _, isRQs_nil _, fun i j h => by omega, fun j h => by omega, fun i j h => by omega, fun j h => by omega⟩
      | true =>
        obtain ⟨_, L, D, k1, k2, k3, k4⟩ := hbt rfl
        obtain ⟨_, L', D', j1, j2, j3, j4⟩ := hbt' rfl
        have hub := (Ub_le Q.length hr5).1
        have hU := fun k hk => Parts.unique (Nat.le_refl _) k3 j3 k hk
        exact ⟨Q.length, L, L', D, D', hr5, k1.ext hE18, j1, k2.ext hE18, j2, fun i j hi hj => (hU j hj).2 i hi, fun j hj => (hU j hj).1, fun i j hi hj => (k4.1 i j hi hj).mono hub, fun j hj => (k4.2 j hj).mono hub⟩
    refine law11Is_call hu hu' (by omega) (fun _ _ => by omega) (fun i j hi hj => sL i j hi hj) (by omega) (fun i hi => ⟨rfl, fun j hj => eL i j hi hj⟩) fun W23 hE23 _ => ⟨_, rfl, fun _ => law10Is_call (hd.ext hE23) (hd'.ext hE23) (by omega) sD (by omega) eD fun W26 hE26 _ => ⟨_, rfl, fun _ => ?_, fun h => (by cases h)⟩, fun h => (by cases h)⟩
    have hE := ((hE13.trans hE18).trans hE23).trans hE26
    refine ldlSemi_call (h9.ext hE) hr5 (fun i j _ _ => hSm.sz i j) fun b30 W29 hE29 hb30 => ⟨b30, rfl, refSemi_call (hx'.ext (hE.trans hE29)) hr5 (fun i j _ _ => hSm.sz i j) fun b33 W32 hE32 hb33 => ⟨b33, rfl, fun W34 _ => ⟨?_, trivial⟩⟩⟩
    rw [decide_eq_true (Bool.eq_iff_iff.2 (hb30.trans hb33.symm))]
theorem ldlTells_call {W0 W : PW} {M : Nat → Prop} {s : Sl} {y : Bool} {T : List (List ByteArray)} {K : Value → PW → Prop} (h : IsTx W s T) (hl : T.length ≤ 1099511627776) (hw : ∀ l ∈ T, l.length ≤ 1099511627776) (hb : TB T) (kont : ∀  (W' : PW), Ext W W' → (True) → K (.bool true) W') :
    callN Go.Proofs.Tryz.prog W0 M 3 [s.v, .bool y] W K :=
  callN_of (fun W' hE => ldlTells_ok (M := fun _ => False) (h.ext hE) hl hw hb) (fun W' v W'' hE hE' hP => by
    obtain ⟨rfl, h⟩ := hP
    exact kont  W'' (hE.trans hE') h)
end Go.Proofs.YtcffcndpefaalaaGreat

/- The argument, a slice of slices of strings, opened into tables. -/
set_option maxRecDepth 100000
set_option linter.unusedVariables false
set_option linter.unusedSimpArgs false
namespace Go.Proofs.YtcffcndpefaalaaGreat
open Go Go.SX Go.ChangeShapes Go.WideShapes Go.ChangeAt Go.RowKit Go.Deep
instance : Inhabited (Sl × List ByteArray) := ⟨(⟨none, 0, 0⟩, [])⟩
theorem ownKnob_none : ownKnob Go.Proofs.Tryz.prog.godebug = none := by kernel_rfl
theorem laidOut : laidOutB Go.Proofs.Tryz.prog = true := by kernel_rfl
theorem cells_str : Go.Proofs.Tryz.prog.cellsOf 9 = 1 := by kernel_rfl
theorem cells_strs : Go.Proofs.Tryz.prog.cellsOf 45 = 1 := by kernel_rfl
theorem cell_block {W : World} {b o : Nat} {v : Value} (h : W.cell? ⟨b, o, none⟩ = some v) : ∃ cs t fz, W.heap[b]? = some (.cells cs t fz) ∧ cs[o]? = some v := by
  unfold World.cell? at h
  cases e : W.heap[b]? with
  | none => simp [e] at h
  | some ob =>
    cases ob with
    | cells cs t fz => exact ⟨cs, t, fz, rfl, by simpa [e] using h⟩
    | _ => simp [e] at h
theorem rowA_of_cells {W : World} {a : Addr} {n c : Nat} {V : Nat → Value} (h : ∀ j, j < n → W.cell? (a.add j) = some (V j)) (hn : n ≤ c) (hc : c ≤ maxLen) (h1 : ∀ j, j < n → (V j).oneCell' = true) : RowA ⟨W, fun _ => False⟩ 1 ⟨some a, n, c⟩ ((List.range n).map fun j => [V j]) := by
  have hel : ∀ x ∈ (List.range n).map (fun j => [V j]), x.length = 1 ∧ ∀ u ∈ x, u.oneCell' = true := by
    intro x hx
    obtain ⟨j, hj, rfl⟩ := List.mem_map.1 hx
    exact ⟨rfl, fun u hu => by rw [List.mem_singleton.1 hu]; exact h1 j (List.mem_range.1 hj)⟩
  by_cases h0 : n = 0
  · subst h0
    exact ⟨0, rfl, Nat.zero_le _, hc, hel, .inl rfl⟩
  · obtain ⟨b, off, sp⟩ := a
    have hsp : sp = none := by simpa [Addr.add] using World.cell?_spot (h 0 (by omega))
    subst hsp
    have h' : ∀ j, j < n → W.cell? ⟨b, off + j, none⟩ = some (V j) := fun j hj => by rw [← add_plain]; exact h j hj
    obtain ⟨cs, t, fz, hh, _⟩ := cell_block (h' 0 (by omega))
    refine ⟨t, by simp, hn, hc, hel, .inr ⟨b, off, cs, fz, rfl, id, hh, fun j v hj => ?_⟩⟩
    have e : ((List.range n).map fun j => [V j]).flatten = (List.range n).map V := by
      rw [← List.flatMap_def]
      generalize List.range n = l
      induction l with
      | nil => rfl
      | cons y r ih => simp [List.flatMap_cons, ih]
    rw [e] at hj
    have hjn : j < n := by
      have := (List.getElem?_eq_some_iff.1 hj).1
      simpa using this
    obtain ⟨cs', t', fz', hh', hv⟩ := cell_block (h' j hjn)
    rw [hh] at hh'
    cases hh'
    simp [hjn] at hj
    rw [← hj]
    exact hv
theorem bulk_one {H : Type} (d : DataW H) : 1 ≤ Rows.uptoBulk d := by
  cases d with
  | lit l => cases l <;> simp [Rows.uptoBulk]
  | nil => simp [Rows.uptoBulk]
  | ptr d => simp [Rows.uptoBulk]
  | slice elems spare => simp [Rows.uptoBulk]
  | agg parts => simp [Rows.uptoBulk]
  | iface t d => simp [Rows.uptoBulk]
  | map entries => simp [Rows.uptoBulk]
  | held h => simp [Rows.uptoBulk]
theorem bulk_part {H : Type} {d : DataW H} {l : List (DataW H)} (h : d ∈ l) : Rows.uptoBulk d ≤ Rows.uptoBulkAll l := by
  induction l with
  | nil => cases h
  | cons x r ih =>
    simp only [Rows.uptoBulkAll]
    cases List.mem_cons.1 h with
    | inl e => subst e; omega
    | inr e => have := ih e; omega
theorem bulk_length {H : Type} (l : List (DataW H)) : l.length ≤ Rows.uptoBulkAll l := by
  induction l with
  | nil => simp [Rows.uptoBulkAll]
  | cons x r ih => have := bulk_one x; simp only [Rows.uptoBulkAll, List.length_cons]; omega
theorem open_texts {H : Type} {enc : TypeId × Value → H} {W : World} {fuel : Nat} {v : Value} {d : DataW H} {p : List MemPlace} (h : DataW.trod enc Go.Proofs.Tryz.prog W 0 (fun _ => true) true fuel 45 [v] = some (d, p)) :
    ∃ y : Sl × List ByteArray, v = y.1.v ∧ RowA ⟨W, fun _ => False⟩ 1 y.1 (tcel y.2) ∧ y.2.length ≤ Rows.uptoBulk d ∧ ∀ t ∈ y.2, t.size ≤ Rows.uptoBulk d := by
  rcases open_strs Go.Proofs.Tryz.underlying45 Go.Proofs.Tryz.underlying9 cells_str h with ⟨hcs, hx⟩ | ⟨a, len, cap, m, Sx, hcs, _, hl, hm, hmm, hx, hcell⟩
  · have hv : v = .slice none 0 0 := by simpa using hcs
    subst hv
    exact ⟨(⟨none, 0, 0⟩, []), rfl, ⟨0, rfl, Nat.le_refl _, Nat.zero_le _, fun x h => by simp [tcel] at h, .inl rfl⟩, Nat.zero_le _, fun t h => by simp at h⟩
  · have hv : v = .slice (some a) len cap := by simpa using hcs
    subst hv
    simp only [if_true] at hmm
    subst hmm
    simp only [Prod.mk.injEq] at hx
    obtain ⟨rfl, _⟩ := hx
    have hr := rowA_of_cells (V := fun j => .string (Sx j)) (fun j hj => (hcell j (by omega)).1) hl hm (fun _ _ => rfl)
    refine ⟨(⟨some a, len, m⟩, (List.range len).map Sx), rfl, ?_, ?_, fun t ht => ?_⟩
    · have e : tcel ((List.range len).map Sx) = (List.range len).map fun j => [Value.string (Sx j)] := by simp [tcel]
      rw [e]
      exact hr
    · have := bulk_length ((List.range len).map fun i => (DataW.lit (.string (Sx i).data.toList) : DataW H))
      simp only [List.length_map, List.length_range] at this
      simp only [List.length_map, List.length_range, Rows.uptoBulk]
      omega
    · obtain ⟨j, hj, rfl⟩ := List.mem_map.1 ht
      have := bulk_part (List.mem_map.2 ⟨j, hj, rfl⟩ : (DataW.lit (.string (Sx j).data.toList) : DataW H) ∈ (List.range len).map fun i => (DataW.lit (.string (Sx i).data.toList) : DataW H))
      have e : (Sx j).data.toList.length = (Sx j).size := by rw [Array.length_toList]; rfl
      simp only [Rows.uptoBulk] at this ⊢
      omega
theorem open_table {H : Type} {enc : TypeId × Value → H} {W : World} {fuel : Nat} {v : Value} {d : DataW H} {p : List MemPlace} (h : DataW.trod enc Go.Proofs.Tryz.prog W 0 (fun _ => true) true fuel 22 [v] = some (d, p)) :
    ∃ (s : Sl) (T : List (List ByteArray)), v = s.v ∧ IsTx ⟨W, fun _ => False⟩ s T ∧ T.length ≤ Rows.uptoBulk d ∧ ∀ l ∈ T, l.length ≤ Rows.uptoBulk d ∧ ∀ t ∈ l, t.size ≤ Rows.uptoBulk d := by
  rcases open_slice1 Go.Proofs.Tryz.underlying22 cells_strs h with ⟨hcs, hx⟩ | ⟨a, len, cap, m, n, V, D, Pl, hcs, _, hl, hm, hmm, hx, hcell⟩
  · have hv : v = .slice none 0 0 := by simpa using hcs
    subst hv
    exact ⟨⟨none, 0, 0⟩, [], rfl, ⟨[], ⟨0, rfl, Nat.le_refl _, Nat.zero_le _, fun x h => by simp at h, .inl rfl⟩, rfl, fun i h => by simp at h⟩, Nat.zero_le _, fun l h => by simp at h⟩
  · have hv : v = .slice (some a) len cap := by simpa using hcs
    subst hv
    simp only [if_true] at hmm
    subst hmm
    simp only [Prod.mk.injEq] at hx
    obtain ⟨rfl, _⟩ := hx
    obtain ⟨y, hy⟩ := choose_lt (fun i hi => open_texts (hcell i hi).2)
    have hr := rowA_of_cells (V := V) (fun j hj => (hcell j (by omega)).1) hl hm (fun j hj => by rw [(hy j (by omega)).1]; rfl)
    have hbulk : ∀ i, i < len → Rows.uptoBulk (D i) ≤ Rows.uptoBulkAll ((List.range len).map D) := fun i hi => bulk_part (List.mem_map.2 ⟨i, List.mem_range.2 hi, rfl⟩)
    have hlen := bulk_length ((List.range len).map D)
    simp only [List.length_map, List.length_range] at hlen
    refine ⟨⟨some a, len, m⟩, (List.range len).map fun i => (y i).2, rfl, ⟨(List.range len).map fun i => (y i).1, ?_, by simp, fun i hi hi' => ?_⟩, ?_, fun l hl => ?_⟩
    · have e : (((List.range len).map fun i => (y i).1).map fun x => [x.v]) = (List.range len).map fun j => [V j] := by
        rw [List.map_map]
        apply List.map_congr_left
        intro j hj
        have := (hy j (by have := List.mem_range.1 hj; omega)).1
        simp [this]
      rw [e]
      exact hr
    · have hi2 : i < len := by simpa using hi
      simp only [List.getElem_map, List.getElem_range]
      exact (hy i (by omega)).2.1
    · simp only [List.length_map, List.length_range, Rows.uptoBulk]
      omega
    · obtain ⟨j, hj, rfl⟩ := List.mem_map.1 hl
      have hj' := List.mem_range.1 hj
      have h1 := hbulk j hj'
      obtain ⟨_, _, h2, h3⟩ := hy j (by omega)
      simp only [Rows.uptoBulk]
      refine ⟨by omega, fun t ht => ?_⟩
      have := h3 t ht
      omega
end Go.Proofs.YtcffcndpefaalaaGreat

/- cincturelaw14.LdlTells answers true for every input whose bulk is at most 1048576 (the second form), and its arguments read behind the call as it did ahead of it. -/
set_option maxRecDepth 100000
set_option linter.unusedVariables false
set_option linter.unusedSimpArgs false
namespace Go.Proofs.YtcffcndpefaalaaGreat
open Go Go.SX Go.ChangeShapes Go.WideShapes Go.ChangeAt Go.RowKit Go.Deep
/-- What the walk gives, for every argument within the bound. -/
theorem contract (H : Type) (enc : TypeId × Value → H) (W : World) (base : Nat) (args : Array Value) (ds gs : List (DataW H)) (before : List MemPlace)
    (hval : ∀ (j : Nat) t v, Go.Proofs.Tryz.f3.params[j]? = some t → args[j]? = some v → Value.okWide Go.Proofs.Tryz.prog W .any base t v)
    (hW : DataW.Whole enc Go.Proofs.Tryz.prog Go.Proofs.Tryz.f3.params.toList Rows.ldlTellsSpec.vars false W args.toList ds gs before) (hk : Rows.uptoSmall H (ds ++ gs) = true) :
    Calls Go.Proofs.Tryz.prog 3 args W fun e W' => ∃ v, e = .returned v ∧ Rows.ldlTellsSpec.post enc Go.Proofs.Tryz.prog Go.Proofs.Tryz.f3 false true false false W args v W' := by
  have hW' := hW
  obtain ⟨p, q, hA0, hV, rfl, hfz, hnd⟩ := hW
  have hA : DataW.TrodAll enc Go.Proofs.Tryz.prog W 0 (fun _ => true) true Go.Proofs.Tryz.f3.params.toList args.toList ds p := hA0
  rw [Go.Proofs.Tryz.params3] at hA hval
  obtain ⟨v0, vs0, d0, ds0, p0, q0, hargs, rfl, rfl, h0, r0⟩ := trodAll_cons hA
  obtain ⟨v1, vs1, d1, ds1, p1, q1, rfl, rfl, rfl, h1, r1⟩ := trodAll_cons r0
  obtain ⟨rfl, rfl, rfl⟩ := trodAll_nil r1
  obtain rfl : args = #[v0, v1] := by cases args; simp_all
  obtain ⟨rfl, rfl⟩ := trodVars_none hV
  obtain ⟨a, n, c, rfl⟩ := okWide_slice Go.Proofs.Tryz.underlying22 (hval 0 22 v0 rfl rfl)
  obtain ⟨y, rfl⟩ := okWide_bool Go.Proofs.Tryz.underlying4 (hval 1 4 v1 rfl rfl)
  clear hA0
  simp only [List.append_nil] at hW' hk
  have hlt : ∀ x ∈ p0 ++ p1, x.block < W.heap.size := fun x hx => by simpa using hW'.lt x (by simpa using hx)
  have h0k := h0
  have h1k := h1
  obtain ⟨fuel, hf⟩ := h0
  have hf' : DataW.trod enc Go.Proofs.Tryz.prog W 0 (fun _ => true) true fuel 22 [.slice a n c] = some (d0, p0) := by simpa [Value.cells] using hf
  obtain ⟨s, T, hs, hT, hb1, hb2⟩ := open_table hf'
  have hsmall : Rows.uptoBulk d0 ≤ 1048576 := by
    have : Rows.uptoBulkAll [d0, d1] ≤ 1048576 := of_decide_eq_true hk
    simp only [Rows.uptoBulkAll] at this
    omega
  have hc := ldlTells_ok (M := fun _ => False) (y := y) hT (by omega) (fun l hl => by have := (hb2 l hl).1; omega) (fun l hl t ht => by have := (hb2 l hl).2 t ht; omega)
  have hcall := hc.2 (fun b h => h.elim)
  rw [hs]
  refine hcall.mono fun e W' ⟨v, he, hkeep, hv, _⟩ => ⟨v, he, ?_⟩
  subst hv
  have hbel := hkeep.below
  refine ⟨[d0, d1], [], _, [], p0 ++ p1, [], (by rw [← hs]; simpa using hW'), trodAll_mk1 (shut_bool Go.Proofs.Tryz.underlying4 _), (by rw [← hs]; exact trodAll_mk2 (Below.trod laidOut (by kernel_rfl) (of_decide_eq_true (by kernel_rfl)) h0k hbel fun x hx => hlt x (List.mem_append_left _ hx)) (Below.trod laidOut (by kernel_rfl) (of_decide_eq_true (by kernel_rfl)) h1k hbel fun x hx => hlt x (List.mem_append_right _ hx))), rfl, hbel.frame _, fun h => by cases h⟩
theorem lifted (os : Os) (started : os.Started) (H : Type) (enc : TypeId × Value → H) (F : Stop.Interp) :
    ReturnsInHanded {} Go.Proofs.Tryz.checked os 3 .any ((Rows.OpenSpec.upto Rows.ldlTellsSpec).pre6 enc Go.Proofs.Tryz.prog Go.Proofs.Tryz.f3 Rows.ldlTellsUptoRow.domain false) (((Rows.OpenSpec.upto Rows.ldlTellsSpec).at F).post enc Go.Proofs.Tryz.prog Go.Proofs.Tryz.f3 false true false false) := by
  refine returnsInHanded_of_cond (C := Go.Proofs.Tryz.checked) (s := Rows.OpenSpec.upto Rows.ldlTellsSpec) (k := Rows.uptoSmall) rfl ownKnob_none started (by kernel_rfl) Go.Proofs.Tryz.func3
    (OpenSpec.witness (enc := enc) (C := Go.Proofs.Tryz.checked) (s := Rows.OpenSpec.upto Rows.ldlTellsSpec) (k := Rows.uptoSmall) rfl false ⟨#[], #[.slice none 0 0, .bool false], []⟩ 8 (by kernel_rfl) (by kernel_rfl) (by kernel_rfl)
      (x := ([.nil, .lit (.bool false)], [], [])) (by kernel_rfl) rfl (by kernel_rfl)) ?_
  intro W base args ds gs before hval hW _ hk _
  exact contract H enc W base args ds gs before hval hW hk
theorem ldlTells_holds : Rows.LdlTellsUptoSaid :=
  OpenClaim.holds_of_cond 3 Go.Proofs.Tryz.f3 rfl rfl rfl rfl rfl rfl rfl ⟨rfl, rfl, rfl, rfl, rfl⟩ rfl rfl rfl rfl rfl (by kernel_rfl) Go.Proofs.Tryz.func3 (by kernel_rfl)
    (of_decide_eq_true (by kernel_rfl)) (by unfold Func.isWrapper; first | (rw [if_pos (by decide +kernel)]; kernel_rfl) | (rw [if_neg (by decide +kernel)]; exact ⟨rfl, rfl⟩))
    (fun os started H enc _ F => lifted os started H enc F)
end Go.Proofs.YtcffcndpefaalaaGreat
