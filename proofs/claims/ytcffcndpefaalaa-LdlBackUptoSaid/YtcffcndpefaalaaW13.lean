/- cincturelaw14.LdlBack: it answers true. -/
import Derived.Test.YtcffcndpefaalaaW12
import Derived.Test.YtcffcndpefaalaaLib3
import Derived.Test.YtcffcndpefaalaaRows
import Derived.WalkKit
import Derived.ProofKit
import Derived.OpenShut
import Derived.JoinedCond
import Derived.Carry
import Derived.Deep.Strs
set_option linter.unusedVariables false
set_option linter.unusedSimpArgs false
set_option maxRecDepth 100000
set_option linter.unusedVariables false
set_option linter.unusedSimpArgs false
namespace Go.Proofs.Ytcffcndpefaalaa
open Go Go.SX
/-- The diagonal as far as row k. -/
def dgK (D : Nat → Rat) (k : Nat) : Nat → Nat → Rat := fun a b => if a = b then (if a < k then D a else 1) else 0
theorem mulF_sz {a b : Nat → Nat → Rat} {p i j k l : Nat} (h1 : ∀ t, t < p → Sz k (a i t)) (h2 : ∀ t, t < p → Sz l (b t j)) : Sz (p * (k + l + 1) + 1) (mulF a b p i j) :=
  lsum_sz fun t ht => (h1 t ht).mul (h2 t ht)
theorem cmpQ_self {x y : Rat} (h : x = y) : cmpQ x y = 0 := (cmpQ_zero x y).2 h
def lbI (W25 : PW) (n1 r : Nat) (D : Nat → Rat) (s28 : Sl) (l : List PL) (W : PW) : Prop :=
  match l with
  | [.val (.int .i64 i)] => ∃ k : Nat, i = (k : Int) ∧ k ≤ r ∧ ExtN n1 W25 W ∧ OMat 106 43 31 (n1 ≤ ·) W s28 r r (dgK D k)
  | _ => False
def lbI2 (W25 : PW) (n1 r k : Nat) (D : Nat → Rat) (s28 : Sl) (l : List PL) (W : PW) : Prop :=
  match l with
  | [.val (.int .i64 i)] => ∃ j : Nat, i = (j : Int) ∧ k ≤ j ∧ j ≤ r ∧ ExtN n1 W25 W ∧ OMat 106 43 31 (n1 ≤ ·) W s28 r r (dgK D (k + 1))
  | _ => False
def lbM (r : Nat) (l : List PL) (W : PW) : Nat :=
  match l with
  | [.val (.int .i64 i)] => r - i.toNat
  | _ => 0
theorem ldlBack_ok {W0 : PW} {M : Nat → Prop} {s : Sl} {T : List (List ByteArray)} (h : IsTx W0 s T) (hl : T.length ≤ 1099511627776) (hw : ∀ l ∈ T, l.length ≤ 1099511627776) (hb : TB T) :
    PCallsM Go.Proofs.Try.prog 3 [s.v] W0 M fun v W' => v = .bool true ∧ True := by
  apply calllaw14_LdlBack
  refine lawEven_call h hl hw hb fun s3 T' W2 hE2 ⟨h2, hB2⟩ => ⟨s3, rfl, ?_⟩
  refine lawRaw_call h2 hB2.txt fun s6 s7 Q W5 hE5 ⟨h5, _, hSm⟩ => ⟨s6, s7, rfl, ?_⟩
  refine lawAlive_call fun W9 hE9 _ => ⟨true, rfl, fun h => (by cases h), fun _ => ?_⟩
  obtain ⟨r, hr⟩ : ∃ r, Q.length = r := ⟨_, rfl⟩
  have hr5 : r ≤ 5 := by have := hSm.1; omega
  have h9 : IsMat 106 43 31 W9 s6 r (qw Q) (qm Q) := by rw [← hr]; exact h5.ext hE9
  refine ldlOf_call h9 hr5 (fun i j _ _ => hSm.sz i j) fun u d b W13 hE13 ⟨hbf, hbt⟩ => ⟨u, d, b, rfl, fun hf => ?_, fun ht => ?_⟩
  · have hb' : b = false := by simpa using hf
    obtain ⟨n1, n2, _⟩ := hbf hb'
    exact ⟨fun _ W17 _ => ⟨by rw [n2]; rfl, trivial⟩, fun hne => absurd (by rw [n1]; rfl) hne⟩
  obtain ⟨hSym, L, D, hu, hd, hP, hS⟩ := hbt (by simpa using ht)
  have hun := hu.n
  have hdn := hd.n
  have hR := hSym.1
  have hr1 := hR.2.1
  have hub : Ub r ≤ 1000000 := (Ub_le r hr5).1
  have hRr : RightP r (fun _ => r) := ⟨fun _ _ => rfl, hr1, by omega, hr1, by show r ≤ 12; omega⟩
  have hRR : ∀ b, (b = true ↔ RightP r (fun _ => r)) → b = true := fun b hb => hb.2 hRr
  rw [hun, hdn]
  refine ⟨fun _ W => Ext W13 W, ⟨fun hne => absurd rfl hne, fun _ => matRight_call hu (by omega) fun b23 W22 hE22 hb23 => ⟨b23, rfl, fun hf => ?_, fun _ => hE22⟩⟩, ?_⟩
  · rw [hb23.2 hRr] at hf; cases hf
  intro W25 hE25
  have u25 := hu.ext hE25
  have d25 := hd.ext hE25
  have m25 := (h9.ext hE13).ext hE25
  obtain ⟨n1, hn1⟩ : ∃ n1, W25.w.heap.size = n1 := ⟨_, rfl⟩
  have hle : W25.w.heap.size ≤ n1 := by omega
  have hn1' : NewFrom n1 W25 := by unfold NewFrom; omega
  have h01 : W0.w.heap.size ≤ n1 := Nat.le_trans (Nat.le_trans (Nat.le_trans (Nat.le_trans (Nat.le_trans hE2.size hE5.size) hE9.size) hE13.size) hE25.size) hle
  refine matOne_call hn1' hr1 (by omega) fun s28 W27 hE27 h27 => ⟨s28, rfl, ?_⟩
  refine ⟨fun _ W => Ext W27 W, lawShaped2_call h27.mat (by omega) fun b32 W31 hE31 hb32 => ⟨b32, rfl, fun hf => ?_, fun _ => lawShaped2_call ((u25.ext hE27).ext hE31) (by omega) fun b36 W35 hE35 hb36 => ⟨b36, rfl, fun hf => ?_, fun _ => hE31.trans hE35⟩⟩, ?_⟩
  · rw [hb32.2 ⟨fun _ _ => rfl, rfl⟩] at hf; cases hf
  · rw [hb36.2 ⟨fun _ _ => rfl, rfl⟩] at hf; cases hf
  intro W38 hE38
  refine ⟨lbI W25 n1 r D s28, lbM r, ⟨0, rfl, Nat.zero_le _, (hE27.trans hE38).toM _, (h27.ext hE38).congr fun a b _ _ => ?_⟩, ?_⟩
  · unfold oneF dgK
    by_cases e : a = b
    · rw [if_pos e, if_pos e, if_neg (by omega)]
    · rw [if_neg e, if_neg e]
  rintro i41 W42 ⟨k, rfl, hk, hE42, h42⟩
  have hs28 := h42.mat.n
  have u42 := u25.new hE42 hle
  have d42 := d25.new hE42 hle
  have m42 := m25.new hE42 hle
  refine ⟨fun hlt => ?_, fun hge => ?_⟩
  · have hkr : k < r := by omega
    obtain ⟨x, e1, e2⟩ := h42.mat.at (i := k) hkr
    obtain ⟨s44, b45, s46, f1, f2⟩ := d42.at (i := k) hkr
    refine ⟨h42.mat.inB (by omega) (by omega), x, e1, d42.inB (by omega) (by omega), s44, b45, s46, f1, e2.inB (by omega) (by omega), ?_⟩
    refine h42.store (j := k) e1 hkr hkr f2 (by decide) (by decide) (fun g hg => .inr (Nat.le_trans h01 hg)) fun W47 hp h47 => ?_
    refine ⟨lbI2 W25 n1 r k D s28, lbM r, ⟨k, rfl, Nat.le_refl _, hk, hE42.trans (hp.extN fun g hg => hg), h47.congr fun a b ha hb => ?_⟩, ?_⟩
    · unfold setM dgK
      by_cases e : a = k ∧ b = k
      · rw [if_pos e, if_pos (by omega), if_pos (by omega), e.1]
      · rw [if_neg e]
        by_cases e3 : a = b
        · rw [if_pos e3, if_pos e3]
          by_cases e4 : a < k
          · rw [if_pos e4, if_pos (by omega)]
          · rw [if_neg e4, if_neg (by omega)]
        · rw [if_neg e3, if_neg e3]
    rintro i50 W51 ⟨l, rfl, hkl, hlr, hE51, h51⟩
    have u51 := u25.new hE51 hle
    obtain ⟨y, y1, y2⟩ := u51.at (i := k) hkr
    have ny := y2.n
    refine ⟨u51.inB (by omega) (by omega), y, y1, fun hlt2 => ?_, fun hge2 => ⟨by unfold I64; omega, ⟨k + 1, by push_cast; rfl, by omega, hE51, h51⟩, ?_⟩⟩
    · have hlr' : l < r := by omega
      refine ⟨fun pl W => match pl with | [_, _, .cells [.slice A n c, .bool b, .slice A' n' c']] => Ext W51 W ∧ IsRat 106 W ⟨A, n, c⟩ b ⟨A', n', c'⟩ (if l = k then 1 else 0) | _ => False, ⟨fun heq => ratOf_call (z := 1) (by unfold I64; omega) fun s56 b57 s58 W55 hE55 h55 => ⟨s56, b57, s58, rfl, hE55, ?_⟩, fun hne => ⟨Ext.refl _, ?_⟩⟩, ?_⟩
      · rw [if_pos (by omega)]
        exact h55
      · rw [if_neg (by omega)]
        exact isRat_zero W51
      · rintro s59 b60 s61 i62 i63 W64 ⟨hE64, h64⟩
        have h64 : IsRat 106 W64 s59 b60 s61 (if l = k then 1 else 0) := h64
        have u64 := u51.ext hE64
        have y64 := y2.ext hE64
        obtain ⟨s66, b67, s68, g1, g2⟩ := y64.at (i := l) (by omega)
        have hL : L k l = if l = k then 1 else 0 := by
          by_cases e : l = k
          · subst e; rw [if_pos rfl]; exact hP.one l hkr
          · rw [if_neg e]; exact hP.up k l (by omega) hlr'
        have hsz1 : Sz 1000000 (L k l) := (hS.1 k l hkr hlr').mono hub
        refine ⟨u64.inB (by omega) (by omega), y, y1.ext hE64, y64.inB (by omega) (by omega), s66, b67, s68, g1, ratCmp_call g2 h64 hsz1 (by rw [← hL]; exact hsz1) (by omega) (by omega) fun W70 hE70 _ => ⟨_, rfl, hE70, fun hne => absurd (cmpQ_self hL) hne, fun _ => ⟨by unfold I64; omega, ⟨l + 1, by push_cast; rfl, by omega, by omega, (hE51.trans (hE64.toM _)).trans (hE70.toM _), (h51.ext hE64).ext hE70⟩, ?_⟩⟩⟩
        show r - Int.toNat ((l : Int) + 1) < r - Int.toNat (l : Int)
        omega
    · show r - Int.toNat ((k : Int) + 1) < r - Int.toNat (k : Int)
      omega
  · have hkr : k = r := by omega
    subst hkr
    have n0 : ∀ W, NewFrom 0 W := fun W => Nat.zero_le _
    have szL : ∀ i j, i < k → j < k → Sz 1000000 (L i j) := fun i j hi hj => (hS.1 i j hi hj).mono hub
    have szD : ∀ i j, i < k → j < k → Sz 1000000 (dgK D k i j) := by
      intro i j hi hj
      unfold dgK
      by_cases e : i = j
      · rw [if_pos e, if_pos hi]
        exact (hS.2 i hi).mono hub
      · rw [if_neg e]; exact Sz.zero (by omega)
    refine matTurn_call (n0 W42) u42 (by omega) fun s75 b76 W74 hE74 ⟨_, hT⟩ => ⟨s75, b76, rfl, ?_⟩
    have hT := hT hRr
    have u74 := u42.ext hE74
    have d74 := (h42.ext hE74).mat
    refine matMul_call (n0 W74) u74 d74 (by omega) (by omega) szL szD (by omega) (by omega) fun s79 b80 W78 hE78 ⟨hb80, hM⟩ => ⟨s79, b80, rfl, ?_⟩
    have hM := hM ⟨hRr, hRr, rfl⟩
    have szM : ∀ i j, i < k → j < k → Sz 20000000 (mulF L (dgK D k) k i j) := fun i j hi hj => (mulF_sz (fun t ht => szL i t hi ht) (fun t ht => szD t j ht hj)).mono (by omega)
    refine matMul_call (n0 W78) hM.mat (hT.ext hE78).mat (by omega) (by omega) szM (fun i j hi hj => szL j i hj hi) (by omega) (by omega) fun s83 b84 W82 hE82 ⟨hb84, hN⟩ => ⟨s83, b84, rfl, ?_⟩
    have hN := hN ⟨hRr, hRr, rfl⟩
    have e80 := hb80.2 ⟨hRr, hRr, rfl⟩
    have e84 := hb84.2 ⟨hRr, hRr, rfl⟩
    subst e80
    subst e84
    refine ⟨fun _ => ⟨fun _ => ?_, fun h => (by cases h)⟩, fun h => (by cases h)⟩
    have m82 := ((m42.ext hE74).ext hE78).ext hE82
    have hcr : ∀ i, i < k → qw Q i = k := fun i hi => by have := hR.1 i hi; have := hSym.2.1; omega
    refine matSame_call (k := 200000000) hN.mat m82 (by omega) (by omega) (fun i j hi hj => (mulF_sz (fun t ht => szM i t hi ht) (fun t ht => szL j t hj ht)).mono (by omega)) (fun i j _ _ => (hSm.sz i j).mono (by omega)) (by omega) fun b87 W86 hE86 hb87 => ⟨b87, rfl, fun W88 _ => ⟨?_, trivial⟩⟩
    have hDg : ∀ a b, a < k → b < k → dgK D k a b = if a = b then D a else 0 := by
      intro a b ha hb
      unfold dgK
      by_cases e : a = b
      · rw [if_pos e, if_pos e, if_pos ha]
      · rw [if_neg e, if_neg e]
    have : b87 = true := by
      rw [hb87]
      refine ⟨hRr, hR, rfl, fun i hi => ⟨(hcr i hi).symm, fun j hj => ?_⟩⟩
      exact hP.product (fun a b ha hb => hSym.2.2 a b ha hb) hDg hi hj
    rw [this]
theorem ldlBack_call {W0 W : PW} {M : Nat → Prop} {s : Sl} {T : List (List ByteArray)} {K : Value → PW → Prop} (h : IsTx W s T) (hl : T.length ≤ 1099511627776) (hw : ∀ l ∈ T, l.length ≤ 1099511627776) (hb : TB T) (kont : ∀  (W' : PW), Ext W W' → (True) → K (.bool true) W') :
    callN Go.Proofs.Try.prog W0 M 3 [s.v] W K :=
  callN_of (fun W' hE => ldlBack_ok (M := fun _ => False) (h.ext hE) hl hw hb) (fun W' v W'' hE hE' hP => by
    obtain ⟨rfl, h⟩ := hP
    exact kont  W'' (hE.trans hE') h)
end Go.Proofs.Ytcffcndpefaalaa

/- The argument, a slice of slices of strings, opened into tables. -/
set_option maxRecDepth 100000
set_option linter.unusedVariables false
set_option linter.unusedSimpArgs false
namespace Go.Proofs.Ytcffcndpefaalaa
open Go Go.SX Go.ChangeShapes Go.WideShapes Go.ChangeAt Go.RowKit Go.Deep
instance : Inhabited (Sl × List ByteArray) := ⟨(⟨none, 0, 0⟩, [])⟩
theorem ownKnob_none : ownKnob Go.Proofs.Try.prog.godebug = none := by kernel_rfl
theorem laidOut : laidOutB Go.Proofs.Try.prog = true := by kernel_rfl
theorem cells_str : Go.Proofs.Try.prog.cellsOf 9 = 1 := by kernel_rfl
theorem cells_strs : Go.Proofs.Try.prog.cellsOf 52 = 1 := by kernel_rfl
theorem cell_block {W : World} {b o : Nat} {v : Value} (h : W.cell? ⟨b, o, none⟩ = some v) : ∃ cs t fz, W.heap[b]? = some (.cells cs t fz) ∧ cs[o]? = some v := by
  unfold World.cell? at h
  cases e : W.heap[b]? with
  | none => simp [e] at h
  | some ob =>
    cases ob with
    | cells cs t fz => exact ⟨cs, t, fz, rfl, by simpa [e] using h⟩
    | _ => simp [e] at h
theorem rowA_of_cells {W : World} {a : Addr} {n c : Nat} {V : Nat → Value} (h : ∀ j, j < n → W.cell? (a.add j) = some (V j)) (hn : n ≤ c) (hc : c ≤ maxLen) (h1 : ∀ j, j < n → (V j).oneCell' = true) : RowA ⟨W, fun _ => False⟩ 1 ⟨some a, n, c⟩ ((List.range n).map fun j => [V j]) := by
  have hel : ∀ x ∈ (List.range n).map (fun j => [V j]), x.length = 1 ∧ ∀ u ∈ x, u.oneCell' = true := by
    intro x hx
    obtain ⟨j, hj, rfl⟩ := List.mem_map.1 hx
    exact ⟨rfl, fun u hu => by rw [List.mem_singleton.1 hu]; exact h1 j (List.mem_range.1 hj)⟩
  by_cases h0 : n = 0
  · subst h0
    exact ⟨0, rfl, Nat.zero_le _, hc, hel, .inl rfl⟩
  · obtain ⟨b, off, sp⟩ := a
    have hsp : sp = none := by simpa [Addr.add] using World.cell?_spot (h 0 (by omega))
    subst hsp
    have h' : ∀ j, j < n → W.cell? ⟨b, off + j, none⟩ = some (V j) := fun j hj => by rw [← add_plain]; exact h j hj
    obtain ⟨cs, t, fz, hh, _⟩ := cell_block (h' 0 (by omega))
    refine ⟨t, by simp, hn, hc, hel, .inr ⟨b, off, cs, fz, rfl, id, hh, fun j v hj => ?_⟩⟩
    have e : ((List.range n).map fun j => [V j]).flatten = (List.range n).map V := by
      rw [← List.flatMap_def]
      generalize List.range n = l
      induction l with
      | nil => rfl
      | cons y r ih => simp [List.flatMap_cons, ih]
    rw [e] at hj
    have hjn : j < n := by
      have := (List.getElem?_eq_some_iff.1 hj).1
      simpa using this
    obtain ⟨cs', t', fz', hh', hv⟩ := cell_block (h' j hjn)
    rw [hh] at hh'
    cases hh'
    simp [hjn] at hj
    rw [← hj]
    exact hv
theorem bulk_one {H : Type} (d : DataW H) : 1 ≤ Rows.uptoBulk d := by
  cases d with
  | lit l => cases l <;> simp [Rows.uptoBulk]
  | nil => simp [Rows.uptoBulk]
  | ptr d => simp [Rows.uptoBulk]
  | slice elems spare => simp [Rows.uptoBulk]
  | agg parts => simp [Rows.uptoBulk]
  | iface t d => simp [Rows.uptoBulk]
  | map entries => simp [Rows.uptoBulk]
  | held h => simp [Rows.uptoBulk]
theorem bulk_part {H : Type} {d : DataW H} {l : List (DataW H)} (h : d ∈ l) : Rows.uptoBulk d ≤ Rows.uptoBulkAll l := by
  induction l with
  | nil => cases h
  | cons x r ih =>
    simp only [Rows.uptoBulkAll]
    cases List.mem_cons.1 h with
    | inl e => subst e; omega
    | inr e => have := ih e; omega
theorem bulk_length {H : Type} (l : List (DataW H)) : l.length ≤ Rows.uptoBulkAll l := by
  induction l with
  | nil => simp [Rows.uptoBulkAll]
  | cons x r ih => have := bulk_one x; simp only [Rows.uptoBulkAll, List.length_cons]; omega
theorem open_texts {H : Type} {enc : TypeId × Value → H} {W : World} {fuel : Nat} {v : Value} {d : DataW H} {p : List MemPlace} (h : DataW.trod enc Go.Proofs.Try.prog W 0 (fun _ => true) true fuel 52 [v] = some (d, p)) :
    ∃ y : Sl × List ByteArray, v = y.1.v ∧ RowA ⟨W, fun _ => False⟩ 1 y.1 (tcel y.2) ∧ y.2.length ≤ Rows.uptoBulk d ∧ ∀ t ∈ y.2, t.size ≤ Rows.uptoBulk d := by
  rcases open_strs Go.Proofs.Try.underlying52 Go.Proofs.Try.underlying9 cells_str h with ⟨hcs, hx⟩ | ⟨a, len, cap, m, Sx, hcs, _, hl, hm, hmm, hx, hcell⟩
  · have hv : v = .slice none 0 0 := by simpa using hcs
    subst hv
    exact ⟨(⟨none, 0, 0⟩, []), rfl, ⟨0, rfl, Nat.le_refl _, Nat.zero_le _, fun x h => by simp [tcel] at h, .inl rfl⟩, Nat.zero_le _, fun t h => by simp at h⟩
  · have hv : v = .slice (some a) len cap := by simpa using hcs
    subst hv
    simp only [if_true] at hmm
    subst hmm
    simp only [Prod.mk.injEq] at hx
    obtain ⟨rfl, _⟩ := hx
    have hr := rowA_of_cells (V := fun j => .string (Sx j)) (fun j hj => (hcell j (by omega)).1) hl hm (fun _ _ => rfl)
    refine ⟨(⟨some a, len, m⟩, (List.range len).map Sx), rfl, ?_, ?_, fun t ht => ?_⟩
    · have e : tcel ((List.range len).map Sx) = (List.range len).map fun j => [Value.string (Sx j)] := by simp [tcel]
      rw [e]
      exact hr
    · have := bulk_length ((List.range len).map fun i => (DataW.lit (.string (Sx i).data.toList) : DataW H))
      simp only [List.length_map, List.length_range] at this
      simp only [List.length_map, List.length_range, Rows.uptoBulk]
      omega
    · obtain ⟨j, hj, rfl⟩ := List.mem_map.1 ht
      have := bulk_part (List.mem_map.2 ⟨j, hj, rfl⟩ : (DataW.lit (.string (Sx j).data.toList) : DataW H) ∈ (List.range len).map fun i => (DataW.lit (.string (Sx i).data.toList) : DataW H))
      have e : (Sx j).data.toList.length = (Sx j).size := by rw [Array.length_toList]; rfl
      simp only [Rows.uptoBulk] at this ⊢
      omega
theorem open_table {H : Type} {enc : TypeId × Value → H} {W : World} {fuel : Nat} {v : Value} {d : DataW H} {p : List MemPlace} (h : DataW.trod enc Go.Proofs.Try.prog W 0 (fun _ => true) true fuel 22 [v] = some (d, p)) :
    ∃ (s : Sl) (T : List (List ByteArray)), v = s.v ∧ IsTx ⟨W, fun _ => False⟩ s T ∧ T.length ≤ Rows.uptoBulk d ∧ ∀ l ∈ T, l.length ≤ Rows.uptoBulk d ∧ ∀ t ∈ l, t.size ≤ Rows.uptoBulk d := by
  rcases open_slice1 Go.Proofs.Try.underlying22 cells_strs h with ⟨hcs, hx⟩ | ⟨a, len, cap, m, n, V, D, Pl, hcs, _, hl, hm, hmm, hx, hcell⟩
  · have hv : v = .slice none 0 0 := by simpa using hcs
    subst hv
    exact ⟨⟨none, 0, 0⟩, [], rfl, ⟨[], ⟨0, rfl, Nat.le_refl _, Nat.zero_le _, fun x h => by simp at h, .inl rfl⟩, rfl, fun i h => by simp at h⟩, Nat.zero_le _, fun l h => by simp at h⟩
  · have hv : v = .slice (some a) len cap := by simpa using hcs
    subst hv
    simp only [if_true] at hmm
    subst hmm
    simp only [Prod.mk.injEq] at hx
    obtain ⟨rfl, _⟩ := hx
    obtain ⟨y, hy⟩ := choose_lt (fun i hi => open_texts (hcell i hi).2)
    have hr := rowA_of_cells (V := V) (fun j hj => (hcell j (by omega)).1) hl hm (fun j hj => by rw [(hy j (by omega)).1]; rfl)
    have hbulk : ∀ i, i < len → Rows.uptoBulk (D i) ≤ Rows.uptoBulkAll ((List.range len).map D) := fun i hi => bulk_part (List.mem_map.2 ⟨i, List.mem_range.2 hi, rfl⟩)
    have hlen := bulk_length ((List.range len).map D)
    simp only [List.length_map, List.length_range] at hlen
    refine ⟨⟨some a, len, m⟩, (List.range len).map fun i => (y i).2, rfl, ⟨(List.range len).map fun i => (y i).1, ?_, by simp, fun i hi hi' => ?_⟩, ?_, fun l hl => ?_⟩
    · have e : (((List.range len).map fun i => (y i).1).map fun x => [x.v]) = (List.range len).map fun j => [V j] := by
        rw [List.map_map]
        apply List.map_congr_left
        intro j hj
        have := (hy j (by have := List.mem_range.1 hj; omega)).1
        simp [this]
      rw [e]
      exact hr
    · have hi2 : i < len := by simpa using hi
      simp only [List.getElem_map, List.getElem_range]
      exact (hy i (by omega)).2.1
    · simp only [List.length_map, List.length_range, Rows.uptoBulk]
      omega
    · obtain ⟨j, hj, rfl⟩ := List.mem_map.1 hl
      have hj' := List.mem_range.1 hj
      have h1 := hbulk j hj'
      obtain ⟨_, _, h2, h3⟩ := hy j (by omega)
      simp only [Rows.uptoBulk]
      refine ⟨by omega, fun t ht => ?_⟩
      have := h3 t ht
      omega
end Go.Proofs.Ytcffcndpefaalaa

/- cincturelaw14.LdlBack answers true for every input whose bulk is at most 1048576 (the second form), and its argument reads behind the call as it did ahead of it. -/
set_option maxRecDepth 100000
set_option linter.unusedVariables false
set_option linter.unusedSimpArgs false
namespace Go.Proofs.Ytcffcndpefaalaa
open Go Go.SX Go.ChangeShapes Go.WideShapes Go.ChangeAt Go.RowKit Go.Deep
/-- What the walk gives, for every argument within the bound. -/
theorem contract (H : Type) (enc : TypeId × Value → H) (W : World) (base : Nat) (args : Array Value) (ds gs : List (DataW H)) (before : List MemPlace)
    (hval : ∀ (j : Nat) t v, Go.Proofs.Try.f3.params[j]? = some t → args[j]? = some v → Value.okWide Go.Proofs.Try.prog W .any base t v)
    (hW : DataW.Whole enc Go.Proofs.Try.prog Go.Proofs.Try.f3.params.toList Rows.ldlBackSpec.vars false W args.toList ds gs before) (hk : Rows.uptoSmall H (ds ++ gs) = true) :
    Calls Go.Proofs.Try.prog 3 args W fun e W' => ∃ v, e = .returned v ∧ Rows.ldlBackSpec.post enc Go.Proofs.Try.prog Go.Proofs.Try.f3 false true false false W args v W' := by
  have hW' := hW
  obtain ⟨p, q, hA0, hV, rfl, hfz, hnd⟩ := hW
  have hA : DataW.TrodAll enc Go.Proofs.Try.prog W 0 (fun _ => true) true Go.Proofs.Try.f3.params.toList args.toList ds p := hA0
  rw [Go.Proofs.Try.params3] at hA hval
  obtain ⟨v0, vs0, d0, ds0, p0, q0, hargs, rfl, rfl, h0, r0⟩ := trodAll_cons hA
  obtain ⟨rfl, rfl, rfl⟩ := trodAll_nil r0
  obtain rfl : args = #[v0] := by cases args; simp_all
  obtain ⟨rfl, rfl⟩ := trodVars_none hV
  obtain ⟨a, n, c, rfl⟩ := okWide_slice Go.Proofs.Try.underlying22 (hval 0 22 v0 rfl rfl)
  clear hA0
  simp only [List.append_nil] at hW' hk
  have hlt : ∀ x ∈ p0, x.block < W.heap.size := fun x hx => by simpa using hW'.lt x (by simpa using hx)
  have h0k := h0
  obtain ⟨fuel, hf⟩ := h0
  have hf' : DataW.trod enc Go.Proofs.Try.prog W 0 (fun _ => true) true fuel 22 [.slice a n c] = some (d0, p0) := by simpa [Value.cells] using hf
  obtain ⟨s, T, hs, hT, hb1, hb2⟩ := open_table hf'
  have hsmall : Rows.uptoBulk d0 ≤ 1048576 := by
    have : Rows.uptoBulkAll [d0] ≤ 1048576 := of_decide_eq_true hk
    simpa [Rows.uptoBulkAll] using this
  have hc := ldlBack_ok (M := fun _ => False) hT (by omega) (fun l hl => by have := (hb2 l hl).1; omega) (fun l hl t ht => by have := (hb2 l hl).2 t ht; omega)
  have hcall := hc.2 (fun b h => h.elim)
  rw [hs]
  refine hcall.mono fun e W' ⟨v, he, hkeep, hv, _⟩ => ⟨v, he, ?_⟩
  subst hv
  have hbel := hkeep.below
  refine ⟨[d0], [], _, [], p0, [], (by rw [← hs]; simpa using hW'), trodAll_mk1 (shut_bool Go.Proofs.Try.underlying4 _), (by rw [← hs]; exact trodAll_mk1 (Below.trod laidOut (by kernel_rfl) (of_decide_eq_true (by kernel_rfl)) h0k hbel hlt)), rfl, hbel.frame _, fun h => by cases h⟩
theorem lifted (os : Os) (started : os.Started) (H : Type) (enc : TypeId × Value → H) (F : Stop.Interp) :
    ReturnsInHanded {} Go.Proofs.Try.checked os 3 .any ((Rows.OpenSpec.upto Rows.ldlBackSpec).pre6 enc Go.Proofs.Try.prog Go.Proofs.Try.f3 Rows.ldlBackUptoRow.domain false) (((Rows.OpenSpec.upto Rows.ldlBackSpec).at F).post enc Go.Proofs.Try.prog Go.Proofs.Try.f3 false true false false) := by
  refine returnsInHanded_of_cond (C := Go.Proofs.Try.checked) (s := Rows.OpenSpec.upto Rows.ldlBackSpec) (k := Rows.uptoSmall) rfl ownKnob_none started (by kernel_rfl) Go.Proofs.Try.func3
    (OpenSpec.witness (enc := enc) (C := Go.Proofs.Try.checked) (s := Rows.OpenSpec.upto Rows.ldlBackSpec) (k := Rows.uptoSmall) rfl false ⟨#[], #[.slice none 0 0], []⟩ 8 (by kernel_rfl) (by kernel_rfl) (by kernel_rfl)
      (x := ([.nil], [], [])) (by kernel_rfl) rfl (by kernel_rfl)) ?_
  intro W base args ds gs before hval hW _ hk _
  exact contract H enc W base args ds gs before hval hW hk
theorem ldlBack_holds : Rows.LdlBackUptoSaid :=
  OpenClaim.holds_of_cond 3 Go.Proofs.Try.f3 rfl rfl rfl rfl rfl rfl rfl ⟨rfl, rfl, rfl, rfl, rfl⟩ rfl rfl rfl rfl rfl (by kernel_rfl) Go.Proofs.Try.func3 (by kernel_rfl)
    (of_decide_eq_true (by kernel_rfl)) (by unfold Func.isWrapper; first | (rw [if_pos (by decide +kernel)]; kernel_rfl) | (rw [if_neg (by decide +kernel)]; exact ⟨rfl, rfl⟩))
    (fun os started H enc _ F => lifted os started H enc F)
end Go.Proofs.Ytcffcndpefaalaa
