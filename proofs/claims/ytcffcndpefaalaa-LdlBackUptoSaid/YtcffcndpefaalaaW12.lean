/- Tables of texts: mat.Parse, cincturelaw14.even, alive. -/
import Derived.Test.YtcffcndpefaalaaW11
import Derived.Test.YtcffcndpefaalaaW9
import Derived.Test.YtcffcndpefaalaaR10
import Derived.Test.YtcffcndpefaalaaLib3
set_option linter.unusedVariables false
set_option linter.unusedSimpArgs false
set_option maxRecDepth 100000
set_option linter.unusedVariables false
set_option linter.unusedSimpArgs false
namespace Go.Proofs.Ytcffcndpefaalaa
open Go Go.SX
/-- How many texts row i has. -/
def tw (T : List (List ByteArray)) (i : Nat) : Nat := (T[i]?.getD []).length
theorem tw_eq {T : List (List ByteArray)} {i : Nat} (h : i < T.length) : tw T i = T[i].length := by
  unfold tw
  rw [List.getElem?_eq_getElem h]; rfl
def txt (T : List (List ByteArray)) (i j : Nat) : ByteArray := (T[i]?.getD [])[j]?.getD ⟨⟨[]⟩⟩
theorem txt_eq {T : List (List ByteArray)} {i j : Nat} (h : i < T.length) (hj : j < T[i].length) : txt T i j = T[i][j] := by
  unfold txt
  rw [List.getElem?_eq_getElem h]
  simp [hj]
theorem txEven_ok {W0 : PW} {M : Nat → Prop} {s : Sl} {T : List (List ByteArray)} (h : IsTx W0 s T) (hr : T.length ≤ 1099511627776) :
    PCallsM Go.Proofs.Try.prog 37 [s.v] W0 M fun v W' => ∃ (b : Bool), v = .bool b ∧ (b = true ↔ RightP T.length (tw T)) := by
  apply callmat_even_string
  have hn := h.n
  refine ⟨fun l W => match l with | [.val (.int .i64 i)] => Ext W0 W ∧ ∃ k : Nat, i = (k : Int) ∧ k ≤ T.length ∧ ∀ i, i < k → tw T i = tw T 0 | _ => False, fun l _ => match l with | [.val (.int .i64 i)] => T.length - i.toNat | _ => 0, ⟨Ext.refl _, 0, rfl, Nat.zero_le _, fun i h => (by omega)⟩, ?_⟩
  rintro i3 W4 ⟨hE4, k, rfl, hk, hck⟩
  have h4 := h.ext hE4
  refine ⟨fun hlt => ?_, fun hge => ⟨fun h1 => ⟨fun h12 => ?_, fun h12 => ⟨fun h => (by cases h), fun _ W14 _ => ⟨false, rfl, ?_⟩⟩⟩, fun h1 => ⟨fun h => (by cases h), fun _ => ⟨fun h => (by cases h), fun _ W21 _ => ⟨false, rfl, ?_⟩⟩⟩⟩⟩
  · obtain ⟨x, e1, e2⟩ := h4.at (i := k) (by omega)
    obtain ⟨y, f1, f2⟩ := h4.at (i := 0) (by omega)
    have n1 := e2.nt.trans (tw_eq (by omega)).symm
    have n2 := f2.nt.trans (tw_eq (by omega)).symm
    refine ⟨h4.inB (by omega) (by omega), x, e1, h4.inB (by omega) (by omega), y, f1, fun hne W7 _ => ⟨false, rfl, ?_⟩, fun heq => ⟨by unfold I64; omega, ⟨hE4, k + 1, by push_cast; rfl, by omega, fun i hi => ?_⟩, ?_⟩⟩
    · refine ⟨fun h => (by cases h), fun h => ?_⟩
      have := h.1 k (by omega)
      omega
    · by_cases e : i = k
      · subst e; omega
      · exact hck i (by omega)
    · show T.length - Int.toNat ((k : Int) + 1) < T.length - Int.toNat (k : Int)
      omega
  · have hkr : k = T.length := by omega
    obtain ⟨y, f1, f2⟩ := h4.at (i := 0) (by omega)
    have n2 := f2.nt.trans (tw_eq (by omega)).symm
    have ib := h4.inB (i := 0) (by omega) (by omega)
    refine ⟨ib, y, f1, fun hy => ⟨ib, y, f1, fun W10 _ => ⟨_, rfl, ?_⟩⟩, fun hy W11 _ => ⟨false, rfl, ?_⟩⟩
    · rw [decide_eq_true_iff]
      exact ⟨fun h => ⟨fun i hi => hck i (by omega), by omega, by omega, by omega, by omega⟩, fun h => by have := h.2.2.2.2; omega⟩
    · refine ⟨fun h => (by cases h), fun h => ?_⟩
      have := h.2.2.2.1
      omega
  · refine ⟨fun h => (by cases h), fun h => ?_⟩
    have := h.2.2.1
    omega
  · refine ⟨fun h => (by cases h), fun h => ?_⟩
    have := h.2.1
    omega
theorem txEven_call {W0 W : PW} {M : Nat → Prop} {s : Sl} {T : List (List ByteArray)} {K : Value → PW → Prop} (h : IsTx W s T) (hr : T.length ≤ 1099511627776) (kont : ∀ (b : Bool) (W' : PW), Ext W W' → ((b = true ↔ RightP T.length (tw T))) → K (.bool b) W') :
    callN Go.Proofs.Try.prog W0 M 37 [s.v] W K :=
  callN_of (fun W' hE => txEven_ok (M := fun _ => False) (h.ext hE) hr) (fun W' v W'' hE hE' hP => by
    obtain ⟨b, rfl, h⟩ := hP
    exact kont b W'' (hE.trans hE') h)
theorem matParse_ok {W0 : PW} {M : Nat → Prop} {n0 : Nat} {s : Sl} {T : List (List ByteArray)} (hn : NewFrom n0 W0) (h : IsTx W0 s T) (hr : T.length ≤ 1099511627776) (ht : ∀ i j, (txt T i j).size ≤ 1099511627776) :
    PCallsM Go.Proofs.Try.prog 17 [s.v] W0 M fun v W' => ∃ (s' : Sl), ∃ (e : Int), v = .tuple #[Sl.v s', .int .i64 e] ∧ (e = 0 → RightP T.length (tw T) ∧ OMat 106 43 31 (n0 ≤ ·) W' s' T.length (tw T 0) (fun i j => (parseQ (txt T i j)).getD 0)) ∧ (e ≠ 0 → ¬ (RightP T.length (tw T) ∧ ∀ i j, i < T.length → j < tw T i → (parseQ (txt T i j)).isSome = true)) := by
  apply callmat_Parse
  have hsn := h.n
  refine txEven_call h hr fun b W2 hE2 hb => ⟨b, rfl, fun hf W4 _ => ⟨⟨none, 0, 0⟩, 1, rfl, fun h => (by cases h), fun _ h => ?_⟩, fun ht' => ?_⟩
  · rw [hb.2 h.1] at hf; cases hf
  have hbt : b = true := by simpa using ht'
  have hR := hb.1 hbt
  have hR' := hR
  obtain ⟨hc, hr1, hr12, hc1, hc12⟩ := hR'
  have h2 := h.ext hE2
  obtain ⟨y, f1, f2⟩ := h2.at (i := 0) (by omega)
  have ny := f2.nt.trans (tw_eq (by omega)).symm
  refine ⟨h2.inB (by omega) (by omega), y, f1, ?_⟩
  rw [ny, hsn]
  obtain ⟨n1, hn1⟩ : ∃ n1, W2.w.heap.size = n1 := ⟨_, rfl⟩
  have hle : W2.w.heap.size ≤ n1 := by omega
  have hn1' : NewFrom n1 W2 := by unfold NewFrom; omega
  have h01 : W0.w.heap.size ≤ n1 := Nat.le_trans hE2.size hle
  refine matNone_call hn1' (by omega) (by omega) fun s8 W7 hE7 h8 => ⟨s8, rfl, ?_⟩
  refine ⟨fun l W => match l with | [.val (.int .i64 i)] => ∃ k : Nat, i = (k : Int) ∧ k ≤ T.length ∧ ExtN n1 W2 W ∧ OMat 106 43 31 (n1 ≤ ·) W s8 T.length (tw T 0) (fun a b => if a < k then (parseQ (txt T a b)).getD 0 else 0) | _ => False, fun l _ => match l with | [.val (.int .i64 i)] => T.length - i.toNat | _ => 0, ⟨0, rfl, Nat.zero_le _, hE7.toM _, h8.congr fun i j _ _ => by simp⟩, ?_⟩
  rintro i11 W12 ⟨k, rfl, hk, hE12, h12⟩
  refine ⟨fun hlt => ?_, fun hge W28 hE28 => ⟨s8, 0, rfl, fun _ => ⟨hR, ?_⟩, fun h => absurd rfl h⟩⟩
  · have hkr : k < T.length := by omega
    obtain ⟨x, e1, e2⟩ := h2.at (i := k) hkr
    have nx := e2.nt.trans (tw_eq hkr).symm
    have hck := hc k hkr
    have hkt := tw_eq hkr
    refine ⟨(h2.new hE12 hle).inB (by omega) (by omega), x, e1.new hE12 hle, ?_⟩
    refine ⟨fun l W => match l with | [.val (.int .i64 i)] => ∃ l : Nat, i = (l : Int) ∧ l ≤ tw T 0 ∧ ExtN n1 W2 W ∧ OMat 106 43 31 (n1 ≤ ·) W s8 T.length (tw T 0) (fun a b => if a < k ∨ (a = k ∧ b < l) then (parseQ (txt T a b)).getD 0 else 0) | _ => False, fun l _ => match l with | [.val (.int .i64 i)] => tw T 0 - i.toNat | _ => 0, ⟨0, rfl, Nat.zero_le _, hE12, h12.congr fun i j _ _ => by simp⟩, ?_⟩
    rintro i16 W17 ⟨l, rfl, hl, hE17, h17⟩
    refine ⟨fun hlt2 => ?_, fun hge2 => ⟨by unfold I64; omega, ⟨k + 1, by push_cast; rfl, by omega, hE17, h17.congr fun a b ha hb => ?_⟩, ?_⟩⟩
    · have hlc : l < tw T 0 := by omega
      have e17 := e2.new hE17 hle
      have hlt3 : l < T[k].length := by omega
      have htx := txt_eq hkr hlt3
      refine ⟨e17.inBt (by omega) (by omega), _, e17.text hlt3, ?_⟩
      rw [← htx]
      refine ratParse_call (ht k l) fun s21 b22 s23 W20 hE20 h21 => ⟨s21, b22, s23, _, rfl, fun hne W25 _ => ⟨⟨none, 0, 0⟩, _, rfl, fun h => absurd h hne, fun _ hall => ?_⟩, fun heq => ?_⟩
      · have := hall.2 k l hkr (by omega)
        rw [er_ne hne] at this
        cases this
      · have h20 := h17.ext hE20
        obtain ⟨z, z1, z2⟩ := h20.mat.at (i := k) hkr
        refine ⟨h20.mat.inB (by omega) (by omega), z, z1, z2.inB (by omega) (by omega), ?_⟩
        refine h20.store (j := l) z1 hkr hlc h21 (by decide) (by decide) (fun g hg => .inr (Nat.le_trans h01 hg)) fun W22 hp h22 => ⟨by unfold I64; omega, ⟨l + 1, by push_cast; rfl, by omega, (hE17.trans (hE20.toM _)).trans (hp.extN fun g hg => hg), h22.congr fun a b ha hb => ?_⟩, ?_⟩
        · unfold setM
          by_cases e : a = k ∧ b = l
          · rw [if_pos e, if_pos (by omega), e.1, e.2]
          · rw [if_neg e]
            dsimp only
            by_cases e' : a < k ∨ (a = k ∧ b < l)
            · rw [if_pos e', if_pos (by omega)]
            · rw [if_neg e', if_neg (by omega)]
        · show tw T 0 - Int.toNat ((l : Int) + 1) < tw T 0 - Int.toNat (l : Int)
          omega
    · by_cases e' : a < k ∨ (a = k ∧ b < l)
      · rw [if_pos e', if_pos (by omega)]
      · rw [if_neg e', if_neg (by omega)]
    · show T.length - Int.toNat ((k : Int) + 1) < T.length - Int.toNat (k : Int)
      omega
  · refine ((h12.ext hE28).mono fun g hg => Nat.le_trans (hn.ext hE2) (Nat.le_trans hle hg)).congr fun a b ha hb => ?_
    rw [if_pos (by omega)]
theorem matParse_call {W0 W : PW} {M : Nat → Prop} {n0 : Nat} {s : Sl} {T : List (List ByteArray)} {K : Value → PW → Prop} (hn : NewFrom n0 W) (h : IsTx W s T) (hr : T.length ≤ 1099511627776) (ht : ∀ i j, (txt T i j).size ≤ 1099511627776) (kont : ∀ (s' : Sl) (e : Int) (W' : PW), Ext W W' → ((e = 0 → RightP T.length (tw T) ∧ OMat 106 43 31 (n0 ≤ ·) W' s' T.length (tw T 0) (fun i j => (parseQ (txt T i j)).getD 0)) ∧ (e ≠ 0 → ¬ (RightP T.length (tw T) ∧ ∀ i j, i < T.length → j < tw T i → (parseQ (txt T i j)).isSome = true))) → K (.tuple #[Sl.v s', .int .i64 e]) W') :
    callN Go.Proofs.Try.prog W0 M 17 [s.v] W K :=
  callN_of (fun W' hE => matParse_ok (M := fun _ => False) (hn.ext hE) (h.ext hE) hr ht) (fun W' v W'' hE hE' hP => by
    obtain ⟨s', e, rfl, h⟩ := hP
    exact kont s' e W'' (hE.trans hE') h)
end Go.Proofs.Ytcffcndpefaalaa

/- cincturelaw11.Raw. -/
set_option maxRecDepth 100000
set_option linter.unusedVariables false
set_option linter.unusedSimpArgs false
namespace Go.Proofs.Ytcffcndpefaalaa
open Go Go.SX
theorem and_dup {p : Prop} (h : p) : dup 1 p ∧ p := ⟨dup_of h 1, h⟩
/-- Cells of quotients, of both kinds. -/
def QL (t : TypeId) (W : PW) (xs : List (List Value)) (qs : List Rat) : Prop := xs.length = qs.length ∧ ∀ i (h : i < qs.length), ∃ (s : Sl) (b : Bool) (s' : Sl), xs[i]? = some [s.v, .bool b, s'.v] ∧ IsRat t W s b s' qs[i]
def RQL (t : TypeId) (W : PW) (xs : List (List Value)) (qs : List Rat) : Prop := xs.length = qs.length ∧ ∀ i (h : i < qs.length), ∃ (b : Bool) (s s' : Sl), xs[i]? = some [.bool b, s.v, s'.v] ∧ IsRefQ t W b s s' qs[i]
theorem QL.ext {t : TypeId} {W W' : PW} {xs : List (List Value)} {qs : List Rat} (h : QL t W xs qs) (hE : Ext W W') : QL t W' xs qs := ⟨h.1, fun i hi => let ⟨s, b, s', h1, h2⟩ := h.2 i hi; ⟨s, b, s', h1, h2.ext hE⟩⟩
theorem RQL.ext {t : TypeId} {W W' : PW} {xs : List (List Value)} {qs : List Rat} (h : RQL t W xs qs) (hE : Ext W W') : RQL t W' xs qs := ⟨h.1, fun i hi => let ⟨b, s, s', h1, h2⟩ := h.2 i hi; ⟨b, s, s', h1, h2.ext hE⟩⟩
theorem QL.snoc {t : TypeId} {W : PW} {xs : List (List Value)} {qs : List Rat} {s s' : Sl} {b : Bool} {q : Rat} (h : QL t W xs qs) (hq : IsRat t W s b s' q) : QL t W (xs ++ [[s.v, .bool b, s'.v]]) (qs ++ [q]) := by
  refine ⟨by simp [h.1], fun i hi => ?_⟩
  by_cases e : i < qs.length
  · obtain ⟨a, c, d, h1, h2⟩ := h.2 i e
    exact ⟨a, c, d, by rw [List.getElem?_append_left (by rw [h.1]; exact e)]; exact h1, by rw [List.getElem_append_left e]; exact h2⟩
  · have : i = qs.length := by simp at hi; omega
    subst this
    exact ⟨s, b, s', by rw [List.getElem?_append_right (by rw [h.1]; exact Nat.le_refl _), h.1]; simp, by rw [List.getElem_concat_length rfl]; exact hq⟩
theorem RQL.snoc {t : TypeId} {W : PW} {xs : List (List Value)} {qs : List Rat} {s s' : Sl} {b : Bool} {q : Rat} (h : RQL t W xs qs) (hq : IsRefQ t W b s s' q) : RQL t W (xs ++ [[.bool b, s.v, s'.v]]) (qs ++ [q]) := by
  refine ⟨by simp [h.1], fun i hi => ?_⟩
  by_cases e : i < qs.length
  · obtain ⟨a, c, d, h1, h2⟩ := h.2 i e
    exact ⟨a, c, d, by rw [List.getElem?_append_left (by rw [h.1]; exact e)]; exact h1, by rw [List.getElem_append_left e]; exact h2⟩
  · have : i = qs.length := by simp at hi; omega
    subst this
    exact ⟨b, s, s', by rw [List.getElem?_append_right (by rw [h.1]; exact Nat.le_refl _), h.1]; simp, by rw [List.getElem_concat_length rfl]; exact hq⟩
/-- Rows of quotients, both kinds. -/
def QMs (t tq : TypeId) (W : PW) (ss : List Sl) (Q : List (List Rat)) : Prop := ss.length = Q.length ∧ ∀ i (h : i < ss.length) (h' : i < Q.length), ∃ xs, Row W tq 3 ss[i] xs ∧ QL t W xs Q[i]
def RQMs (t tq : TypeId) (W : PW) (ss : List Sl) (Q : List (List Rat)) : Prop := ss.length = Q.length ∧ ∀ i (h : i < ss.length) (h' : i < Q.length), ∃ xs, Row W tq 3 ss[i] xs ∧ RQL t W xs Q[i]
theorem QMs.ext {t tq : TypeId} {W W' : PW} {ss : List Sl} {Q : List (List Rat)} (h : QMs t tq W ss Q) (hE : Ext W W') : QMs t tq W' ss Q := ⟨h.1, fun i hi hi' => let ⟨xs, h1, h2⟩ := h.2 i hi hi'; ⟨xs, h1.ext hE, h2.ext hE⟩⟩
theorem RQMs.ext {t tq : TypeId} {W W' : PW} {ss : List Sl} {Q : List (List Rat)} (h : RQMs t tq W ss Q) (hE : Ext W W') : RQMs t tq W' ss Q := ⟨h.1, fun i hi hi' => let ⟨xs, h1, h2⟩ := h.2 i hi hi'; ⟨xs, h1.ext hE, h2.ext hE⟩⟩
theorem QMs.snoc {t tq : TypeId} {W : PW} {ss : List Sl} {Q : List (List Rat)} {s : Sl} {xs : List (List Value)} {qs : List Rat} (h : QMs t tq W ss Q) (hr : Row W tq 3 s xs) (hq : QL t W xs qs) : QMs t tq W (ss ++ [s]) (Q ++ [qs]) := by
  refine ⟨by simp [h.1], fun i hi hi' => ?_⟩
  by_cases e : i < ss.length
  · rw [List.getElem_append_left e, List.getElem_append_left (by have := h.1; omega)]
    exact h.2 i e _
  · have : i = ss.length := by simp at hi; omega
    subst this
    have e2 : (Q ++ [qs])[ss.length]'hi' = qs := by
      rw [List.getElem_append_right (by rw [h.1]; exact Nat.le_refl _)]
      simp [h.1]
    rw [List.getElem_concat_length rfl, e2]
    exact ⟨xs, hr, hq⟩
theorem RQMs.snoc {t tq : TypeId} {W : PW} {ss : List Sl} {Q : List (List Rat)} {s : Sl} {xs : List (List Value)} {qs : List Rat} (h : RQMs t tq W ss Q) (hr : Row W tq 3 s xs) (hq : RQL t W xs qs) : RQMs t tq W (ss ++ [s]) (Q ++ [qs]) := by
  refine ⟨by simp [h.1], fun i hi hi' => ?_⟩
  by_cases e : i < ss.length
  · rw [List.getElem_append_left e, List.getElem_append_left (by have := h.1; omega)]
    exact h.2 i e _
  · have : i = ss.length := by simp at hi; omega
    subst this
    have e2 : (Q ++ [qs])[ss.length]'hi' = qs := by
      rw [List.getElem_append_right (by rw [h.1]; exact Nat.le_refl _)]
      simp [h.1]
    rw [List.getElem_concat_length rfl, e2]
    exact ⟨xs, hr, hq⟩
def qw (Q : List (List Rat)) (i : Nat) : Nat := (Q[i]?.getD []).length
def qm (Q : List (List Rat)) (i j : Nat) : Rat := (Q[i]?.getD [])[j]?.getD 0
theorem QMs.mat {t tq ts : TypeId} {W : PW} {s : Sl} {ss : List Sl} {Q : List (List Rat)} (h : QMs t tq W ss Q) (hr : Row W ts 1 s (ss.map fun x => [x.v])) : IsMat t tq ts W s Q.length (qw Q) (qm Q) := by
  refine ⟨ss, hr, h.1, fun i hi => ?_⟩
  have hi' : i < Q.length := by have := h.1; omega
  obtain ⟨xs, h1, h2⟩ := h.2 i hi hi'
  have e : Q[i]?.getD [] = Q[i] := by rw [List.getElem?_eq_getElem hi']; rfl
  refine ⟨xs, h1, by unfold qw; rw [e]; exact h2.1, fun j hj => ?_⟩
  unfold qw at hj
  rw [e] at hj
  obtain ⟨a, b, c, k1, k2⟩ := h2.2 j hj
  refine ⟨a, b, c, k1, ?_⟩
  unfold qm
  rw [e, List.getElem?_eq_getElem hj]
  exact k2
/-- The matrix of the document's program. -/
def IsRefMat (t tq ts : TypeId) (W : PW) (s : Sl) (Q : List (List Rat)) : Prop := ∃ ss : List Sl, Row W ts 1 s (ss.map fun x => [x.v]) ∧ RQMs t tq W ss Q
def Small (Q : List (List Rat)) : Prop := Q.length ≤ 5 ∧ ∀ qs ∈ Q, qs.length ≤ 5 ∧ ∀ q ∈ qs, Sz 3 q
theorem Small.sz {Q : List (List Rat)} (h : Small Q) (i j : Nat) : Sz 3 (qm Q i j) := by
  unfold qm
  cases e : Q[i]? with
  | none => exact Sz.zero (by omega)
  | some qs =>
    show Sz 3 (qs[j]?.getD 0)
    cases e2 : qs[j]? with
    | none => exact Sz.zero (by omega)
    | some q => exact (h.2 qs (List.mem_of_getElem? e)).2 q (List.mem_of_getElem? e2)
def rawI (W0 : PW) (n : Nat) (l : List PL) (W : PW) : Prop :=
  match l with
  | [.row l3, .row l4, .val (.int .i64 i)] => Ext W0 W ∧ ∃ (ss ss' : List Sl) (Q : List (List Rat)), l3 = (ss.map fun x => [x.v]) ∧ l4 = (ss'.map fun x => [x.v]) ∧ i = (Q.length : Int) ∧ Q.length ≤ n ∧ QMs 106 43 W ss Q ∧ RQMs 106 57 W ss' Q ∧ Small Q
  | _ => False
def rawI2 (W6 : PW) (n : Nat) (l : List PL) (W : PW) : Prop :=
  match l with
  | [.row l9, .row l10, .val (.int .i64 i)] => Ext W6 W ∧ ∃ (qs : List Rat) (j : Nat), i = (j : Int) ∧ qs.length ≤ j ∧ j ≤ 5 ∧ j ≤ n ∧ QL 106 W l9 qs ∧ RQL 106 W l10 qs ∧ ∀ q ∈ qs, Sz 3 q
  | _ => False
def rawM (n : Nat) (l : List PL) (W : PW) : Nat :=
  match l with
  | [_, _, .val (.int .i64 i)] => n - i.toNat
  | _ => 0
theorem lawRaw_ok {W0 : PW} {M : Nat → Prop} {s : Sl} {T : List (List ByteArray)} (h : IsTx W0 s T) (hT : ∀ i j, (txt T i j).size ≤ 1099511627776) :
    PCallsM Go.Proofs.Try.prog 4 [s.v] W0 M fun v W' => ∃ (m : Sl), ∃ (x : Sl), ∃ (Q : List (List Rat)), v = .tuple #[Sl.v m, Sl.v x] ∧ IsMat 106 43 31 W' m Q.length (qw Q) (qm Q) ∧ IsRefMat 106 57 51 W' x Q ∧ Small Q := by
  apply calllaw11_Raw
  have hn := h.n
  refine ⟨rawI W0 T.length, rawM T.length, ⟨Ext.refl _, [], [], [], rfl, rfl, rfl, Nat.zero_le _, ⟨rfl, fun i h => by simp at h⟩, ⟨rfl, fun i h => by simp at h⟩, by simp, fun qs h => by simp at h⟩, ?_⟩
  rintro l3 l4 i5 W6 ⟨hE6, ss, ss', Q, rfl, rfl, rfl, hQn, hQ, hR, hSm⟩
  refine ⟨fun hlt => ⟨fun h5 => ?_, fun h5 => ?_⟩, fun hge => ⟨fun h => (by cases h), fun _ => ?_⟩⟩
  rotate_left
  · intro s104 W105 hE105 hO105 hf105 s107 W108 hE108 hO108 hf108 W110 hE110
    exact ⟨s104, s107, Q, rfl, (((hQ.ext hE105).ext hE108).ext hE110).mat ((hO105.ext hE108).ext hE110).row, ⟨ss', (hO108.ext hE110).row, ((hR.ext hE105).ext hE108).ext hE110⟩, hSm⟩
  · intro s104 W105 hE105 hO105 hf105 s107 W108 hE108 hO108 hf108 W110 hE110
    exact ⟨s104, s107, Q, rfl, (((hQ.ext hE105).ext hE108).ext hE110).mat ((hO105.ext hE108).ext hE110).row, ⟨ss', (hO108.ext hE110).row, ((hR.ext hE105).ext hE108).ext hE110⟩, hSm⟩
  have hk : Q.length < T.length := by omega
  have h6 := h.ext hE6
  have hS1 := hSm.1
  obtain ⟨r, e1, e2⟩ := h6.at (i := Q.length) hk
  have nr := e2.nt
  refine ⟨rawI2 W6 T[Q.length].length, rawM T[Q.length].length, ⟨Ext.refl _, [], 0, rfl, Nat.le_refl _, by omega, Nat.zero_le _, ⟨rfl, fun i h => by simp at h⟩, ⟨rfl, fun i h => by simp at h⟩, fun q h => by simp at h⟩, ?_⟩
  rintro l9 l10 i11 W12 ⟨hE12, qs, j, rfl, hqj, hj5, hjn, hl9, hl10, hsz⟩
  have ib : inB s (Q.length : Int) := h6.inB (by omega) (by omega)
  refine ⟨ib, r, e1.ext hE12, fun hlt2 => ⟨fun h52 => ?_, fun h52 => ?_⟩, fun hge2 => ⟨fun h => (by cases h), fun _ => ?_⟩⟩
  rotate_left
  · intro s27 W28 hE28 hO28 hf28
    refine ⟨by simp only [List.length_map, hQ.1, List.length_cons, List.length_nil]; omega, fun s30 W31 hE31 hO31 hf31 => ⟨by simp only [List.length_map, hR.1, List.length_cons, List.length_nil]; omega, by unfold I64; omega, ⟨((hE6.trans hE12).trans hE28).trans hE31, ss ++ [s27], ss' ++ [s30], Q ++ [qs], by simp, by simp, by simp, by simp; omega, (((hQ.ext hE12).ext hE28).ext hE31).snoc (hO28.ext hE31).row ((hl9.ext hE28).ext hE31), (((hR.ext hE12).ext hE28).ext hE31).snoc hO31.row ((hl10.ext hE28).ext hE31), by simp; omega, fun q hq => ?_⟩, ?_⟩⟩
    · rcases List.mem_append.1 hq with h | h
      · exact hSm.2 q h
      · rw [List.mem_singleton.1 h]
        exact ⟨by omega, hsz⟩
    · show T.length - Int.toNat ((Q.length : Int) + 1) < T.length - Int.toNat (Q.length : Int)
      omega
  · intro s27 W28 hE28 hO28 hf28
    refine ⟨by simp only [List.length_map, hQ.1, List.length_cons, List.length_nil]; omega, fun s30 W31 hE31 hO31 hf31 => ⟨by simp only [List.length_map, hR.1, List.length_cons, List.length_nil]; omega, by unfold I64; omega, ⟨((hE6.trans hE12).trans hE28).trans hE31, ss ++ [s27], ss' ++ [s30], Q ++ [qs], by simp, by simp, by simp, by simp; omega, (((hQ.ext hE12).ext hE28).ext hE31).snoc (hO28.ext hE31).row ((hl9.ext hE28).ext hE31), (((hR.ext hE12).ext hE28).ext hE31).snoc hO31.row ((hl10.ext hE28).ext hE31), by simp; omega, fun q hq => ?_⟩, ?_⟩⟩
    · rcases List.mem_append.1 hq with h | h
      · exact hSm.2 q h
      · rw [List.mem_singleton.1 h]
        exact ⟨by omega, hsz⟩
    · show T.length - Int.toNat ((Q.length : Int) + 1) < T.length - Int.toNat (Q.length : Int)
      omega
  have hjT : j < T[Q.length].length := by omega
  have r12 := e2.ext hE12
  have htx := txt_eq hk hjT
  refine ⟨ib, r, e1.ext hE12, r12.inBt (by omega) (by omega), _, r12.text hjT, ?_⟩
  rw [← htx]
  obtain ⟨t, ht⟩ : ∃ t, txt T Q.length j = t := ⟨_, rfl⟩
  rw [ht] at htx ⊢
  have hts : t.size ≤ 1099511627776 := by rw [← ht]; exact hT _ _
  have next : ∀ W17, Ext W12 W17 → I64 ((j : Int) + 1) ∧ rawI2 W6 T[Q.length].length [PL.row l9, PL.row l10, PL.val (Value.int IntKind.i64 ((j : Int) + 1))] W17 ∧ rawM T[Q.length].length [PL.row l9, PL.row l10, PL.val (Value.int IntKind.i64 ((j : Int) + 1))] W17 < rawM T[Q.length].length [PL.row l9, PL.row l10, PL.val (Value.int IntKind.i64 (j : Int))] W12 := by
    intro W17 hE17
    refine ⟨by unfold I64; omega, ⟨hE12.trans hE17, qs, j + 1, by push_cast; rfl, by omega, by omega, by omega, hl9.ext hE17, hl10.ext hE17, hsz⟩, ?_⟩
    show T[Q.length].length - Int.toNat ((j : Int) + 1) < T[Q.length].length - Int.toNat (j : Int)
    omega
  refine law3Num_call hts fun s18 b19 s20 b21 s22 s23 W17 hE17 ⟨h18, h22⟩ => ⟨s18, b19, s20, b21, s22, s23, _, rfl, fun hb => ?_, fun hb => ⟨fun h => (by cases h), fun _ => next W17 hE17⟩⟩
  obtain ⟨q, hq⟩ := Option.isSome_iff_exists.1 hb
  rw [hq] at h18 h22
  have h18 : IsRat 106 W17 s18 b19 s20 q := h18
  have h22 : IsRefQ 106 W17 b21 s22 s23 q := h22
  have r17 := r12.ext hE17
  have et := r17.text hjT
  rw [← htx] at et
  refine ⟨ib, r, (e1.ext hE12).ext hE17, r17.inBt (by omega) (by omega), t, et, fun h20 => ?_, fun h20 => next W17 hE17⟩
  refine and_dup ?_
  have hqs : Sz 3 q := by
    unfold numQ at hq
    rw [if_pos (by omega)] at hq
    exact (parseQ_sz hq).2 (by omega)
  refine ⟨by rw [hl9.1]; simp only [List.length_cons, List.length_nil]; omega, by rw [hl10.1]; simp only [List.length_cons, List.length_nil]; omega, by unfold I64; omega, ⟨hE12.trans hE17, qs ++ [q], j + 1, by push_cast; rfl, by simp; omega, by omega, by omega, (hl9.ext hE17).snoc h18, (hl10.ext hE17).snoc h22, fun q' hq' => ?_⟩, ?_⟩
  · rcases List.mem_append.1 hq' with h | h
    · exact hsz q' h
    · rw [List.mem_singleton.1 h]; exact hqs
  · show T[Q.length].length - Int.toNat ((j : Int) + 1) < T[Q.length].length - Int.toNat (j : Int)
    omega
theorem lawRaw_call {W0 W : PW} {M : Nat → Prop} {s : Sl} {T : List (List ByteArray)} {K : Value → PW → Prop} (h : IsTx W s T) (hT : ∀ i j, (txt T i j).size ≤ 1099511627776) (kont : ∀ (m : Sl) (x : Sl) (Q : List (List Rat)) (W' : PW), Ext W W' → (IsMat 106 43 31 W' m Q.length (qw Q) (qm Q) ∧ IsRefMat 106 57 51 W' x Q ∧ Small Q) → K (.tuple #[Sl.v m, Sl.v x]) W') :
    callN Go.Proofs.Try.prog W0 M 4 [s.v] W K :=
  callN_of (fun W' hE => lawRaw_ok (M := fun _ => False) (h.ext hE) hT) (fun W' v W'' hE hE' hP => by
    obtain ⟨m, x, Q, rfl, h⟩ := hP
    exact kont m x Q W'' (hE.trans hE') h)
end Go.Proofs.Ytcffcndpefaalaa

/- cincturelaw14.even. -/
set_option maxRecDepth 100000
set_option linter.unusedVariables false
set_option linter.unusedSimpArgs false
namespace Go.Proofs.Ytcffcndpefaalaa
open Go Go.SX
def TB (T : List (List ByteArray)) : Prop := ∀ l ∈ T, ∀ t ∈ l, t.size ≤ 1099511627776
theorem TB.txt {T : List (List ByteArray)} (h : TB T) (i j : Nat) : (txt T i j).size ≤ 1099511627776 := by
  unfold Go.Proofs.Ytcffcndpefaalaa.txt
  cases e : T[i]? with
  | none => exact Nat.zero_le _
  | some l =>
    show (l[j]?.getD ⟨⟨[]⟩⟩).size ≤ _
    cases e2 : l[j]? with
    | none => exact Nat.zero_le _
    | some t => exact h l (List.mem_of_getElem? e) t (List.mem_of_getElem? e2)
def evI (W0 : PW) (n : Nat) (l : List PL) (W : PW) : Prop :=
  match l with
  | [.row l3, .val (.int .i64 i)] => ExtN W0.w.heap.size W0 W ∧ ∃ (ss : List Sl) (T' : List (List ByteArray)), l3 = (ss.map fun x => [x.v]) ∧ i = (T'.length : Int) ∧ T'.length ≤ n ∧ OTab 9 (W0.w.heap.size ≤ ·) W ss T' ∧ TB T'
  | _ => False
def evI2 (W0 : PW) (k : Nat) (S : List Sl) (l : List PL) (W : PW) : Prop :=
  match l with
  | [.val (.int .i64 i)] => ExtN W0.w.heap.size W0 W ∧ ∃ (T' : List (List ByteArray)) (j : Nat), i = (j : Int) ∧ j ≤ k ∧ T'.length = k + 1 ∧ OTab 9 (W0.w.heap.size ≤ ·) W S T' ∧ TB T'
  | _ => False
def evM (n : Nat) (l : List PL) (W : PW) : Nat :=
  match l with
  | [_, .val (.int .i64 i)] => n - i.toNat
  | [.val (.int .i64 i)] => n - i.toNat
  | _ => 0
theorem lawEven_ok {W0 : PW} {M : Nat → Prop} {s : Sl} {T : List (List ByteArray)} (h : IsTx W0 s T) (hl : T.length ≤ 1099511627776) (hw : ∀ l ∈ T, l.length ≤ 1099511627776) (hb : TB T) :
    PCallsM Go.Proofs.Try.prog 5 [s.v] W0 M fun v W' => ∃ (s' : Sl), ∃ (T' : List (List ByteArray)), v = Sl.v s' ∧ IsTx W' s' T' ∧ TB T' := by
  apply calllaw14_even
  have hn := h.n
  refine ⟨evI W0 T.length, evM T.length, ⟨ExtM.refl _ _, [], [], rfl, rfl, Nat.zero_le _, ⟨rfl, fun i h => by simp at h, fun i j h => by simp at h⟩, fun l h => by simp at h⟩, ?_⟩
  rintro l3 i4 W5 ⟨hE5, ss, T', rfl, rfl, hTn, hO, hTB⟩
  have h5 := h.new hE5 (Nat.le_refl _)
  refine ⟨fun hlt => ?_, fun hge s34 W35 hE35 hO35 hf35 W37 hE37 => ⟨s34, T', rfl, ⟨ss, ⟨_, (hO35.ext hE37).row⟩, hO.1, fun i hi hi' => ⟨_, (((hO.2.1 i hi hi').1.ext hE35).ext hE37).row⟩⟩, hTB⟩⟩
  have hk : T'.length < T.length := by omega
  obtain ⟨k, hk'⟩ : ∃ k, T'.length = k := ⟨_, rfl⟩
  rw [hk'] at hk ⊢
  obtain ⟨x, e1, e2⟩ := h5.at (i := k) hk
  have hwk := hw T[k] (List.getElem_mem hk)
  refine ⟨h5.inB (by omega) (by omega), x, e1, tcel T[k], e2, by rw [tcel_length]; omega, fun s8 W9 hE9 hO9 hf9 => ?_⟩
  have hsl := hO.1
  have eS : (ss.map fun x => [x.v]) ++ [[s8.v]] = ((ss ++ [s8]).map fun x => [x.v]) := by simp
  obtain ⟨S, hS⟩ : ∃ S, ss ++ [s8] = S := ⟨_, rfl⟩
  have hSl : S.length = k + 1 := by rw [← hS]; simp; omega
  rw [eS, hS]
  have hO2 := hO.snoc hE9 hO9 fun g hg => hf9 g hg
  rw [hS] at hO2
  refine ⟨by rw [List.length_map]; simp only [List.length_cons, List.length_nil]; omega, evI2 W0 k S, evM k, ⟨hE5.trans (hE9.toM _), _, 0, rfl, Nat.zero_le _, by simp; omega, hO2, fun l hl => ?_⟩, ?_⟩
  · rcases List.mem_append.1 hl with h | h
    · exact hTB l h
    · rw [List.mem_singleton.1 h]
      exact hb T[k] (List.getElem_mem hk)
  rintro i13 W14 ⟨hE14, T2, j, rfl, hj, hT2, h14, hB14⟩
  have own : ∀ i (hi : i < k + 1), OwnAt (S.map fun x => [x.v]) i 0 [Sl.v (S[i]'(by omega))] := fun i hi => ⟨[Sl.v (S[i]'(by omega))], by simp [List.getElem?_eq_getElem (show i < S.length by omega)], rfl⟩
  have hSm : (S.map fun x => [x.v]).length = k + 1 := by rw [List.length_map]; exact hSl
  have next : I64 ((k : Int) + 1) ∧ evI W0 T.length [PL.row (S.map fun x => [x.v]), PL.val (.int .i64 ((k : Int) + 1))] W14 ∧ evM T.length [PL.row (S.map fun x => [x.v]), PL.val (.int .i64 ((k : Int) + 1))] W14 < evM T.length [PL.row (ss.map fun x => [x.v]), PL.val (.int .i64 (k : Int))] W5 := by
    refine ⟨by unfold I64; omega, ⟨hE14, S, T2, rfl, by omega, by omega, h14, hB14⟩, ?_⟩
    show T.length - Int.toNat ((k : Int) + 1) < T.length - Int.toNat (k : Int)
    omega
  rw [hSm]
  rw [show Int.toNat (k : Int) = k from rfl, show Int.toNat (j : Int) = j from rfl]
  have hkS : k < S.length := by omega
  have hkT : k < T2.length := by omega
  have ok := (h14.2.1 k hkS hkT).1
  have nk : (S[k]).n = T2[k].length := by rw [ok.n, tcel_length]
  refine ⟨fun hlt2 => ⟨by omega, S[k], own k (by omega), fun hlt3 => ?_, fun _ => ⟨fun h => (by cases h), fun _ => next⟩⟩, fun _ => ⟨fun h => (by cases h), fun _ => ⟨fun h => (by cases h), fun _ => next⟩⟩⟩
  have hjS : j < S.length := by omega
  have hjT : j < T2.length := by omega
  have oj := (h14.2.1 j hjS hjT).1
  have nj : (S[j]).n = T2[j].length := by rw [oj.n, tcel_length]
  refine ⟨by omega, S[j], own j (by omega), fun hlt4 => ?_, fun _ => next⟩
  have hjk : j < T2[k].length := by omega
  have hkj : k < T2[j].length := by omega
  refine ⟨by omega, S[k], own k (by omega), by omega, S[j], own j (by omega), Row.inBt oj.row (by omega) (by omega), _, Row.text oj.row hkj, Row.inBt ok.row (by omega) (by omega), ?_⟩
  refine h14.store hkS hkT hjk (fun g hg => .inr hg) fun W20 g hg hw' h20 => ⟨by unfold I64; omega, ⟨hE14.trans (hw'.extN hg), _, j + 1, by push_cast; rfl, by omega, by simpa using hT2, h20, fun l hl t ht => ?_⟩, ?_⟩
  · rcases List.mem_or_eq_of_mem_set hl with hl | rfl
    · exact hB14 l hl t ht
    · rcases List.mem_or_eq_of_mem_set ht with ht | rfl
      · exact hB14 _ (List.getElem_mem hkT) t ht
      · exact hB14 _ (List.getElem_mem hjT) _ (List.getElem_mem hkj)
  · show k - Int.toNat ((j : Int) + 1) < k - Int.toNat (j : Int)
    omega
theorem lawEven_call {W0 W : PW} {M : Nat → Prop} {s : Sl} {T : List (List ByteArray)} {K : Value → PW → Prop} (h : IsTx W s T) (hl : T.length ≤ 1099511627776) (hw : ∀ l ∈ T, l.length ≤ 1099511627776) (hb : TB T) (kont : ∀ (s' : Sl) (T' : List (List ByteArray)) (W' : PW), Ext W W' → (IsTx W' s' T' ∧ TB T') → K (Sl.v s') W') :
    callN Go.Proofs.Try.prog W0 M 5 [s.v] W K :=
  callN_of (fun W' hE => lawEven_ok (M := fun _ => False) (h.ext hE) hl hw hb) (fun W' v W'' hE hE' hP => by
    obtain ⟨s', T', rfl, h⟩ := hP
    exact kont s' T' W'' (hE.trans hE') h)
end Go.Proofs.Ytcffcndpefaalaa

/- cincturelaw14.alive. -/
set_option maxRecDepth 100000
set_option linter.unusedVariables false
set_option linter.unusedSimpArgs false
namespace Go.Proofs.Ytcffcndpefaalaa
open Go Go.SX
def b1 : ByteArray := ⟨⟨[49]⟩⟩
def b2 : ByteArray := ⟨⟨[50]⟩⟩
def aT : List (List ByteArray) := [[b2, b1], [b1, b2]]
theorem parse_b1 : parseQ b1 = some 1 := by
  have h1 : slashAt b1 = none := by decide
  have h2 : parseI b1 = some 1 := by decide
  unfold parseQ
  rw [h1, h2]; rfl
theorem parse_b2 : parseQ b2 = some 2 := by
  have h1 : slashAt b2 = none := by decide
  have h2 : parseI b2 = some 2 := by decide
  unfold parseQ
  rw [h1, h2]; rfl
def aM (i j : Nat) : Rat := (parseQ (txt aT i j)).getD 0
theorem aM00 : aM 0 0 = 2 := by show (parseQ b2).getD 0 = 2; rw [parse_b2]; rfl
theorem aM01 : aM 0 1 = 1 := by show (parseQ b1).getD 0 = 1; rw [parse_b1]; rfl
theorem aM10 : aM 1 0 = 1 := by show (parseQ b1).getD 0 = 1; rw [parse_b1]; rfl
theorem aM11 : aM 1 1 = 2 := by show (parseQ b2).getD 0 = 2; rw [parse_b2]; rfl
theorem two_cases {P : Nat → Prop} (h0 : P 0) (h1 : P 1) : ∀ i, i < 2 → P i := by
  intro i hi
  rcases (show i = 0 ∨ i = 1 by omega) with rfl | rfl
  · exact h0
  · exact h1
theorem aSym : SymP 2 (fun _ => 2) aM :=
  ⟨⟨fun _ _ => rfl, by decide, by decide, by decide, by decide⟩, rfl, fun i j hi hj => two_cases (P := fun i => aM i j = aM j i) (two_cases (P := fun j => aM 0 j = aM j 0) rfl (by rw [aM01, aM10]) j hj) (two_cases (P := fun j => aM 1 j = aM j 1) (by rw [aM01, aM10]) rfl j hj) i hi⟩
theorem aParts {L : Nat → Nat → Rat} {D : Nat → Rat} (h : Parts aM L D 2 2) : D 0 = 2 ∧ D 1 = 3 / 2 := by
  have h0 := h.diag 0 (by omega)
  have h1 := h.diag 1 (by omega)
  have hl := (h.low 1 0 (by omega) (by omega) (by omega)).1
  simp only [leftF, lsum, aM00, aM10, aM11] at h0 h1 hl
  have e0 : D 0 = 2 := by rw [h0]; grind
  have e1 : L 1 0 = 1 / 2 := by rw [hl, e0]; grind
  refine ⟨e0, ?_⟩
  rw [h1, e1, e0]
  grind
theorem aNoParts : ¬ NoParts 2 (fun _ => 2) aM := by
  rintro (h | ⟨L, D, k, j, _, h1, h2, h3, h4, _⟩)
  · exact h aSym
  · have : k = 0 := by omega
    subst this
    rw [h2] at h1
    simp only [leftF, lsum, aM00] at h1
    grind
theorem txt_two : decQ 2 = b2 := by
  have h : (2 : Rat).den = 1 := by decide
  have h2 : (2 : Rat).num = 2 := by decide
  unfold decQ
  rw [if_pos h, h2]
  unfold decI decN
  rw [if_neg (by decide), if_neg (by decide), show Int.natAbs 2 = 2 from rfl, dec_pos (by decide), show 2 / 10 = 0 from rfl, dec_zero]
  decide
theorem txt_half : decQ (3 / 2) = ⟨⟨[51, 47, 50]⟩⟩ := by
  have e : (3 / 2 : Rat) = mkRat 3 2 := by rw [Rat.mkRat_eq_div]; rfl
  have h : (3 / 2 : Rat).den = 2 := by rw [e, Rat.den_mkRat]; decide
  have h2 : (3 / 2 : Rat).num = 3 := by rw [e, Rat.num_mkRat]; decide
  unfold decQ
  rw [if_neg (by rw [h]; decide), h2, h]
  unfold decI decN
  rw [if_neg (by decide), if_neg (by decide), if_neg (by decide), show Int.natAbs 3 = 3 from rfl, dec_pos (by decide), dec_pos (x := 2) (by decide), show 3 / 10 = 0 from rfl, dec_zero]
  decide
theorem aTx {W : PW} {s1 s4 s7 : Sl} (h1 : Row W 9 1 s1 [[.string b2], [.string b1]]) (h4 : Row W 9 1 s4 [[.string b1], [.string b2]]) (h7 : Row W 52 1 s7 [[s1.v], [s4.v]]) : IsTx W s7 aT :=
  ⟨[s1, s4], ⟨_, h7⟩, rfl, fun i hi hi' => by
    have hi2 : i < 2 := hi
    rcases (show i = 0 ∨ i = 1 by omega) with rfl | rfl
    · exact ⟨_, h1⟩
    · exact ⟨_, h4⟩⟩
theorem aSz {i j : Nat} : Sz 3 (aM i j) := by
  have : (txt aT i j).size ≤ 20 := by
    unfold txt
    cases e : aT[i]? with
    | none => exact Nat.zero_le _
    | some l =>
      show (l[j]?.getD ⟨⟨[]⟩⟩).size ≤ _
      cases e2 : l[j]? with
      | none => exact Nat.zero_le _
      | some t =>
        have h1 : ∀ l ∈ aT, ∀ t ∈ l, t.size ≤ 20 := by decide
        exact h1 l (List.mem_of_getElem? e) t (List.mem_of_getElem? e2)
  unfold aM
  cases e : parseQ (txt aT i j) with
  | none => exact Sz.zero (by omega)
  | some q => exact (parseQ_sz e).2 this
theorem lawAlive_ok {W0 : PW} {M : Nat → Prop}   :
    PCallsM Go.Proofs.Try.prog 6 [] W0 M fun v W' => v = .bool true ∧ True := by
  apply calllaw14_alive
  intro s1 W2 hE2 hO1 hf1 s4 W5 hE5 hO4 hf4 s7 W8 hE8 hO7 hf7
  have ht := aTx (((hO1.ext hE5).ext hE8).row) (hO4.ext hE8).row hO7.row
  have hnn : NewFrom W8.w.heap.size W8 := Nat.le_refl _
  have hts : ∀ i j, (txt aT i j).size ≤ 1099511627776 := TB.txt (by intro l hl t ht; have h1 : ∀ l ∈ aT, ∀ t ∈ l, t.size ≤ 20 := by decide
                                                                    exact Nat.le_trans (h1 l hl t ht) (by omega))
  refine matParse_call hnn ht (by decide) hts fun s12 e W11 hE11 ⟨h1, h2⟩ => ⟨s12, e, rfl, ?_⟩
  have hR : RightP aT.length (tw aT) := ⟨two_cases (P := fun i => tw aT i = tw aT 0) rfl rfl, by decide, by decide, by decide, by decide⟩
  have he : e = 0 := by
    apply Decidable.byContradiction
    intro hne
    refine h2 hne ⟨hR, fun i j hi hj => ?_⟩
    have hi2 : i < 2 := hi
    rcases (show i = 0 ∨ i = 1 by omega) with rfl | rfl
    · have hj2 : j < 2 := hj
      rcases (show j = 0 ∨ j = 1 by omega) with rfl | rfl
      · show (parseQ b2).isSome = true; rw [parse_b2]; rfl
      · show (parseQ b1).isSome = true; rw [parse_b1]; rfl
    · have hj2 : j < 2 := hj
      rcases (show j = 0 ∨ j = 1 by omega) with rfl | rfl
      · show (parseQ b1).isSome = true; rw [parse_b1]; rfl
      · show (parseQ b2).isSome = true; rw [parse_b2]; rfl
  subst he
  have hm : IsMat 106 43 31 W11 s12 2 (fun _ => 2) aM := (h1 rfl).2.mat
  refine ldlOf_call hm (by decide) (fun i j _ _ => aSz) fun s16 s17 b18 W15 hE15 ⟨hf, ht'⟩ => ⟨s16, s17, b18, rfl, ?_⟩
  have hb : b18 = true := by
    cases b18 with
    | true => rfl
    | false => exact absurd (hf rfl).2.2 aNoParts
  subst hb
  obtain ⟨_, L, D, hu, hd, hP, hS⟩ := ht' rfl
  have hD := aParts hP
  have hub : Ub 2 ≤ 1000000 := (Ub_le 2 (by omega)).1
  refine ⟨fun _ => ⟨fun _ => ⟨fun _ => ?_, fun hne => absurd (by rw [hd.n]; rfl) hne⟩, fun h => (by cases h)⟩, fun h => absurd rfl h⟩
  obtain ⟨s19, b20, s21, e1, e2⟩ := hd.at (i := 0) (by omega)
  refine ⟨hd.inB (by omega) (by omega), s19, b20, s21, e1, ratText_call e2 (hS.2 0 (by omega)) (by omega) fun W23 hE23 _ => ⟨_, rfl, fun _ => ?_, fun hne => absurd (by rw [hD.1, txt_two]; rfl) hne⟩⟩
  have hd' := hd.ext hE23
  obtain ⟨s25, b26, s27, f1, f2⟩ := hd'.at (i := 1) (by omega)
  refine ⟨hd'.inB (by omega) (by omega), s25, b26, s27, f1, ratText_call f2 (hS.2 1 (by omega)) (by omega) fun W29 hE29 _ => ⟨_, rfl, fun W31 hE31 => ⟨?_, trivial⟩⟩⟩
  rw [hD.2, txt_half]
  rfl
theorem lawAlive_call {W0 W : PW} {M : Nat → Prop}  {K : Value → PW → Prop}  (kont : ∀  (W' : PW), Ext W W' → (True) → K (.bool true) W') :
    callN Go.Proofs.Try.prog W0 M 6 [] W K :=
  callN_of (fun W' hE => lawAlive_ok (M := fun _ => False) ) (fun W' v W'' hE hE' hP => by
    obtain ⟨rfl, h⟩ := hP
    exact kont  W'' (hE.trans hE') h)
end Go.Proofs.Ytcffcndpefaalaa
