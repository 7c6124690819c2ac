/- mat: Turn, Mul, Same; ldl: symmetric, left. -/
import Derived.Test.YtcffcndpefaalaaW9
set_option linter.unusedVariables false
set_option linter.unusedSimpArgs false
set_option maxRecDepth 100000
set_option linter.unusedVariables false
set_option linter.unusedSimpArgs false
namespace Go.Proofs.Ytcffcndpefaalaa
open Go Go.SX
theorem matTurn_ok {W0 : PW} {M : Nat → Prop} {n0 r : Nat} {s : Sl} {c : Nat → Nat} {m : Nat → Nat → Rat} (hn : NewFrom n0 W0) (h : IsMat 106 43 31 W0 s r c m) (hr : r ≤ 1099511627776) :
    PCallsM Go.Proofs.Try.prog 13 [s.v] W0 M fun v W' => ∃ (s' : Sl), ∃ (b : Bool), v = .tuple #[Sl.v s', .bool b] ∧ ((b = true ↔ RightP r c) ∧ (RightP r c → OMat 106 43 31 (n0 ≤ ·) W' s' (c 0) r (fun i j => m j i))) := by
  apply callmat_Turn
  have hsn := h.n
  refine matRight_call h hr fun b W2 hE2 hb => ⟨b, rfl, fun hf W4 hE4 => ⟨⟨none, 0, 0⟩, false, rfl, ?_, ?_⟩, fun ht => ?_⟩
  · have : b = false := by simpa using hf
    rw [this] at hb
    exact hb
  · intro hR
    have := hb.2 hR
    rw [this] at hf
    cases hf
  have hbt : b = true := by simpa using ht
  have hR := hb.1 hbt
  obtain ⟨hc, hr1, hr12, hc1, hc12⟩ := hR
  have h2 := h.ext hE2
  obtain ⟨y, f1, f2⟩ := h2.at (i := 0) (by omega)
  have ny := f2.n
  refine ⟨h2.inB (by omega) (by omega), y, f1, ?_⟩
  rw [ny, hsn]
  obtain ⟨n1, hn1⟩ : ∃ n1, W2.w.heap.size = n1 := ⟨_, rfl⟩
  have hle : W2.w.heap.size ≤ n1 := by omega
  have hn1' : NewFrom n1 W2 := by unfold NewFrom; omega
  have h01 : W0.w.heap.size ≤ n1 := Nat.le_trans hE2.size hle
  refine matNone_call hn1' (by omega) (by omega) fun s8 W7 hE7 h8 => ⟨s8, rfl, ?_⟩
  refine ⟨fun l W => match l with | [.val (.int .i64 i)] => ∃ k : Nat, i = (k : Int) ∧ k ≤ r ∧ ExtN n1 W2 W ∧ OMat 106 43 31 (n1 ≤ ·) W s8 (c 0) r (fun a b => if b < k then m b a else 0) | _ => False, fun l _ => match l with | [.val (.int .i64 i)] => r - i.toNat | _ => 0, ⟨0, rfl, Nat.zero_le _, hE7.toM _, h8.congr fun i j _ _ => by simp⟩, ?_⟩
  rintro i11 W12 ⟨k, rfl, hk, hE12, h12⟩
  refine ⟨fun hlt => ?_, fun hge W23 hE23 => ⟨s8, true, rfl, ⟨fun _ => hb.1 hbt, fun _ => rfl⟩, fun _ => ?_⟩⟩
  · have hkr : k < r := by omega
    obtain ⟨x, e1, e2⟩ := h2.at (i := k) hkr
    have nx := e2.n
    have hck := hc k hkr
    refine ⟨(h2.new hE12 hle).inB (by omega) (by omega), x, e1.new hE12 hle, ?_⟩
    refine ⟨fun l W => match l with | [.val (.int .i64 i)] => ∃ l : Nat, i = (l : Int) ∧ l ≤ c 0 ∧ ExtN n1 W2 W ∧ OMat 106 43 31 (n1 ≤ ·) W s8 (c 0) r (fun a b => if b < k ∨ (b = k ∧ a < l) then m b a else 0) | _ => False, fun l _ => match l with | [.val (.int .i64 i)] => c 0 - i.toNat | _ => 0, ⟨0, rfl, Nat.zero_le _, hE12, h12.congr fun i j _ _ => by simp⟩, ?_⟩
    rintro i16 W17 ⟨l, rfl, hl, hE17, h17⟩
    refine ⟨fun hlt2 => ?_, fun hge2 => ⟨by unfold I64; omega, ⟨k + 1, by push_cast; rfl, by omega, hE17, h17.congr fun a b ha hb => ?_⟩, ?_⟩⟩
    · have hlc : l < c 0 := by omega
      have e17 := e2.new hE17 hle
      obtain ⟨s18, b19, s20, g1, g2⟩ := e17.at (i := l) (by omega)
      obtain ⟨z, z1, z2⟩ := h17.mat.at (i := l) hlc
      refine ⟨e17.inB (by omega) (by omega), s18, b19, s20, g1, h17.mat.inB (by omega) (by omega), z, z1, z2.inB (by omega) (by omega), ?_⟩
      refine h17.store (j := k) z1 hlc hkr g2 (by decide) (by decide) (fun g hg => .inr (Nat.le_trans h01 hg)) fun W22 hp h22 => ⟨by unfold I64; omega, ⟨l + 1, by push_cast; rfl, by omega, hE17.trans (hp.extN fun g hg => hg), h22.congr fun a b ha hb => ?_⟩, ?_⟩
      · unfold setM
        by_cases e : a = l ∧ b = k
        · rw [if_pos e, if_pos (by omega), e.1, e.2]
        · rw [if_neg e]
          dsimp only
          by_cases e' : b < k ∨ (b = k ∧ a < l)
          · rw [if_pos e', if_pos (by omega)]
          · rw [if_neg e', if_neg (by omega)]
      · show c 0 - Int.toNat ((l : Int) + 1) < c 0 - Int.toNat (l : Int)
        omega
    · by_cases e' : b < k ∨ (b = k ∧ a < l)
      · rw [if_pos e', if_pos (by omega)]
      · rw [if_neg e', if_neg (by omega)]
    · show r - Int.toNat ((k : Int) + 1) < r - Int.toNat (k : Int)
      omega
  · refine ((h12.ext hE23).mono fun g hg => Nat.le_trans (hn.ext hE2) (Nat.le_trans hle hg)).congr fun a b ha hb => ?_
    rw [if_pos (by omega)]
theorem matTurn_call {W0 W : PW} {M : Nat → Prop} {n0 r : Nat} {s : Sl} {c : Nat → Nat} {m : Nat → Nat → Rat} {K : Value → PW → Prop} (hn : NewFrom n0 W) (h : IsMat 106 43 31 W s r c m) (hr : r ≤ 1099511627776) (kont : ∀ (s' : Sl) (b : Bool) (W' : PW), Ext W W' → (((b = true ↔ RightP r c) ∧ (RightP r c → OMat 106 43 31 (n0 ≤ ·) W' s' (c 0) r (fun i j => m j i)))) → K (.tuple #[Sl.v s', .bool b]) W') :
    callN Go.Proofs.Try.prog W0 M 13 [s.v] W K :=
  callN_of (fun W' hE => matTurn_ok (M := fun _ => False) (hn.ext hE) (h.ext hE) hr) (fun W' v W'' hE hE' hP => by
    obtain ⟨s', b, rfl, h⟩ := hP
    exact kont s' b W'' (hE.trans hE') h)
theorem lsum_sz {f : Nat → Rat} {K : Nat} : ∀ {j : Nat} (_ : ∀ t, t < j → Sz K (f t)), Sz (j * (K + 1) + 1) (lsum f j)
  | 0, _ => Sz.zero (by omega)
  | j + 1, h => by
    have h1 := lsum_sz (j := j) (fun t ht => h t (by omega))
    have := h1.add (h j (by omega))
    exact this.mono (by rw [Nat.succ_mul]; omega)
theorem matMul_ok {W0 : PW} {M : Nat → Prop} {n0 r r' k l : Nat} {s t : Sl} {c c' : Nat → Nat} {m m' : Nat → Nat → Rat} (hn : NewFrom n0 W0) (h1 : IsMat 106 43 31 W0 s r c m) (h2 : IsMat 106 43 31 W0 t r' c' m') (hr : r ≤ 1099511627776) (hr' : r' ≤ 1099511627776) (hz1 : ∀ i j, i < r → j < c i → Sz k (m i j)) (hz2 : ∀ i j, i < r' → j < c' i → Sz l (m' i j)) (hk : k ≤ 100000000) (hl : l ≤ 100000000) :
    PCallsM Go.Proofs.Try.prog 14 [s.v, t.v] W0 M fun v W' => ∃ (s' : Sl), ∃ (b : Bool), v = .tuple #[Sl.v s', .bool b] ∧ ((b = true ↔ RightP r c ∧ RightP r' c' ∧ c 0 = r') ∧ (RightP r c ∧ RightP r' c' ∧ c 0 = r' → OMat 106 43 31 (n0 ≤ ·) W' s' r (c' 0) (mulF m m' r'))) := by
  apply callmat_Mul
  have hsn := h1.n
  have htn := h2.n
  have bad : ¬ (RightP r c ∧ RightP r' c' ∧ c 0 = r') → ∀ W' : PW, ∃ (s' : Sl) (b : Bool), (Value.tuple #[.slice none 0 0, .bool false]) = .tuple #[Sl.v s', .bool b] ∧ ((b = true ↔ RightP r c ∧ RightP r' c' ∧ c 0 = r') ∧ (RightP r c ∧ RightP r' c' ∧ c 0 = r' → OMat 106 43 31 (n0 ≤ ·) W' s' r (c' 0) (mulF m m' r'))) :=
    fun h W' => ⟨⟨none, 0, 0⟩, false, rfl, ⟨fun h => (by cases h), fun h' => absurd h' h⟩, fun h' => absurd h' h⟩
  refine ⟨fun _ W => Ext W0 W ∧ RightP r c ∧ RightP r' c' ∧ c 0 = r', ?_, ?_⟩
  · refine matRight_call h1 hr fun b W3 hE3 hb => ⟨b, rfl, fun hf => ⟨fun _ => ⟨fun _ W5 _ => bad (fun h => ?_) W5, fun h => (by cases h)⟩, fun h => (by cases h)⟩, fun ht => ?_⟩
    · rw [hb.2 h.1] at hf; cases hf
    have hR := hb.1 (by simpa using ht)
    refine matRight_call (h2.ext hE3) hr' fun b' W9 hE9 hb' => ⟨b', rfl, fun hf => ⟨fun _ W11 _ => bad (fun h => ?_) W11, fun h => (by cases h)⟩, fun ht' => ?_⟩
    · rw [hb'.2 h.2.1] at hf; cases hf
    have hR' := hb'.1 (by simpa using ht')
    have h9 := (h1.ext hE3).ext hE9
    have hr1 := hR.2.1
    obtain ⟨y, f1, f2⟩ := h9.at (i := 0) (by omega)
    have ny := f2.n
    refine ⟨h9.inB (by omega) (by omega), y, f1, fun hne W13 _ => bad (fun h => ?_) W13, fun heq => ⟨hE3.trans hE9, hR, hR', by omega⟩⟩
    have := h.2.2
    omega
  rintro W14 ⟨hE14, hR, hR', hcr⟩
  have hok : RightP r c ∧ RightP r' c' ∧ c 0 = r' := ⟨hR, hR', hcr⟩
  obtain ⟨hc, hr1, hr12, hc1, hc12⟩ := hR
  obtain ⟨hc', hr1', hr12', hc1', hc12'⟩ := hR'
  have a14 := h1.ext hE14
  have b14 := h2.ext hE14
  obtain ⟨y, f1, f2⟩ := b14.at (i := 0) (by omega)
  have ny := f2.n
  refine ⟨b14.inB (by omega) (by omega), y, f1, ?_⟩
  rw [ny, hsn]
  obtain ⟨n1, hn1⟩ : ∃ n1, W14.w.heap.size = n1 := ⟨_, rfl⟩
  have hle : W14.w.heap.size ≤ n1 := by omega
  have hn1' : NewFrom n1 W14 := by unfold NewFrom; omega
  have h01 : W0.w.heap.size ≤ n1 := Nat.le_trans hE14.size hle
  refine matNone_call hn1' (by omega) (by omega) fun s18 W17 hE17 h18 => ⟨s18, rfl, ?_⟩
  refine ⟨fun l W => match l with | [.val (.int .i64 i)] => ∃ p : Nat, i = (p : Int) ∧ p ≤ r ∧ ExtN n1 W14 W ∧ OMat 106 43 31 (n1 ≤ ·) W s18 r (c' 0) (fun a b => if a < p then mulF m m' r' a b else 0) | _ => False, fun l _ => match l with | [.val (.int .i64 i)] => r - i.toNat | _ => 0, ⟨0, rfl, Nat.zero_le _, hE17.toM _, h18.congr fun i j _ _ => by simp⟩, ?_⟩
  rintro i21 W22 ⟨p, rfl, hp, hE22, h22⟩
  refine ⟨fun hlt => ?_, fun hge W55 hE55 => ⟨s18, true, rfl, ⟨fun _ => hok, fun _ => rfl⟩, fun _ => ?_⟩⟩
  · have hpr : p < r := by omega
    obtain ⟨x, e1, e2⟩ := a14.at (i := p) hpr
    have nx := e2.n
    have hcp := hc p hpr
    refine ⟨(a14.new hE22 hle).inB (by omega) (by omega), x, e1.new hE22 hle, ?_⟩
    refine ⟨fun l W => match l with | [.val (.int .i64 i)] => ∃ q : Nat, i = (q : Int) ∧ q ≤ r' ∧ ExtN n1 W14 W ∧ OMat 106 43 31 (n1 ≤ ·) W s18 r (c' 0) (fun a b => if a < p then mulF m m' r' a b else if a = p then lsum (fun t => m a t * m' t b) q else 0) | _ => False, fun l _ => match l with | [.val (.int .i64 i)] => r' - i.toNat | _ => 0, ⟨0, rfl, Nat.zero_le _, hE22, h22.congr fun i j _ _ => by simp [lsum]⟩, ?_⟩
    rintro i26 W27 ⟨q, rfl, hq, hE27, h27⟩
    refine ⟨fun hlt2 => ?_, fun hge2 => ⟨by unfold I64; omega, ⟨p + 1, by push_cast; rfl, by omega, hE27, h27.congr fun a b ha hb => ?_⟩, ?_⟩⟩
    · have hqr : q < r' := by omega
      have e27 := e2.new hE27 hle
      obtain ⟨s28, b29, s30, g1, g2⟩ := e27.at (i := q) (by omega)
      obtain ⟨z, z1, z2⟩ := b14.at (i := q) hqr
      have nz := z2.n
      have hcq := hc' q hqr
      refine ⟨e27.inB (by omega) (by omega), s28, b29, s30, g1, (b14.new hE27 hle).inB (by omega) (by omega), z, z1.new hE27 hle, ?_⟩
      refine ⟨fun l W => match l with | [.val (.int .i64 i)] => ∃ v : Nat, i = (v : Int) ∧ v ≤ c' 0 ∧ ExtN n1 W14 W ∧ IsRat 106 W s28 b29 s30 (m p q) ∧ OMat 106 43 31 (n1 ≤ ·) W s18 r (c' 0) (fun a b => if a < p then mulF m m' r' a b else if a = p then lsum (fun t => m a t * m' t b) (if b < v then q + 1 else q) else 0) | _ => False, fun l _ => match l with | [.val (.int .i64 i)] => c' 0 - i.toNat | _ => 0, ⟨0, rfl, Nat.zero_le _, hE27, g2, h27.congr fun i j _ _ => by simp⟩, ?_⟩
      rintro i34 W35 ⟨v, rfl, hv, hE35, g35, h35⟩
      refine ⟨fun hlt3 => ?_, fun hge3 => ⟨by unfold I64; omega, ⟨q + 1, by push_cast; rfl, by omega, hE35, h35.congr fun a b ha hb => ?_⟩, ?_⟩⟩
      · have hvc : v < c' 0 := by omega
        have z35 := z2.new hE35 hle
        obtain ⟨s36, b37, s38, w1, w2⟩ := z35.at (i := v) (by omega)
        obtain ⟨o, o1, o2⟩ := h35.mat.at (i := p) hpr
        obtain ⟨s41, b42, s43, u1, u2⟩ := o2.at (i := v) hvc
        have hib := h35.mat.inB (i := (p : Int)) (by omega) (by omega)
        have hib2 := o2.inB (i := (v : Int)) (by omega) (by omega)
        rw [if_neg (by omega), if_pos rfl, if_neg (by omega)] at u2
        have sz1 := hz1 p q hpr (by omega)
        have sz2 := hz2 q v hqr (by omega)
        have szs : Sz (q * (k + l + 1) + 1) (lsum (fun t => m p t * m' t v) q) := lsum_sz fun t ht => (hz1 p t hpr (by omega)).mul (hz2 t v (by omega) (by have := hc' t (by omega); omega))
        have hqb : q * (k + l + 1) ≤ 12 * (k + l + 1) := Nat.mul_le_mul_right _ (by omega)
        refine ⟨z35.inB (by omega) (by omega), s36, b37, s38, w1, hib, o, o1, hib, o, o1, hib2, s41, b42, s43, u1, ?_⟩
        refine ratMul_call g35 w2 sz1 sz2 (by omega) (by omega) fun s46 b47 s48 W45 hE45 h46 => ⟨s46, b47, s48, rfl, hE45, ?_⟩
        refine ratAdd_call (u2.ext hE45) h46 szs (sz1.mul sz2) (by omega) (by omega) fun s51 b52 s53 W50 hE50 h51 => ⟨s51, b52, s53, rfl, hE50, ((o2.ext hE45).ext hE50).inB (by omega) (by omega), ?_⟩
        refine ((h35.ext hE45).ext hE50).store (j := v) ((o1.ext hE45).ext hE50) hpr hvc h51 (by decide) (by decide) (fun g hg => .inr (Nat.le_trans h01 hg)) fun W54 hpt h54 => ⟨by unfold I64; omega, ⟨v + 1, by push_cast; rfl, by omega, ((hE35.trans (hE45.toM _)).trans (hE50.toM _)).trans (hpt.extN fun g hg => hg), hpt.rat ((g35.ext hE45).ext hE50) (by decide), h54.congr fun a b ha hb => ?_⟩, ?_⟩
        · unfold setM
          by_cases e : a = p ∧ b = v
          · obtain ⟨rfl, rfl⟩ := e
            rw [if_pos ⟨rfl, rfl⟩, if_neg (by omega), if_pos rfl, if_pos (by omega)]
            rfl
          · rw [if_neg e]
            dsimp only
            by_cases e1 : a < p
            · rw [if_pos e1, if_pos e1]
            · rw [if_neg e1, if_neg e1]
              by_cases e2 : a = p
              · rw [if_pos e2, if_pos e2]
                by_cases e3 : b < v
                · rw [if_pos e3, if_pos (by omega)]
                · rw [if_neg e3, if_neg (by omega)]
              · rw [if_neg e2, if_neg e2]
        · show c' 0 - Int.toNat ((v : Int) + 1) < c' 0 - Int.toNat (v : Int)
          omega
      · rw [if_pos (show b < v by omega)]
      · show r' - Int.toNat ((q : Int) + 1) < r' - Int.toNat (q : Int)
        omega
    · have hq : q = r' := by omega
      subst hq
      by_cases e1 : a < p
      · rw [if_pos e1, if_pos (by omega)]
      · rw [if_neg e1]
        by_cases e2 : a = p
        · rw [if_pos e2, if_pos (by omega)]; rfl
        · rw [if_neg e2, if_neg (by omega)]
    · show r - Int.toNat ((p : Int) + 1) < r - Int.toNat (p : Int)
      omega
  · refine ((h22.ext hE55).mono fun g hg => Nat.le_trans (hn.ext hE14) (Nat.le_trans hle hg)).congr fun a b ha hb => ?_
    rw [if_pos (by omega)]
theorem matMul_call {W0 W : PW} {M : Nat → Prop} {n0 r r' k l : Nat} {s t : Sl} {c c' : Nat → Nat} {m m' : Nat → Nat → Rat} {K : Value → PW → Prop} (hn : NewFrom n0 W) (h1 : IsMat 106 43 31 W s r c m) (h2 : IsMat 106 43 31 W t r' c' m') (hr : r ≤ 1099511627776) (hr' : r' ≤ 1099511627776) (hz1 : ∀ i j, i < r → j < c i → Sz k (m i j)) (hz2 : ∀ i j, i < r' → j < c' i → Sz l (m' i j)) (hk : k ≤ 100000000) (hl : l ≤ 100000000) (kont : ∀ (s' : Sl) (b : Bool) (W' : PW), Ext W W' → (((b = true ↔ RightP r c ∧ RightP r' c' ∧ c 0 = r') ∧ (RightP r c ∧ RightP r' c' ∧ c 0 = r' → OMat 106 43 31 (n0 ≤ ·) W' s' r (c' 0) (mulF m m' r')))) → K (.tuple #[Sl.v s', .bool b]) W') :
    callN Go.Proofs.Try.prog W0 M 14 [s.v, t.v] W K :=
  callN_of (fun W' hE => matMul_ok (M := fun _ => False) (hn.ext hE) (h1.ext hE) (h2.ext hE) hr hr' hz1 hz2 hk hl) (fun W' v W'' hE hE' hP => by
    obtain ⟨s', b, rfl, h⟩ := hP
    exact kont s' b W'' (hE.trans hE') h)
end Go.Proofs.Ytcffcndpefaalaa

/- mat.Same; ldl.symmetric, ldl.left. -/
set_option maxRecDepth 100000
set_option linter.unusedVariables false
set_option linter.unusedSimpArgs false
namespace Go.Proofs.Ytcffcndpefaalaa
open Go Go.SX
theorem sameRat_ok {W0 : PW} {M : Nat → Prop} {s t s' t' : Sl} {b b' : Bool} {p q : Rat} {k : Nat} (h1 : IsRat 106 W0 s b t p) (h2 : IsRat 106 W0 s' b' t' q) (hp : Sz k p) (hq : Sz k q) (hk : k ≤ 34359738368) :
    PCallsM Go.Proofs.Try.prog 34 [.agg #[s.v, .bool b, t.v], .agg #[s'.v, .bool b', t'.v]] W0 M fun v W' => ∃ (e : Bool), v = .bool e ∧ (e = true ↔ p = q) := by
  apply callmat_Same_1_1
  refine ratCmp_call h1 h2 hp hq hk hk fun W2 hE2 _ => ⟨_, rfl, fun W4 hE4 => ⟨_, rfl, ?_⟩⟩
  rw [decide_eq_true_iff]
  exact cmpQ_zero p q
theorem sameRat_call {W0 W : PW} {M : Nat → Prop} {s t s' t' : Sl} {b b' : Bool} {p q : Rat} {k : Nat} {K : Value → PW → Prop} (h1 : IsRat 106 W s b t p) (h2 : IsRat 106 W s' b' t' q) (hp : Sz k p) (hq : Sz k q) (hk : k ≤ 34359738368) (kont : ∀ (e : Bool) (W' : PW), Ext W W' → ((e = true ↔ p = q)) → K (.bool e) W') :
    callN Go.Proofs.Try.prog W0 M 34 [.agg #[s.v, .bool b, t.v], .agg #[s'.v, .bool b', t'.v]] W K :=
  callN_of (fun W' hE => sameRat_ok (M := fun _ => False) (h1.ext hE) (h2.ext hE) hp hq hk) (fun W' v W'' hE hE' hP => by
    obtain ⟨e, rfl, h⟩ := hP
    exact kont e W'' (hE.trans hE') h)
theorem eqRats_ok {W0 : PW} {M : Nat → Prop} {s t : Sl} {n n' k : Nat} {f g : Nat → Rat} (h1 : IsQs 106 43 W0 s n f) (h2 : IsQs 106 43 W0 t n' g) (hn : n ≤ 1099511627776) (hf : ∀ i, i < n → Sz k (f i)) (hg : ∀ i, i < n' → Sz k (g i)) (hk : k ≤ 34359738368) :
    PCallsM Go.Proofs.Try.prog 33 [s.v, t.v, .func (.func 34) #[] #[]] W0 M fun v W' => ∃ (e : Bool), v = .bool e ∧ (e = true ↔ n = n' ∧ ∀ i, i < n → f i = g i) := by
  apply callslices_EqualFunc_rat_Rat_rat_Rat_rat_Rat_rat_Rat
  have n1 := h1.n
  have n2 := h2.n
  refine ⟨fun hne W1 _ => ⟨false, rfl, fun h => (by cases h), fun h => ?_⟩, fun heq => ?_⟩
  · have := h.1
    omega
  have hnn : n = n' := by omega
  subst hnn
  refine ⟨fun l W => match l with | [.val (.int .i64 i)] => Ext W0 W ∧ ∃ k : Nat, i = (k : Int) ∧ k ≤ n ∧ ∀ i, i < k → f i = g i | _ => False, fun l _ => match l with | [.val (.int .i64 i)] => n - i.toNat | _ => 0, ⟨Ext.refl _, 0, rfl, Nat.zero_le _, fun i h => (by omega)⟩, ?_⟩
  rintro i4 W5 ⟨hE5, j, rfl, hj, hfg⟩
  have a5 := h1.ext hE5
  have b5 := h2.ext hE5
  refine ⟨fun hlt => ?_, fun hge W16 _ => ⟨true, rfl, fun _ => ⟨rfl, fun i hi => hfg i (by omega)⟩, fun _ => rfl⟩⟩
  obtain ⟨s6, b7, s8, e1, e2⟩ := a5.at (i := j) (by omega)
  obtain ⟨s9, b10, s11, f1, f2⟩ := b5.at (i := j) (by omega)
  refine ⟨a5.inB (by omega) (by omega), s6, b7, s8, e1, b5.inB (by omega) (by omega), s9, b10, s11, f1, ?_⟩
  refine sameRat_call e2 f2 (hf j (by omega)) (hg j (by omega)) hk fun b14 W13 hE13 hb => ⟨b14, rfl, fun hne W15 _ => ⟨false, rfl, fun h => (by cases h), fun h => ?_⟩, fun heq => ⟨by unfold I64; omega, ⟨hE5.trans hE13, j + 1, by push_cast; rfl, by omega, fun i hi => ?_⟩, ?_⟩⟩
  · rw [hb.2 (h.2 j (by omega))] at hne
    cases hne
  · by_cases e : i = j
    · subst e
      exact hb.1 (by simpa using heq)
    · exact hfg i (by omega)
  · show n - Int.toNat ((j : Int) + 1) < n - Int.toNat (j : Int)
    omega
theorem eqRats_call {W0 W : PW} {M : Nat → Prop} {s t : Sl} {n n' k : Nat} {f g : Nat → Rat} {K : Value → PW → Prop} (h1 : IsQs 106 43 W s n f) (h2 : IsQs 106 43 W t n' g) (hn : n ≤ 1099511627776) (hf : ∀ i, i < n → Sz k (f i)) (hg : ∀ i, i < n' → Sz k (g i)) (hk : k ≤ 34359738368) (kont : ∀ (e : Bool) (W' : PW), Ext W W' → ((e = true ↔ n = n' ∧ ∀ i, i < n → f i = g i)) → K (.bool e) W') :
    callN Go.Proofs.Try.prog W0 M 33 [s.v, t.v, .func (.func 34) #[] #[]] W K :=
  callN_of (fun W' hE => eqRats_ok (M := fun _ => False) (h1.ext hE) (h2.ext hE) hn hf hg hk) (fun W' v W'' hE hE' hP => by
    obtain ⟨e, rfl, h⟩ := hP
    exact kont e W'' (hE.trans hE') h)
theorem sameRow_ok {W0 : PW} {M : Nat → Prop} {s t : Sl} {n n' k : Nat} {f g : Nat → Rat} (h1 : IsQs 106 43 W0 s n f) (h2 : IsQs 106 43 W0 t n' g) (hn : n ≤ 1099511627776) (hf : ∀ i, i < n → Sz k (f i)) (hg : ∀ i, i < n' → Sz k (g i)) (hk : k ≤ 34359738368) :
    PCallsM Go.Proofs.Try.prog 32 [s.v, t.v] W0 M fun v W' => ∃ (e : Bool), v = .bool e ∧ (e = true ↔ n = n' ∧ ∀ i, i < n → f i = g i) := by
  apply callmat_Same_1
  exact eqRats_call h1 h2 hn hf hg hk fun b W2 hE2 hb => ⟨b, rfl, fun W4 hE4 => ⟨b, rfl, hb⟩⟩
theorem sameRow_call {W0 W : PW} {M : Nat → Prop} {s t : Sl} {n n' k : Nat} {f g : Nat → Rat} {K : Value → PW → Prop} (h1 : IsQs 106 43 W s n f) (h2 : IsQs 106 43 W t n' g) (hn : n ≤ 1099511627776) (hf : ∀ i, i < n → Sz k (f i)) (hg : ∀ i, i < n' → Sz k (g i)) (hk : k ≤ 34359738368) (kont : ∀ (e : Bool) (W' : PW), Ext W W' → ((e = true ↔ n = n' ∧ ∀ i, i < n → f i = g i)) → K (.bool e) W') :
    callN Go.Proofs.Try.prog W0 M 32 [s.v, t.v] W K :=
  callN_of (fun W' hE => sameRow_ok (M := fun _ => False) (h1.ext hE) (h2.ext hE) hn hf hg hk) (fun W' v W'' hE hE' hP => by
    obtain ⟨e, rfl, h⟩ := hP
    exact kont e W'' (hE.trans hE') h)
def SameP (r r' : Nat) (c c' : Nat → Nat) (m m' : Nat → Nat → Rat) : Prop := r = r' ∧ ∀ i, i < r → c i = c' i ∧ ∀ j, j < c i → m i j = m' i j
theorem eqRows_ok {W0 : PW} {M : Nat → Prop} {s t : Sl} {r r' k : Nat} {c c' : Nat → Nat} {m m' : Nat → Nat → Rat} (h1 : IsMat 106 43 31 W0 s r c m) (h2 : IsMat 106 43 31 W0 t r' c' m') (hr : r ≤ 1099511627776) (hc : ∀ i, i < r → c i ≤ 1099511627776) (hf : ∀ i j, i < r → j < c i → Sz k (m i j)) (hg : ∀ i j, i < r' → j < c' i → Sz k (m' i j)) (hk : k ≤ 34359738368) :
    PCallsM Go.Proofs.Try.prog 31 [s.v, t.v, .func (.func 32) #[] #[]] W0 M fun v W' => ∃ (e : Bool), v = .bool e ∧ (e = true ↔ SameP r r' c c' m m') := by
  apply callslices_EqualFunc_mat_Mat_mat_Mat_rat_Rat_rat_Rat
  have n1 := h1.n
  have n2 := h2.n
  refine ⟨fun hne W1 _ => ⟨false, rfl, fun h => (by cases h), fun h => ?_⟩, fun heq => ?_⟩
  · have := h.1
    omega
  have hnn : r = r' := by omega
  subst hnn
  refine ⟨fun l W => match l with | [.val (.int .i64 i)] => Ext W0 W ∧ ∃ k : Nat, i = (k : Int) ∧ k ≤ r ∧ ∀ i, i < k → c i = c' i ∧ ∀ j, j < c i → m i j = m' i j | _ => False, fun l _ => match l with | [.val (.int .i64 i)] => r - i.toNat | _ => 0, ⟨Ext.refl _, 0, rfl, Nat.zero_le _, fun i h => (by omega)⟩, ?_⟩
  rintro i4 W5 ⟨hE5, j, rfl, hj, hfg⟩
  have a5 := h1.ext hE5
  have b5 := h2.ext hE5
  refine ⟨fun hlt => ?_, fun hge W16 _ => ⟨true, rfl, fun _ => ⟨rfl, fun i hi => hfg i (by omega)⟩, fun _ => rfl⟩⟩
  obtain ⟨x, e1, e2⟩ := a5.at (i := j) (by omega)
  obtain ⟨y, f1, f2⟩ := b5.at (i := j) (by omega)
  refine ⟨a5.inB (by omega) (by omega), x, e1, b5.inB (by omega) (by omega), y, f1, ?_⟩
  refine sameRow_call e2 f2 (hc j (by omega)) (fun i hi => hf j i (by omega) hi) (fun i hi => hg j i (by omega) hi) hk fun b14 W13 hE13 hb => ⟨b14, rfl, fun hne W15 _ => ⟨false, rfl, fun h => (by cases h), fun h => ?_⟩, fun heq => ⟨by unfold I64; omega, ⟨hE5.trans hE13, j + 1, by push_cast; rfl, by omega, fun i hi => ?_⟩, ?_⟩⟩
  · rw [hb.2 (h.2 j (by omega))] at hne
    cases hne
  · by_cases e : i = j
    · subst e
      exact hb.1 (by simpa using heq)
    · exact hfg i (by omega)
  · show r - Int.toNat ((j : Int) + 1) < r - Int.toNat (j : Int)
    omega
theorem eqRows_call {W0 W : PW} {M : Nat → Prop} {s t : Sl} {r r' k : Nat} {c c' : Nat → Nat} {m m' : Nat → Nat → Rat} {K : Value → PW → Prop} (h1 : IsMat 106 43 31 W s r c m) (h2 : IsMat 106 43 31 W t r' c' m') (hr : r ≤ 1099511627776) (hc : ∀ i, i < r → c i ≤ 1099511627776) (hf : ∀ i j, i < r → j < c i → Sz k (m i j)) (hg : ∀ i j, i < r' → j < c' i → Sz k (m' i j)) (hk : k ≤ 34359738368) (kont : ∀ (e : Bool) (W' : PW), Ext W W' → ((e = true ↔ SameP r r' c c' m m')) → K (.bool e) W') :
    callN Go.Proofs.Try.prog W0 M 31 [s.v, t.v, .func (.func 32) #[] #[]] W K :=
  callN_of (fun W' hE => eqRows_ok (M := fun _ => False) (h1.ext hE) (h2.ext hE) hr hc hf hg hk) (fun W' v W'' hE hE' hP => by
    obtain ⟨e, rfl, h⟩ := hP
    exact kont e W'' (hE.trans hE') h)
theorem matSame_ok {W0 : PW} {M : Nat → Prop} {s t : Sl} {r r' k : Nat} {c c' : Nat → Nat} {m m' : Nat → Nat → Rat} (h1 : IsMat 106 43 31 W0 s r c m) (h2 : IsMat 106 43 31 W0 t r' c' m') (hr : r ≤ 1099511627776) (hr' : r' ≤ 1099511627776) (hf : ∀ i j, i < r → j < c i → Sz k (m i j)) (hg : ∀ i j, i < r' → j < c' i → Sz k (m' i j)) (hk : k ≤ 34359738368) :
    PCallsM Go.Proofs.Try.prog 15 [s.v, t.v] W0 M fun v W' => ∃ (e : Bool), v = .bool e ∧ (e = true ↔ RightP r c ∧ RightP r' c' ∧ SameP r r' c c' m m') := by
  apply callmat_Same
  refine matRight_call h1 hr fun b W2 hE2 hb => ⟨b, rfl, fun ht => ?_, fun hf => ⟨fun h => (by cases h), fun _ W16 _ => ⟨false, rfl, fun h => (by cases h), fun h => ?_⟩⟩⟩
  · have hR := hb.1 ht
    refine matRight_call (h2.ext hE2) hr' fun b' W5 hE5 hb' => ⟨b', rfl, fun ht' => ?_, fun hf' W11 _ => ⟨false, rfl, fun h => (by cases h), fun h => ?_⟩⟩
    · have hR' := hb'.1 ht'
      refine eqRows_call ((h1.ext hE2).ext hE5) ((h2.ext hE2).ext hE5) hr (fun i hi => by have := hR.1 i hi; have := hR.2.2.2.2; omega) hf hg hk fun b9 W8 hE8 hb9 => ⟨b9, rfl, fun W10 _ => ⟨b9, rfl, ?_⟩⟩
      rw [hb9]
      exact ⟨fun h => ⟨hR, hR', h⟩, fun h => h.2.2⟩
    · rw [hb'.2 h.2.1] at hf'
      cases hf'
  · rw [hb.2 h.1] at hf
    cases hf
theorem matSame_call {W0 W : PW} {M : Nat → Prop} {s t : Sl} {r r' k : Nat} {c c' : Nat → Nat} {m m' : Nat → Nat → Rat} {K : Value → PW → Prop} (h1 : IsMat 106 43 31 W s r c m) (h2 : IsMat 106 43 31 W t r' c' m') (hr : r ≤ 1099511627776) (hr' : r' ≤ 1099511627776) (hf : ∀ i j, i < r → j < c i → Sz k (m i j)) (hg : ∀ i j, i < r' → j < c' i → Sz k (m' i j)) (hk : k ≤ 34359738368) (kont : ∀ (e : Bool) (W' : PW), Ext W W' → ((e = true ↔ RightP r c ∧ RightP r' c' ∧ SameP r r' c c' m m')) → K (.bool e) W') :
    callN Go.Proofs.Try.prog W0 M 15 [s.v, t.v] W K :=
  callN_of (fun W' hE => matSame_ok (M := fun _ => False) (h1.ext hE) (h2.ext hE) hr hr' hf hg hk) (fun W' v W'' hE hE' hP => by
    obtain ⟨e, rfl, h⟩ := hP
    exact kont e W'' (hE.trans hE') h)
/-- The matrix is its own turned one. -/
def SymP (r : Nat) (c : Nat → Nat) (m : Nat → Nat → Rat) : Prop := RightP r c ∧ c 0 = r ∧ ∀ i j, i < r → j < r → m i j = m j i
theorem ldlSym_ok {W0 : PW} {M : Nat → Prop} {s : Sl} {r k : Nat} {c : Nat → Nat} {m : Nat → Nat → Rat} (h : IsMat 106 43 31 W0 s r c m) (hr : r ≤ 1099511627776) (hf : ∀ i j, i < r → j < c i → Sz k (m i j)) (hk : k ≤ 34359738368) :
    PCallsM Go.Proofs.Try.prog 19 [s.v] W0 M fun v W' => ∃ (e : Bool), v = .bool e ∧ (e = true ↔ SymP r c m) := by
  apply callldl_symmetric
  have hnn : NewFrom W0.w.heap.size W0 := Nat.le_refl _
  refine matTurn_call hnn h hr fun s3 b W2 hE2 ⟨hb, hO⟩ => ⟨s3, b, rfl, fun ht => ?_, fun hf W9 _ => ⟨false, rfl, fun h => (by cases h), fun h => ?_⟩⟩
  · have hR := hb.1 ht
    have hO := hO hR
    have hR' := hR
    obtain ⟨hc, hr1, hr12, hc1, hc12⟩ := hR'
    refine matSame_call (h.ext hE2) hO.mat hr (by omega) hf (fun i j hi hj => hf j i hj (by have := hc j hj; omega)) hk fun b7 W6 hE6 hb7 => ⟨b7, rfl, fun W8 _ => ⟨b7, rfl, ?_⟩⟩
    rw [hb7]
    constructor
    · rintro ⟨_, _, h1, h2⟩
      refine ⟨hR, h1.symm, fun i j hi hj => (h2 i hi).2 j ?_⟩
      have := hc i hi
      omega
    · rintro ⟨_, h1, h2⟩
      exact ⟨hR, ⟨fun i _ => rfl, by omega, by omega, by show 1 ≤ r; omega, by show r ≤ 12; omega⟩, h1.symm, fun i hi => ⟨by have := hc i hi; show c i = r; omega, fun j hj => h2 i j hi (by have := hc i hi; omega)⟩⟩
  · rw [hb.2 h.1] at hf
    cases hf
theorem ldlSym_call {W0 W : PW} {M : Nat → Prop} {s : Sl} {r k : Nat} {c : Nat → Nat} {m : Nat → Nat → Rat} {K : Value → PW → Prop} (h : IsMat 106 43 31 W s r c m) (hr : r ≤ 1099511627776) (hf : ∀ i j, i < r → j < c i → Sz k (m i j)) (hk : k ≤ 34359738368) (kont : ∀ (e : Bool) (W' : PW), Ext W W' → ((e = true ↔ SymP r c m)) → K (.bool e) W') :
    callN Go.Proofs.Try.prog W0 M 19 [s.v] W K :=
  callN_of (fun W' hE => ldlSym_ok (M := fun _ => False) (h.ext hE) hr hf hk) (fun W' v W'' hE hE' hP => by
    obtain ⟨e, rfl, h⟩ := hP
    exact kont e W'' (hE.trans hE') h)
theorem left_sz {f : Nat → Rat} {x : Rat} {K σ : Nat} (hx : Sz σ x) : ∀ {j : Nat} (_ : ∀ t, t < j → Sz K (f t)), Sz (σ + j * (K + 1)) (x - lsum f j)
  | 0, _ => by
    have : x - lsum f 0 = x := by simp only [lsum]; grind
    rw [this]
    exact hx.mono (by omega)
  | j + 1, h => by
    have h1 := left_sz hx (j := j) (fun t ht => h t (by omega))
    have h2 := h1.sub (h j (by omega))
    have e : x - lsum f (j + 1) = x - lsum f j - f j := by simp only [lsum]; grind
    rw [e]
    exact h2.mono (by rw [Nat.succ_mul]; omega)
theorem ldlLeft_ok {W0 : PW} {M : Nat → Prop} {s l d : Sl} {r r' n i k u σ : Nat} {c c' : Nat → Nat} {m L : Nat → Nat → Rat} {D : Nat → Rat} (h1 : IsMat 106 43 31 W0 s r c m) (h2 : IsMat 106 43 31 W0 l r' c' L) (h3 : IsQs 106 43 W0 d n D) (hir : i < r) (hkc : k < c i) (hir' : i < r') (hkr' : k < r') (hci : k ≤ c' i) (hck : k ≤ c' k) (hkn : k ≤ n) (hk12 : k ≤ 12) (hz : Sz σ (m i k)) (hL : ∀ j, j < k → Sz u (L i j) ∧ Sz u (D j) ∧ Sz u (L k j)) (hσ : σ ≤ 100000000) (hu : u ≤ 100000000) :
    PCallsM Go.Proofs.Try.prog 20 [s.v, l.v, d.v, .int .i64 (i : Int), .int .i64 (k : Int)] W0 M fun v W' => ∃ (s' : Sl), ∃ (b' : Bool), ∃ (t' : Sl), v = .agg #[Sl.v s', .bool b', Sl.v t'] ∧ IsRat 106 W' s' b' t' (leftF m L D i k) := by
  apply callldl_left
  obtain ⟨x, e1, e2⟩ := h1.at hir
  obtain ⟨s2, b3, s4, f1, f2⟩ := e2.at hkc
  refine ⟨h1.inB (by omega) (by omega), x, e1, e2.inB (by omega) (by omega), s2, b3, s4, f1, ?_⟩
  refine ⟨fun l W => match l with | [.val (.int .i64 j), .cells [.slice A n c, .bool b, .slice A' n' c']] => Ext W0 W ∧ ∃ q : Nat, j = (q : Int) ∧ q ≤ k ∧ IsRat 106 W ⟨A, n, c⟩ b ⟨A', n', c'⟩ (m i k - lsum (fun j => L i j * D j * L k j) q) | _ => False, fun l _ => match l with | [.val (.int .i64 j), _] => k - j.toNat | _ => 0, ⟨Ext.refl _, 0, rfl, Nat.zero_le _, ?_⟩, ?_⟩
  · have : m i k - lsum (fun j => L i j * D j * L k j) 0 = m i k := by simp only [lsum]; grind
    rw [this]
    exact f2
  rintro s7 b8 s9 i10 W11 ⟨hE11, q, rfl, hq, h7⟩
  have h7 : IsRat 106 W11 s7 b8 s9 (m i k - lsum (fun j => L i j * D j * L k j) q) := h7
  refine ⟨fun hlt => ?_, fun hge W38 hE38 => ⟨s7, b8, s9, rfl, ?_⟩⟩
  · have hqk : q < k := by omega
    have l11 := h2.ext hE11
    have d11 := h3.ext hE11
    obtain ⟨y, y1, y2⟩ := l11.at hir'
    obtain ⟨s13, b14, s15, g1, g2⟩ := y2.at (i := q) (by omega)
    obtain ⟨s16, b17, s18, u1, u2⟩ := d11.at (i := q) (by omega)
    obtain ⟨z, z1, z2⟩ := l11.at hkr'
    obtain ⟨s20, b21, s22, v1, v2⟩ := z2.at (i := q) (by omega)
    obtain ⟨a1, a2, a3⟩ := hL q hqk
    have hsz : Sz (σ + q * (u + u + u + 1)) (m i k - lsum (fun j => L i j * D j * L k j) q) := left_sz hz fun t ht => ((hL t (by omega)).1.mul (hL t (by omega)).2.1).mul (hL t (by omega)).2.2
    have hqb : q * (u + u + u + 1) ≤ 12 * (u + u + u + 1) := Nat.mul_le_mul_right _ (by omega)
    refine ⟨l11.inB (by omega) (by omega), y, y1, y2.inB (by omega) (by omega), s13, b14, s15, g1, d11.inB (by omega) (by omega), s16, b17, s18, u1, l11.inB (by omega) (by omega), z, z1, z2.inB (by omega) (by omega), s20, b21, s22, v1, ?_⟩
    refine ratMul_call g2 u2 a1 a2 (by omega) (by omega) fun s25 b26 s27 W24 hE24 h25 => ⟨s25, b26, s27, rfl, hE24, ?_⟩
    refine ratMul_call h25 (v2.ext hE24) (a1.mul a2) a3 (by omega) (by omega) fun s30 b31 s32 W29 hE29 h30 => ⟨s30, b31, s32, rfl, hE29, ?_⟩
    refine ratSub_call ((h7.ext hE24).ext hE29) h30 hsz ((a1.mul a2).mul a3) (by omega) (by omega) fun s35 b36 s37 W34 hE34 h35 => ⟨s35, b36, s37, rfl, hE34, by unfold I64; omega, ⟨((hE11.trans hE24).trans hE29).trans hE34, q + 1, by push_cast; rfl, by omega, ?_⟩, ?_⟩
    · have : m i k - lsum (fun j => L i j * D j * L k j) (q + 1) = m i k - lsum (fun j => L i j * D j * L k j) q - L i q * D q * L k q := by simp only [lsum]; grind
      rw [this]
      exact h35
    · show k - Int.toNat ((q : Int) + 1) < k - Int.toNat (q : Int)
      omega
  · have : q = k := by omega
    subst this
    exact h7.ext hE38
theorem ldlLeft_call {W0 W : PW} {M : Nat → Prop} {s l d : Sl} {r r' n i k u σ : Nat} {c c' : Nat → Nat} {m L : Nat → Nat → Rat} {D : Nat → Rat} {K : Value → PW → Prop} (h1 : IsMat 106 43 31 W s r c m) (h2 : IsMat 106 43 31 W l r' c' L) (h3 : IsQs 106 43 W d n D) (hir : i < r) (hkc : k < c i) (hir' : i < r') (hkr' : k < r') (hci : k ≤ c' i) (hck : k ≤ c' k) (hkn : k ≤ n) (hk12 : k ≤ 12) (hz : Sz σ (m i k)) (hL : ∀ j, j < k → Sz u (L i j) ∧ Sz u (D j) ∧ Sz u (L k j)) (hσ : σ ≤ 100000000) (hu : u ≤ 100000000) (kont : ∀ (s' : Sl) (b' : Bool) (t' : Sl) (W' : PW), Ext W W' → (IsRat 106 W' s' b' t' (leftF m L D i k)) → K (.agg #[Sl.v s', .bool b', Sl.v t']) W') :
    callN Go.Proofs.Try.prog W0 M 20 [s.v, l.v, d.v, .int .i64 (i : Int), .int .i64 (k : Int)] W K :=
  callN_of (fun W' hE => ldlLeft_ok (M := fun _ => False) (h1.ext hE) (h2.ext hE) (h3.ext hE) hir hkc hir' hkr' hci hck hkn hk12 hz hL hσ hu) (fun W' v W'' hE hE' hP => by
    obtain ⟨s', b', t', rfl, h⟩ := hP
    exact kont s' b' t' W'' (hE.trans hE') h)
end Go.Proofs.Ytcffcndpefaalaa
