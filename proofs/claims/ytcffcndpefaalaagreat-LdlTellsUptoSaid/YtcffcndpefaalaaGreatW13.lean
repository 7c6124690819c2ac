/- cinctureref1.Ldl. -/
import Derived.Test.YtcffcndpefaalaaGreatW12
import Derived.Test.YtcffcndpefaalaaGreatW9
import Derived.Test.YtcffcndpefaalaaGreatR10
import Derived.Test.YtcffcndpefaalaaGreatLib3
set_option linter.unusedVariables false
set_option linter.unusedSimpArgs false
set_option maxRecDepth 100000
set_option linter.unusedVariables false
set_option linter.unusedSimpArgs false
namespace Go.Proofs.YtcffcndpefaalaaGreat
open Go Go.SX
theorem leftK_sz {m L : Nat → Nat → Rat} {D : Nat → Rat} {r k a b : Nat} (hz : ∀ i j, i < r → j < r → Sz 3 (m i j)) (h : SzO L D r k) (ha : a < r) (hb : b < r) : Sz (Sk k) (leftK m L D a b k) :=
  left_sz (hz a b ha hb) fun t ht => ((h.1 a t ha ht).mul (h.2 t ht)).mul (h.1 b t hb ht)
abbrev LM (N : Nat → Prop) (W : PW) (s : Sl) (r : Nat) (m : Nat → Nat → Rat) : Prop := ORMat 107 58 34 N W s r r m
def rlI (m : Nat → Nat → Rat) (N1 N2 : Nat → Prop) (r : Nat) (sl su : Sl) (l : List PL) (W : PW) : Prop :=
  match l with
  | [.row xs, .val (.int .i64 i)] => ∃ (k : Nat) (F L : Nat → Nat → Rat) (D : Nat → Rat), i = (k : Int) ∧ k ≤ r ∧ LM N1 W sl r F ∧ LM N2 W su r L ∧ RQs 107 W xs k D ∧ Outer m L D r k ∧ SzO L D r k ∧ ∀ a b, k ≤ a → k ≤ b → a < r → b < r → F a b = leftK m L D a b k
  | _ => False
def rlJ (m F : Nat → Nat → Rat) (D : Nat → Rat) (N1 N2 : Nat → Prop) (r k : Nat) (sl su : Sl) (xs : List (List Value)) (l : List PL) (W : PW) : Prop :=
  match l with
  | [.val (.int .i64 i)] => ∃ (j : Nat) (L : Nat → Nat → Rat), i = (j : Int) ∧ k < j ∧ j ≤ r ∧ LM N1 W sl r F ∧ LM N2 W su r L ∧ RQs 107 W xs (k + 1) D ∧ Inner m L D r k j ∧ SzI L D r k j ∧ ∀ a b, k ≤ a → k ≤ b → a < r → b < r → F a b = leftK m L D a b k
  | _ => False
def rlK (m L : Nat → Nat → Rat) (D : Nat → Rat) (N1 N2 : Nat → Prop) (r k a : Nat) (sl su : Sl) (xs : List (List Value)) (W : PW) (F : Nat → Nat → Rat) (e : Nat) : Prop :=
  LM N1 W sl r F ∧ LM N2 W su r L ∧ RQs 107 W xs (k + 1) D ∧ ∀ x y, k < x → k < y → x < r → y < r → F x y = leftK m L D x y (if x < a ∨ x = a ∧ y < e then k + 1 else k)
def rlA (m L : Nat → Nat → Rat) (D : Nat → Rat) (N1 N2 : Nat → Prop) (r k : Nat) (sl su : Sl) (xs : List (List Value)) (l : List PL) (W : PW) : Prop :=
  match l with
  | [.val (.int .i64 i)] => ∃ (a : Nat) (F : Nat → Nat → Rat), i = (a : Int) ∧ k < a ∧ a ≤ r ∧ rlK m L D N1 N2 r k a sl su xs W F 0
  | _ => False
def rlB (m L : Nat → Nat → Rat) (D : Nat → Rat) (N1 N2 : Nat → Prop) (r k a : Nat) (sl su : Sl) (xs : List (List Value)) (l : List PL) (W : PW) : Prop :=
  match l with
  | [.val (.int .i64 i)] => ∃ (e : Nat) (F : Nat → Nat → Rat), i = (e : Int) ∧ k < e ∧ e ≤ r ∧ rlK m L D N1 N2 r k a sl su xs W F e
  | _ => False
def cn1 (r : Nat) (l : List PL) (W : PW) : Nat :=
  match l with
  | [.val (.int .i64 i)] => r - i.toNat
  | _ => 0
theorem sgn_zero {q : Rat} : sgnI q.num = 0 ↔ q = 0 := by rw [sgnI_num, cmpQ_zero]
theorem refLdl_ok {W0 : PW} {M : Nat → Prop} {s : Sl} {r : Nat} {c : Nat → Nat} {m : Nat → Nat → Rat} (h : IsRMat 107 58 34 W0 s r c m) (hr : r ≤ 5) (hz : ∀ i j, i < r → j < c i → Sz 3 (m i j)) :
    PCallsM Go.Proofs.Tryz.prog 8 [s.v] W0 M fun v W' => ∃ (u : Sl), ∃ (d : Sl), ∃ (b : Bool), v = .tuple #[Sl.v u, Sl.v d, .bool b] ∧ (b = false → u = ⟨none, 0, 0⟩ ∧ d = ⟨none, 0, 0⟩ ∧ NoParts r c m) ∧ (b = true → SymP r c m ∧ ∃ (L : Nat → Nat → Rat) (D : Nat → Rat), IsRMat 107 58 34 W' u r (fun _ => r) L ∧ IsRQs 107 58 W' d r D ∧ Parts m L D r r ∧ SzO L D r r) := by
  apply callref1_Ldl
  have hsn := h.n
  have bad : NoParts r c m → ∀ W' : PW, ∃ (u d : Sl) (b : Bool), (Value.tuple #[.slice none 0 0, .slice none 0 0, .bool false]) = .tuple #[Sl.v u, Sl.v d, .bool b] ∧ (b = false → u = ⟨none, 0, 0⟩ ∧ d = ⟨none, 0, 0⟩ ∧ NoParts r c m) ∧ (b = true → SymP r c m ∧ ∃ (L : Nat → Nat → Rat) (D : Nat → Rat), IsRMat 107 58 34 W' u r (fun _ => r) L ∧ IsRQs 107 58 W' d r D ∧ Parts m L D r r ∧ SzO L D r r) :=
    fun hN W' => ⟨⟨none, 0, 0⟩, ⟨none, 0, 0⟩, false, rfl, fun _ => ⟨rfl, rfl, hN⟩, fun h => (by cases h)⟩
  refine refSquare_call h (by omega) fun b W2 hE2 hb => ⟨b, rfl, fun hf W4 _ => bad (.inl fun hs => ?_) W4, fun ht => ?_⟩
  · rw [hb.2 ⟨hs.1, hs.2.1⟩] at hf
    cases hf
  obtain ⟨hR, hcr⟩ := hb.1 (by simpa using ht)
  have hr1 := hR.2.1
  have hc : ∀ i, i < r → c i = r := fun i hi => by have := hR.1 i hi; omega
  have hz' : ∀ i j, i < r → j < r → Sz 3 (m i j) := fun i j hi hj => hz i j hi (by rw [hc i hi]; exact hj)
  refine ⟨fun l W => match l with | [.val (.int .i64 i)] => Ext W0 W ∧ ∃ k : Nat, i = (k : Int) ∧ k ≤ r ∧ ∀ a b, a < k → b < a → m a b = m b a | _ => False, cn1 r, ⟨hE2, 0, rfl, Nat.zero_le _, fun a b h => by omega⟩, ?_⟩
  rintro i7 W8 ⟨hE8, k, rfl, hk, hsy⟩
  refine ⟨fun hlt => ⟨fun l W => match l with | [.val (.int .i64 i)] => Ext W0 W ∧ ∃ j : Nat, i = (j : Int) ∧ j ≤ k ∧ ∀ b, b < j → m k b = m b k | _ => False, cn1 k, ⟨hE8, 0, rfl, Nat.zero_le _, fun b h => by omega⟩, ?_⟩, fun hge => ?_⟩
  · rintro i11 W12 ⟨hE12, j, rfl, hj, hrow⟩
    refine ⟨fun hlt2 => ?_, fun hge2 => ⟨by unfold I64; omega, ⟨hE12, k + 1, by push_cast; rfl, by omega, fun a b ha hb' => ?_⟩, ?_⟩⟩
    · have h12 := h.ext hE12
      have ck := hc k (by omega)
      have cj := hc j (by omega)
      obtain ⟨x, x1, x2⟩ := h12.at (i := k) (by omega)
      obtain ⟨y, y1, y2⟩ := h12.at (i := j) (by omega)
      obtain ⟨p1, pb, p2, p3, p4⟩ := x2.at (i := j) (by omega)
      obtain ⟨q1, qb, q2, q3, q4⟩ := y2.at (i := k) (by omega)
      refine ⟨h12.inB (by omega) (by omega), x, x1, x2.inB (by omega) (by omega), pb, p1, p2, p3, h12.inB (by omega) (by omega), y, y1, y2.inB (by omega) (by omega), qb, q1, q2, q3, ?_⟩
      refine refQCmp_call p4 q4 (hz' k j (by omega) (by omega)) (hz' j k (by omega) (by omega)) (by omega) (by omega) fun W22 hE22 _ => ⟨_, rfl, hE22, fun hne W24 _ => bad (.inl fun hs => hne ((cmpQ_zero _ _).2 (hs.2.2 k j (by omega) (by omega)))) W24, fun heq => ⟨by unfold I64; omega, ⟨hE12.trans hE22, j + 1, by push_cast; rfl, by omega, fun b hb' => ?_⟩, ?_⟩⟩
      · by_cases e : b = j
        · subst e
          exact (cmpQ_zero _ _).1 (Classical.not_not.1 heq)
        · exact hrow b (by omega)
      · show k - Int.toNat ((j : Int) + 1) < k - Int.toNat (j : Int)
        omega
    · by_cases e : a = k
      · subst e
        exact hrow b (by omega)
      · exact hsy a b (by omega) hb'
    · show r - Int.toNat ((k : Int) + 1) < r - Int.toNat (k : Int)
      omega
  have hkr : k = r := by omega
  subst hkr
  have hSym : SymP k c m := ⟨hR, hcr, fun i j hi hj => by
    rcases Nat.lt_trichotomy i j with h | h | h
    · exact (hsy j i hj h).symm
    · rw [h]
    · exact hsy i j hi h⟩
  have hnn : NewFrom W0.w.heap.size W0 := Nat.le_refl _
  refine refRows_call (hnn.ext hE8) (h.ext hE8) (by omega) (w := k) (by omega) hc fun sl W26 hE26 hL => ⟨sl, rfl, ?_⟩
  rw [hsn]
  have hn2 : NewFrom W26.w.heap.size W26 := Nat.le_refl _
  refine refOne_call hn2 hr1 (by omega) fun su W29 hE29 hU => ⟨su, rfl, ?_⟩
  have hL' := (hL.avoid (A := fun g => W26.w.heap.size ≤ g) fun g hg hlt => absurd hg (by omega)).ext hE29
  obtain ⟨N1, hN1⟩ : ∃ N1 : Nat → Prop, N1 = fun g => W0.w.heap.size ≤ g ∧ ¬ W26.w.heap.size ≤ g := ⟨_, rfl⟩
  obtain ⟨N2, hN2⟩ : ∃ N2 : Nat → Prop, N2 = fun g => W26.w.heap.size ≤ g := ⟨_, rfl⟩
  rw [← hN1] at hL'
  have hU' : LM N2 W29 su k oneM := by rw [hN2]; exact hU
  have m1 : ∀ g, N1 g → may W0 M g := fun g hg => by rw [hN1] at hg; exact .inr hg.1
  have m2 : ∀ g, N2 g → may W0 M g := fun g hg => by
    rw [hN2] at hg
    have h1 := hE8.size
    have h2 := hE26.size
    exact .inr (by omega)
  have m12 : ∀ g, N1 g → ¬ N2 g := fun g hg => by rw [hN1] at hg; rw [hN2]; exact hg.2
  clear hL hU hN1 hN2
  refine ⟨rlI m N1 N2 k sl su, cn2 k, ⟨0, m, oneM, fun _ => 0, rfl, Nat.zero_le _, hL', hU', ⟨rfl, fun i h => by omega⟩, outer_zero m _ k, ⟨fun a j _ h => absurd h (Nat.not_lt_zero _), fun j h => absurd h (Nat.not_lt_zero _)⟩, fun a b _ _ _ _ => (leftK_zero m oneM _ a b).symm⟩, ?_⟩
  clear hL' hU'
  rintro xs i34 W35 ⟨t, F, L, D, rfl, ht', hF, hLo, hq, hout, hsz, hFv⟩
  have hub := Ub_le t (by omega)
  refine ⟨fun hlt => ?_, fun hge s110 W111 hE111 hO hf W112 hE112 => ⟨su, s110, true, rfl, fun h => (by cases h), fun _ => ⟨hSym, L, D, ?_⟩⟩⟩
  · have htr : t < k := by omega
    have hub1 := Ub_le (t + 1) (by omega)
    obtain ⟨x, x1, x2⟩ := hF.mat.at (i := t) htr
    obtain ⟨p1, pb, p2, p3, p4⟩ := x2.at (i := t) htr
    have hxl := hq.1
    have hFt := hFv t t (Nat.le_refl _) (Nat.le_refl _) htr htr
    have hst : Sz (Sk t) (F t t) := by rw [hFt]; exact leftK_sz hz' hsz htr htr
    have hD : ∀ j, j < t → D j = (fun i => if i = t then F t t else D i) j := fun j hj => (if_neg (by omega)).symm
    have hin := inner_start hout htr
    rw [show leftF m L D t t = F t t from hFt.symm] at hin
    have hq1 := hq.snoc p4
    have hsz1 := hsz.congrD hD
    have hFv1 : ∀ a b, t ≤ a → t ≤ b → a < k → b < k → F a b = leftK m L (fun i => if i = t then F t t else D i) a b t := fun a b h1 h2 h3 h4 => by
      rw [hFv a b h1 h2 h3 h4]
      exact leftK_congr fun j hj => ⟨rfl, rfl, hD j hj⟩
    have hDt : (fun i => if i = t then F t t else D i) t = F t t := if_pos rfl
    have hsd : Sz (Sk t) ((fun i => if i = t then F t t else D i) t) := by rw [hDt]; exact hst
    refine ⟨hF.mat.inB (by omega) (by omega), x, x1, x2.inB (by omega) (by omega), pb, p1, p2, p3, by simp only [List.length_cons, List.length_nil]; omega, by unfold I64; omega, ?_⟩
    generalize (fun i => if i = t then F t t else D i) = E at *
    have hlen : (xs ++ [[Value.bool pb, p1.v, p2.v]]).length = t + 1 := by simp [hxl]
    generalize hys : xs ++ [[Value.bool pb, p1.v, p2.v]] = ys at *
    refine ⟨rlJ m F E N1 N2 k t sl su ys, cn1 k, ⟨t + 1, L, by push_cast; rfl, by omega, by omega, hF, hLo, hq1, hin, ⟨hsz1, hsd, fun a h1 h2 => (by omega)⟩, hFv1⟩, ?_⟩
    clear hF hLo hq hout hsz hFv x1 x2 p3 p4 hq1 hin hsz1 hFv1 hFt hst hD hDt hxl
    rintro i42 W43 ⟨j, L, rfl, hkj, hjr, hF, hLo, hq, hin, hsz, hFv⟩
    refine ⟨fun hlt2 => ?_, fun hge2 => ?_⟩
    · have hjk : j < k := by omega
      obtain ⟨b44, s45, s63, o1, o2, o3⟩ := hq.own (k := t) (by omega)
      refine ⟨⟨by omega, by rw [hlen]; omega⟩, b44, s45, o1, ?_⟩
      refine refSign_call o3.1 fun W47 hE47 _ => ⟨_, rfl, fun h0 => ?_, fun h0 => ?_⟩
      · have hE0 := sgn_zero.1 h0
        have hF47 := hF.ext hE47
        obtain ⟨x, x1, x2⟩ := hF47.mat.at (i := j) hjk
        obtain ⟨p1, pb', p2, p3, p4⟩ := x2.at (i := t) htr
        have hFj := hFv j t (by omega) (Nat.le_refl _) hjk htr
        refine ⟨hF47.mat.inB (by omega) (by omega), x, x1, x2.inB (by omega) (by omega), pb', p1, ElemAt.pre2 p3, refSign_call p4.1 fun W53 hE53 _ => ⟨_, rfl, fun hne W55 _ => bad (.inr ⟨L, E, t, j, hin.parts, hin.dk, hE0, hkj, hjk, fun e => hne (sgn_zero.2 ?_)⟩) W55, fun heq => ?_⟩⟩
        · rw [hFj]; exact e
        · have hz0 : leftF m L E j t = 0 := by
            show leftK m L E j t t = 0
            rw [← hFj]; exact sgn_zero.1 (Classical.not_not.1 heq)
          refine ⟨by unfold I64; omega, ⟨j + 1, L, by push_cast; rfl, by omega, by omega, hF47.ext hE53, (hLo.ext hE47).ext hE53, (hq.ext hE47).ext hE53, inner_skip hin hkj hjk htr hE0 hz0, ⟨hsz.1, hsz.2.1, fun a h1 h2 => ?_⟩, hFv⟩, ?_⟩
          · by_cases e : a = j
            · rw [hin.rest a t (by omega) htr (.inr ⟨rfl, .inr (by omega)⟩)]
              exact (one_sz a t).mono (by rw [Ub_succ]; unfold Sk; omega)
            · exact hsz.2.2 a h1 (by omega)
          · show k - Int.toNat ((j : Int) + 1) < k - Int.toNat (j : Int)
            omega
      · have hE0 : E t ≠ 0 := fun e => h0 (sgn_zero.2 e)
        have hF47 := hF.ext hE47
        have hL47 := hLo.ext hE47
        obtain ⟨x, x1, x2⟩ := hF47.mat.at (i := j) hjk
        obtain ⟨y, y1, y2⟩ := hL47.mat.at (i := j) hjk
        obtain ⟨p1, pb', p2, p3, p4⟩ := x2.at (i := t) htr
        have hFj := hFv j t (by omega) (Nat.le_refl _) hjk htr
        have hsF : Sz (Sk t) (F j t) := by rw [hFj]; exact leftK_sz hz' hsz.1 hjk htr
        refine ⟨hL47.mat.inB (by omega) (by omega), y, y1, hF47.mat.inB (by omega) (by omega), x, x1, x2.inB (by omega) (by omega), pb', p1, p2, p3, ⟨by omega, by rw [hlen]; omega⟩, b44, s45, s63, o2, ?_⟩
        refine refQDiv_call p4 (o3.ext hE47) hsF hsz.2.1 hE0 (by omega) (by omega) fun b66 s67 s68 W65 hE65 h65 => ⟨b66, s67, s68, rfl, hE65, (y2.ext hE65).inB (by omega) (by omega), ?_⟩
        refine (hL47.ext hE65).store (j := t) (y1.ext hE65) hjk htr h65 (by decide) (by decide) m2 fun W69 hp hL69 => ⟨by unfold I64; omega, ⟨j + 1, _, by push_cast; rfl, by omega, by omega, ?_, hL69, hp.rqs ((hq.ext hE47).ext hE65) (by decide), ?_, ⟨⟨fun a c' ha hc' => ?_, hsz.1.2⟩, hsz.2.1, fun a ha1 ha2 => ?_⟩, fun a b h1 h2 h3 h4 => ?_⟩, ?_⟩
        · obtain ⟨g, hg, hw⟩ := hp
          exact (hF47.ext hE65).other hw (fun h => m12 g h hg) (by decide) (by decide)
        · rw [hFj]
          exact inner_step hin hkj hjk fun e => absurd e hE0
        · show Sz _ (if a = j ∧ c' = t then _ else _)
          rw [if_neg (by omega)]
          exact hsz.1.1 a c' ha hc'
        · show Sz _ (if a = j ∧ t = t then _ else _)
          by_cases e : a = j
          · rw [if_pos ⟨e, rfl⟩, Ub_succ]
            exact hsF.div hsz.2.1 (by unfold Sk; omega)
          · rw [if_neg (by omega)]
            exact hsz.2.2 a ha1 (by omega)
        · rw [hFv a b h1 h2 h3 h4]
          exact leftK_congr fun i hi => ⟨(if_neg (by omega)).symm, (if_neg (by omega)).symm, rfl⟩
        · show k - Int.toNat ((j : Int) + 1) < k - Int.toNat (j : Int)
          omega
    · have hjk : j = k := by omega
      subst hjk
      have hout := inner_end hin htr
      have hszO := szI_end hsz hin htr
      have hsd := hsz.2.1
      refine ⟨by unfold I64; omega, rlA m L E N1 N2 j t sl su ys, cn1 j, ⟨t + 1, F, by push_cast; rfl, by omega, by omega, hF, hLo, hq, fun x y h1 h2 h3 h4 => ?_⟩, ?_⟩
      · rw [if_neg (by omega)]
        exact hFv x y (by omega) (by omega) h3 h4
      have hsz1 := hsz.1
      clear hF hLo hq hin hsz hFv
      rintro i72 W73 ⟨a, F, rfl, hka, har, hK⟩
      refine ⟨fun hlt3 => ⟨by unfold I64; omega, rlB m L E N1 N2 j t a sl su ys, cn1 j, ⟨t + 1, F, by push_cast; rfl, by omega, by omega, hK.1, hK.2.1, hK.2.2.1, fun x y h1 h2 h3 h4 => ?_⟩, ?_⟩, fun hge3 => ?_⟩
      · rw [hK.2.2.2 x y h1 h2 h3 h4]
        congr 1
        by_cases e : x < a
        · rw [if_pos (.inl e), if_pos (.inl e)]
        · rw [if_neg (by omega), if_neg (by omega)]
      · clear hK F
        rintro i76 W77 ⟨e, F, rfl, hke, her, hF, hLo, hq, hFv⟩
        refine ⟨fun hlt4 => ?_, fun hge4 => ⟨by unfold I64; omega, ⟨a + 1, F, by push_cast; rfl, by omega, by omega, hF, hLo, hq, fun x y h1 h2 h3 h4 => ?_⟩, ?_⟩⟩
        · have haj : a < j := by omega
          have hej : e < j := by omega
          obtain ⟨x, x1, x2⟩ := hF.mat.at (i := a) haj
          obtain ⟨p1, pb', p2, p3, p4⟩ := x2.at (i := e) hej
          obtain ⟨y, y1, y2⟩ := hLo.mat.at (i := a) haj
          obtain ⟨q1, qb, q2, q3, q4⟩ := y2.at (i := t) htr
          obtain ⟨z, z1, z2⟩ := hLo.mat.at (i := e) hej
          obtain ⟨r1, rb, r2, r3, r4⟩ := z2.at (i := t) htr
          obtain ⟨b91, s92, s93, o1, o2, o3⟩ := hq.own (k := t) (by omega)
          have hFa := hFv a e hka hke haj hej
          rw [if_neg (by omega)] at hFa
          have hsF : Sz (Sk t) (F a e) := by rw [hFa]; exact leftK_sz hz' hsz1 haj hej
          have hs1 := hszO.1 a t haj (Nat.lt_succ_self _)
          have hs2 := hszO.1 e t hej (Nat.lt_succ_self _)
          have hs3 := hs1.mul hs2
          have hs4 := hs3.mul hsd
          refine ⟨hF.mat.inB (by omega) (by omega), x, x1, hF.mat.inB (by omega) (by omega), x, x1, x2.inB (by omega) (by omega), pb', p1, p2, p3, hLo.mat.inB (by omega) (by omega), y, y1, y2.inB (by omega) (by omega), qb, q1, q2, q3, hLo.mat.inB (by omega) (by omega), z, z1, z2.inB (by omega) (by omega), rb, r1, r2, r3, ⟨by omega, by rw [hlen]; omega⟩, b91, s92, s93, o2, ?_⟩
          refine refQMul_call q4 r4 hs1 hs2 (by omega) (by omega) fun b96 s97 s98 W95 hE95 h95 => ⟨b96, s97, s98, rfl, hE95, refQMul_call h95 (o3.ext hE95) hs3 hsd (by omega) (by omega) fun b101 s102 s103 W100 hE100 h100 => ⟨b101, s102, s103, rfl, hE100, refQSub_call ((p4.ext hE95).ext hE100) h100 hsF hs4 (by omega) (by omega) fun b106 s107 s108 W105 hE105 h105 => ⟨b106, s107, s108, rfl, hE105, ?_⟩⟩⟩
          have hE := (hE95.trans hE100).trans hE105
          refine ⟨(x2.ext hE).inB (by omega) (by omega), (hF.ext hE).store (j := e) (x1.ext hE) haj hej h105 (by decide) (by decide) m1 fun W109 hp hF109 => ⟨by unfold I64; omega, ⟨e + 1, _, by push_cast; rfl, by omega, by omega, hF109, ?_, hp.rqs (hq.ext hE) (by decide), fun u v h1 h2 h3 h4 => ?_⟩, ?_⟩⟩
          · obtain ⟨g, hg, hw⟩ := hp
            exact (hLo.ext hE).other hw (m12 g hg) (by decide) (by decide)
          · unfold setM
            by_cases ee : u = a ∧ v = e
            · rw [if_pos ee, ee.1, ee.2, if_pos (.inr ⟨rfl, by omega⟩), leftK_succ, hFa]
            · rw [if_neg ee, hFv u v h1 h2 h3 h4]
              congr 1
              by_cases e1 : u < a ∨ u = a ∧ v < e
              · rw [if_pos e1, if_pos (by omega)]
              · rw [if_neg e1, if_neg (by omega)]
          · show j - Int.toNat ((e : Int) + 1) < j - Int.toNat (e : Int)
            omega
        · rw [hFv x y h1 h2 h3 h4]
          congr 1
          by_cases e1 : x < a + 1
          · rw [if_pos (by omega), if_pos (.inl e1)]
          · rw [if_neg (by omega), if_neg (by omega)]
        · show j - Int.toNat ((a : Int) + 1) < j - Int.toNat (a : Int)
          omega
      · have haj : a = j := by omega
        refine ⟨by unfold I64; omega, ⟨t + 1, F, L, E, by push_cast; rfl, by omega, hK.1, hK.2.1, hK.2.2.1, hout, hszO, fun x y h1 h2 h3 h4 => ?_⟩, ?_⟩
        · rw [hK.2.2.2 x y (by omega) (by omega) h3 h4, if_pos (.inl (by omega))]
        · show j - Int.toNat ((t : Int) + 1) < j - Int.toNat (t : Int)
          omega
  · have hkr : t = k := by omega
    subst hkr
    exact ⟨((hLo.ext hE111).ext hE112).mat, ⟨xs, hO.row.ext hE112, (hq.ext hE111).ext hE112⟩, hout.1, hsz⟩
theorem refLdl_call {W0 W : PW} {M : Nat → Prop} {s : Sl} {r : Nat} {c : Nat → Nat} {m : Nat → Nat → Rat} {K : Value → PW → Prop} (h : IsRMat 107 58 34 W s r c m) (hr : r ≤ 5) (hz : ∀ i j, i < r → j < c i → Sz 3 (m i j)) (kont : ∀ (u : Sl) (d : Sl) (b : Bool) (W' : PW), Ext W W' → ((b = false → u = ⟨none, 0, 0⟩ ∧ d = ⟨none, 0, 0⟩ ∧ NoParts r c m) ∧ (b = true → SymP r c m ∧ ∃ (L : Nat → Nat → Rat) (D : Nat → Rat), IsRMat 107 58 34 W' u r (fun _ => r) L ∧ IsRQs 107 58 W' d r D ∧ Parts m L D r r ∧ SzO L D r r)) → K (.tuple #[Sl.v u, Sl.v d, .bool b]) W') :
    callN Go.Proofs.Tryz.prog W0 M 8 [s.v] W K :=
  callN_of (fun W' hE => refLdl_ok (M := fun _ => False) (h.ext hE) hr hz) (fun W' v W'' hE hE' hP => by
    obtain ⟨u, d, b, rfl, h⟩ := hP
    exact kont u d b W'' (hE.trans hE') h)
end Go.Proofs.YtcffcndpefaalaaGreat

/- Tables of texts: mat.Parse, cincturelaw14.even, alive. -/
set_option maxRecDepth 100000
set_option linter.unusedVariables false
set_option linter.unusedSimpArgs false
namespace Go.Proofs.YtcffcndpefaalaaGreat
open Go Go.SX
/-- How many texts row i has. -/
def tw (T : List (List ByteArray)) (i : Nat) : Nat := (T[i]?.getD []).length
theorem tw_eq {T : List (List ByteArray)} {i : Nat} (h : i < T.length) : tw T i = T[i].length := by
  unfold tw
  rw [List.getElem?_eq_getElem h]; rfl
def txt (T : List (List ByteArray)) (i j : Nat) : ByteArray := (T[i]?.getD [])[j]?.getD ⟨⟨[]⟩⟩
theorem txt_eq {T : List (List ByteArray)} {i j : Nat} (h : i < T.length) (hj : j < T[i].length) : txt T i j = T[i][j] := by
  unfold txt
  rw [List.getElem?_eq_getElem h]
  simp [hj]
theorem txEven_ok {W0 : PW} {M : Nat → Prop} {s : Sl} {T : List (List ByteArray)} (h : IsTx W0 s T) (hr : T.length ≤ 1099511627776) :
    PCallsM Go.Proofs.Tryz.prog 33 [s.v] W0 M fun v W' => ∃ (b : Bool), v = .bool b ∧ (b = true ↔ RightP T.length (tw T)) := by
  apply callmat_even_string
  have hn := h.n
  refine ⟨fun l W => match l with | [.val (.int .i64 i)] => Ext W0 W ∧ ∃ k : Nat, i = (k : Int) ∧ k ≤ T.length ∧ ∀ i, i < k → tw T i = tw T 0 | _ => False, fun l _ => match l with | [.val (.int .i64 i)] => T.length - i.toNat | _ => 0, ⟨Ext.refl _, 0, rfl, Nat.zero_le _, fun i h => (by omega)⟩, ?_⟩
  rintro i3 W4 ⟨hE4, k, rfl, hk, hck⟩
  have h4 := h.ext hE4
  refine ⟨fun hlt => ?_, fun hge => ⟨fun h1 => ⟨fun h12 => ?_, fun h12 => fun W14 _ => ⟨false, rfl, ?_⟩⟩, fun h1 => fun W21 _ => ⟨false, rfl, ?_⟩⟩⟩
  · obtain ⟨x, e1, e2⟩ := h4.at (i := k) (by omega)
    obtain ⟨y, f1, f2⟩ := h4.at (i := 0) (by omega)
    have n1 := e2.nt.trans (tw_eq (by omega)).symm
    have n2 := f2.nt.trans (tw_eq (by omega)).symm
    refine ⟨h4.inB (by omega) (by omega), x, e1, h4.inB (by omega) (by omega), y, f1, fun hne W7 _ => ⟨false, rfl, ?_⟩, fun heq => ⟨by unfold I64; omega, ⟨hE4, k + 1, by push_cast; rfl, by omega, fun i hi => ?_⟩, ?_⟩⟩
    · refine ⟨fun h => (by cases h), fun h => ?_⟩
      have := h.1 k (by omega)
      omega
    · by_cases e : i = k
      · subst e; omega
      · exact hck i (by omega)
    · show T.length - Int.toNat ((k : Int) + 1) < T.length - Int.toNat (k : Int)
      omega
  · have hkr : k = T.length := by omega
    obtain ⟨y, f1, f2⟩ := h4.at (i := 0) (by omega)
    have n2 := f2.nt.trans (tw_eq (by omega)).symm
    have ib := h4.inB (i := 0) (by omega) (by omega)
    refine ⟨ib, y, f1, fun hy => ⟨ib, y, f1, fun W10 _ => ⟨_, rfl, ?_⟩⟩, fun hy W11 _ => ⟨false, rfl, ?_⟩⟩
    · rw [decide_eq_true_iff]
      exact ⟨fun h => ⟨fun i hi => hck i (by omega), by omega, by omega, by omega, by omega⟩, fun h => by have := h.2.2.2.2; omega⟩
    · refine ⟨fun h => (by cases h), fun h => ?_⟩
      have := h.2.2.2.1
      omega
  · refine ⟨fun h => (by cases h), fun h => ?_⟩
    have := h.2.2.1
    omega
  · refine ⟨fun h => (by cases h), fun h => ?_⟩
    have := h.2.1
    omega
theorem txEven_call {W0 W : PW} {M : Nat → Prop} {s : Sl} {T : List (List ByteArray)} {K : Value → PW → Prop} (h : IsTx W s T) (hr : T.length ≤ 1099511627776) (kont : ∀ (b : Bool) (W' : PW), Ext W W' → ((b = true ↔ RightP T.length (tw T))) → K (.bool b) W') :
    callN Go.Proofs.Tryz.prog W0 M 33 [s.v] W K :=
  callN_of (fun W' hE => txEven_ok (M := fun _ => False) (h.ext hE) hr) (fun W' v W'' hE hE' hP => by
    obtain ⟨b, rfl, h⟩ := hP
    exact kont b W'' (hE.trans hE') h)
theorem matParse_ok {W0 : PW} {M : Nat → Prop} {n0 : Nat} {s : Sl} {T : List (List ByteArray)} (hn : NewFrom n0 W0) (h : IsTx W0 s T) (hr : T.length ≤ 1099511627776) (ht : ∀ i j, (txt T i j).size ≤ 1099511627776) :
    PCallsM Go.Proofs.Tryz.prog 13 [s.v] W0 M fun v W' => ∃ (s' : Sl), ∃ (e : Int), v = .tuple #[Sl.v s', .int .i64 e] ∧ (e = 0 → RightP T.length (tw T) ∧ OMat 107 52 31 (n0 ≤ ·) W' s' T.length (tw T 0) (fun i j => (parseQ (txt T i j)).getD 0)) ∧ (e ≠ 0 → ¬ (RightP T.length (tw T) ∧ ∀ i j, i < T.length → j < tw T i → (parseQ (txt T i j)).isSome = true)) := by
  apply callmat_Parse
  have hsn := h.n
  refine txEven_call h hr fun b W2 hE2 hb => ⟨b, rfl, fun hf W4 _ => ⟨⟨none, 0, 0⟩, 1, rfl, fun h => (by cases h), fun _ h => ?_⟩, fun ht' => ?_⟩
  · rw [hb.2 h.1] at hf; cases hf
  have hbt : b = true := by simpa using ht'
  have hR := hb.1 hbt
  have hR' := hR
  obtain ⟨hc, hr1, hr12, hc1, hc12⟩ := hR'
  have h2 := h.ext hE2
  obtain ⟨y, f1, f2⟩ := h2.at (i := 0) (by omega)
  have ny := f2.nt.trans (tw_eq (by omega)).symm
  refine ⟨h2.inB (by omega) (by omega), y, f1, ?_⟩
  rw [ny, hsn]
  obtain ⟨n1, hn1⟩ : ∃ n1, W2.w.heap.size = n1 := ⟨_, rfl⟩
  have hle : W2.w.heap.size ≤ n1 := by omega
  have hn1' : NewFrom n1 W2 := by unfold NewFrom; omega
  have h01 : W0.w.heap.size ≤ n1 := Nat.le_trans hE2.size hle
  refine matNone_call hn1' (by omega) (by omega) fun s8 W7 hE7 h8 => ⟨s8, rfl, ?_⟩
  refine ⟨fun l W => match l with | [.val (.int .i64 i)] => ∃ k : Nat, i = (k : Int) ∧ k ≤ T.length ∧ ExtN n1 W2 W ∧ OMat 107 52 31 (n1 ≤ ·) W s8 T.length (tw T 0) (fun a b => if a < k then (parseQ (txt T a b)).getD 0 else 0) | _ => False, fun l _ => match l with | [.val (.int .i64 i)] => T.length - i.toNat | _ => 0, ⟨0, rfl, Nat.zero_le _, hE7.toM _, h8.congr fun i j _ _ => by simp⟩, ?_⟩
  rintro i11 W12 ⟨k, rfl, hk, hE12, h12⟩
  refine ⟨fun hlt => ?_, fun hge W28 hE28 => ⟨s8, 0, rfl, fun _ => ⟨hR, ?_⟩, fun h => absurd rfl h⟩⟩
  · have hkr : k < T.length := by omega
    obtain ⟨x, e1, e2⟩ := h2.at (i := k) hkr
    have nx := e2.nt.trans (tw_eq hkr).symm
    have hck := hc k hkr
    have hkt := tw_eq hkr
    refine ⟨(h2.new hE12 hle).inB (by omega) (by omega), x, e1.new hE12 hle, ?_⟩
    refine ⟨fun l W => match l with | [.val (.int .i64 i)] => ∃ l : Nat, i = (l : Int) ∧ l ≤ tw T 0 ∧ ExtN n1 W2 W ∧ OMat 107 52 31 (n1 ≤ ·) W s8 T.length (tw T 0) (fun a b => if a < k ∨ (a = k ∧ b < l) then (parseQ (txt T a b)).getD 0 else 0) | _ => False, fun l _ => match l with | [.val (.int .i64 i)] => tw T 0 - i.toNat | _ => 0, ⟨0, rfl, Nat.zero_le _, hE12, h12.congr fun i j _ _ => by simp⟩, ?_⟩
    rintro i16 W17 ⟨l, rfl, hl, hE17, h17⟩
    refine ⟨fun hlt2 => ?_, fun hge2 => ⟨by unfold I64; omega, ⟨k + 1, by push_cast; rfl, by omega, hE17, h17.congr fun a b ha hb => ?_⟩, ?_⟩⟩
    · have hlc : l < tw T 0 := by omega
      have e17 := e2.new hE17 hle
      have hlt3 : l < T[k].length := by omega
      have htx := txt_eq hkr hlt3
      refine ⟨e17.inBt (by omega) (by omega), _, e17.text hlt3, ?_⟩
      rw [← htx]
      refine ratParse_call (ht k l) fun s21 b22 s23 W20 hE20 h21 => ⟨s21, b22, s23, _, rfl, fun hne W25 _ => ⟨⟨none, 0, 0⟩, _, rfl, fun h => absurd h hne, fun _ hall => ?_⟩, fun heq => ?_⟩
      · have := hall.2 k l hkr (by omega)
        rw [er_ne hne] at this
        cases this
      · have h20 := h17.ext hE20
        obtain ⟨z, z1, z2⟩ := h20.mat.at (i := k) hkr
        refine ⟨h20.mat.inB (by omega) (by omega), z, z1, z2.inB (by omega) (by omega), ?_⟩
        refine h20.store (j := l) z1 hkr hlc h21 (by decide) (by decide) (fun g hg => .inr (Nat.le_trans h01 hg)) fun W22 hp h22 => ⟨by unfold I64; omega, ⟨l + 1, by push_cast; rfl, by omega, (hE17.trans (hE20.toM _)).trans (hp.extN fun g hg => hg), h22.congr fun a b ha hb => ?_⟩, ?_⟩
        · unfold setM
          by_cases e : a = k ∧ b = l
          · rw [if_pos e, if_pos (by omega), e.1, e.2]
          · rw [if_neg e]
            dsimp only
            by_cases e' : a < k ∨ (a = k ∧ b < l)
            · rw [if_pos e', if_pos (by omega)]
            · rw [if_neg e', if_neg (by omega)]
        · show tw T 0 - Int.toNat ((l : Int) + 1) < tw T 0 - Int.toNat (l : Int)
          omega
    · by_cases e' : a < k ∨ (a = k ∧ b < l)
      · rw [if_pos e', if_pos (by omega)]
      · rw [if_neg e', if_neg (by omega)]
    · show T.length - Int.toNat ((k : Int) + 1) < T.length - Int.toNat (k : Int)
      omega
  · refine ((h12.ext hE28).mono fun g hg => Nat.le_trans (hn.ext hE2) (Nat.le_trans hle hg)).congr fun a b ha hb => ?_
    rw [if_pos (by omega)]
theorem matParse_call {W0 W : PW} {M : Nat → Prop} {n0 : Nat} {s : Sl} {T : List (List ByteArray)} {K : Value → PW → Prop} (hn : NewFrom n0 W) (h : IsTx W s T) (hr : T.length ≤ 1099511627776) (ht : ∀ i j, (txt T i j).size ≤ 1099511627776) (kont : ∀ (s' : Sl) (e : Int) (W' : PW), Ext W W' → ((e = 0 → RightP T.length (tw T) ∧ OMat 107 52 31 (n0 ≤ ·) W' s' T.length (tw T 0) (fun i j => (parseQ (txt T i j)).getD 0)) ∧ (e ≠ 0 → ¬ (RightP T.length (tw T) ∧ ∀ i j, i < T.length → j < tw T i → (parseQ (txt T i j)).isSome = true))) → K (.tuple #[Sl.v s', .int .i64 e]) W') :
    callN Go.Proofs.Tryz.prog W0 M 13 [s.v] W K :=
  callN_of (fun W' hE => matParse_ok (M := fun _ => False) (hn.ext hE) (h.ext hE) hr ht) (fun W' v W'' hE hE' hP => by
    obtain ⟨s', e, rfl, h⟩ := hP
    exact kont s' e W'' (hE.trans hE') h)
end Go.Proofs.YtcffcndpefaalaaGreat

/- cincturelaw11.Raw. -/
set_option maxRecDepth 100000
set_option linter.unusedVariables false
set_option linter.unusedSimpArgs false
namespace Go.Proofs.YtcffcndpefaalaaGreat
open Go Go.SX
theorem and_dup {p : Prop} (h : p) : dup 1 p ∧ p := ⟨dup_of h 1, h⟩
/-- Cells of quotients, of both kinds. -/
def QL (t : TypeId) (W : PW) (xs : List (List Value)) (qs : List Rat) : Prop := xs.length = qs.length ∧ ∀ i (h : i < qs.length), ∃ (s : Sl) (b : Bool) (s' : Sl), xs[i]? = some [s.v, .bool b, s'.v] ∧ IsRat t W s b s' qs[i]
def RQL (t : TypeId) (W : PW) (xs : List (List Value)) (qs : List Rat) : Prop := xs.length = qs.length ∧ ∀ i (h : i < qs.length), ∃ (b : Bool) (s s' : Sl), xs[i]? = some [.bool b, s.v, s'.v] ∧ IsRefQ t W b s s' qs[i]
theorem QL.ext {t : TypeId} {W W' : PW} {xs : List (List Value)} {qs : List Rat} (h : QL t W xs qs) (hE : Ext W W') : QL t W' xs qs := ⟨h.1, fun i hi => let ⟨s, b, s', h1, h2⟩ := h.2 i hi; ⟨s, b, s', h1, h2.ext hE⟩⟩
theorem RQL.ext {t : TypeId} {W W' : PW} {xs : List (List Value)} {qs : List Rat} (h : RQL t W xs qs) (hE : Ext W W') : RQL t W' xs qs := ⟨h.1, fun i hi => let ⟨b, s, s', h1, h2⟩ := h.2 i hi; ⟨b, s, s', h1, h2.ext hE⟩⟩
theorem QL.snoc {t : TypeId} {W : PW} {xs : List (List Value)} {qs : List Rat} {s s' : Sl} {b : Bool} {q : Rat} (h : QL t W xs qs) (hq : IsRat t W s b s' q) : QL t W (xs ++ [[s.v, .bool b, s'.v]]) (qs ++ [q]) := by
  refine ⟨by simp [h.1], fun i hi => ?_⟩
  by_cases e : i < qs.length
  · obtain ⟨a, c, d, h1, h2⟩ := h.2 i e
    exact ⟨a, c, d, by rw [List.getElem?_append_left (by rw [h.1]; exact e)]; exact h1, by rw [List.getElem_append_left e]; exact h2⟩
  · have : i = qs.length := by simp at hi; omega
    subst this
    exact ⟨s, b, s', by rw [List.getElem?_append_right (by rw [h.1]; exact Nat.le_refl _), h.1]; simp, by rw [List.getElem_concat_length rfl]; exact hq⟩
theorem RQL.snoc {t : TypeId} {W : PW} {xs : List (List Value)} {qs : List Rat} {s s' : Sl} {b : Bool} {q : Rat} (h : RQL t W xs qs) (hq : IsRefQ t W b s s' q) : RQL t W (xs ++ [[.bool b, s.v, s'.v]]) (qs ++ [q]) := by
  refine ⟨by simp [h.1], fun i hi => ?_⟩
  by_cases e : i < qs.length
  · obtain ⟨a, c, d, h1, h2⟩ := h.2 i e
    exact ⟨a, c, d, by rw [List.getElem?_append_left (by rw [h.1]; exact e)]; exact h1, by rw [List.getElem_append_left e]; exact h2⟩
  · have : i = qs.length := by simp at hi; omega
    subst this
    exact ⟨b, s, s', by rw [List.getElem?_append_right (by rw [h.1]; exact Nat.le_refl _), h.1]; simp, by rw [List.getElem_concat_length rfl]; exact hq⟩
/-- Rows of quotients, both kinds. -/
def QMs (t tq : TypeId) (W : PW) (ss : List Sl) (Q : List (List Rat)) : Prop := ss.length = Q.length ∧ ∀ i (h : i < ss.length) (h' : i < Q.length), ∃ xs, Row W tq 3 ss[i] xs ∧ QL t W xs Q[i]
def RQMs (t tq : TypeId) (W : PW) (ss : List Sl) (Q : List (List Rat)) : Prop := ss.length = Q.length ∧ ∀ i (h : i < ss.length) (h' : i < Q.length), ∃ xs, Row W tq 3 ss[i] xs ∧ RQL t W xs Q[i]
theorem QMs.ext {t tq : TypeId} {W W' : PW} {ss : List Sl} {Q : List (List Rat)} (h : QMs t tq W ss Q) (hE : Ext W W') : QMs t tq W' ss Q := ⟨h.1, fun i hi hi' => let ⟨xs, h1, h2⟩ := h.2 i hi hi'; ⟨xs, h1.ext hE, h2.ext hE⟩⟩
theorem RQMs.ext {t tq : TypeId} {W W' : PW} {ss : List Sl} {Q : List (List Rat)} (h : RQMs t tq W ss Q) (hE : Ext W W') : RQMs t tq W' ss Q := ⟨h.1, fun i hi hi' => let ⟨xs, h1, h2⟩ := h.2 i hi hi'; ⟨xs, h1.ext hE, h2.ext hE⟩⟩
theorem QMs.snoc {t tq : TypeId} {W : PW} {ss : List Sl} {Q : List (List Rat)} {s : Sl} {xs : List (List Value)} {qs : List Rat} (h : QMs t tq W ss Q) (hr : Row W tq 3 s xs) (hq : QL t W xs qs) : QMs t tq W (ss ++ [s]) (Q ++ [qs]) := by
  refine ⟨by simp [h.1], fun i hi hi' => ?_⟩
  by_cases e : i < ss.length
  · rw [List.getElem_append_left e, List.getElem_append_left (by have := h.1; omega)]
    exact h.2 i e _
  · have : i = ss.length := by simp at hi; omega
    subst this
    have e2 : (Q ++ [qs])[ss.length]'hi' = qs := by
      rw [List.getElem_append_right (by rw [h.1]; exact Nat.le_refl _)]
      simp [h.1]
    rw [List.getElem_concat_length rfl, e2]
    exact ⟨xs, hr, hq⟩
theorem RQMs.snoc {t tq : TypeId} {W : PW} {ss : List Sl} {Q : List (List Rat)} {s : Sl} {xs : List (List Value)} {qs : List Rat} (h : RQMs t tq W ss Q) (hr : Row W tq 3 s xs) (hq : RQL t W xs qs) : RQMs t tq W (ss ++ [s]) (Q ++ [qs]) := by
  refine ⟨by simp [h.1], fun i hi hi' => ?_⟩
  by_cases e : i < ss.length
  · rw [List.getElem_append_left e, List.getElem_append_left (by have := h.1; omega)]
    exact h.2 i e _
  · have : i = ss.length := by simp at hi; omega
    subst this
    have e2 : (Q ++ [qs])[ss.length]'hi' = qs := by
      rw [List.getElem_append_right (by rw [h.1]; exact Nat.le_refl _)]
      simp [h.1]
    rw [List.getElem_concat_length rfl, e2]
    exact ⟨xs, hr, hq⟩
def qw (Q : List (List Rat)) (i : Nat) : Nat := (Q[i]?.getD []).length
def qm (Q : List (List Rat)) (i j : Nat) : Rat := (Q[i]?.getD [])[j]?.getD 0
theorem QMs.mat {t tq ts : TypeId} {W : PW} {s : Sl} {ss : List Sl} {Q : List (List Rat)} (h : QMs t tq W ss Q) (hr : Row W ts 1 s (ss.map fun x => [x.v])) : IsMat t tq ts W s Q.length (qw Q) (qm Q) := by
  refine ⟨ss, hr, h.1, fun i hi => ?_⟩
  have hi' : i < Q.length := by have := h.1; omega
  obtain ⟨xs, h1, h2⟩ := h.2 i hi hi'
  have e : Q[i]?.getD [] = Q[i] := by rw [List.getElem?_eq_getElem hi']; rfl
  refine ⟨xs, h1, by unfold qw; rw [e]; exact h2.1, fun j hj => ?_⟩
  unfold qw at hj
  rw [e] at hj
  obtain ⟨a, b, c, k1, k2⟩ := h2.2 j hj
  refine ⟨a, b, c, k1, ?_⟩
  unfold qm
  rw [e, List.getElem?_eq_getElem hj]
  exact k2
/-- The matrix of the document's program. -/
def IsRefMat (t tq ts : TypeId) (W : PW) (s : Sl) (Q : List (List Rat)) : Prop := ∃ ss : List Sl, Row W ts 1 s (ss.map fun x => [x.v]) ∧ RQMs t tq W ss Q
def Small (Q : List (List Rat)) : Prop := Q.length ≤ 5 ∧ ∀ qs ∈ Q, qs.length ≤ 5 ∧ ∀ q ∈ qs, Sz 3 q
theorem Small.sz {Q : List (List Rat)} (h : Small Q) (i j : Nat) : Sz 3 (qm Q i j) := by
  unfold qm
  cases e : Q[i]? with
  | none => exact Sz.zero (by omega)
  | some qs =>
    show Sz 3 (qs[j]?.getD 0)
    cases e2 : qs[j]? with
    | none => exact Sz.zero (by omega)
    | some q => exact (h.2 qs (List.mem_of_getElem? e)).2 q (List.mem_of_getElem? e2)
def rawI (W0 : PW) (n : Nat) (l : List PL) (W : PW) : Prop :=
  match l with
  | [.row l3, .row l4, .val (.int .i64 i)] => Ext W0 W ∧ ∃ (ss ss' : List Sl) (Q : List (List Rat)), l3 = (ss.map fun x => [x.v]) ∧ l4 = (ss'.map fun x => [x.v]) ∧ i = (Q.length : Int) ∧ Q.length ≤ n ∧ QMs 107 52 W ss Q ∧ RQMs 107 58 W ss' Q ∧ Small Q
  | _ => False
def rawI2 (W6 : PW) (n : Nat) (l : List PL) (W : PW) : Prop :=
  match l with
  | [.row l9, .row l10, .val (.int .i64 i)] => Ext W6 W ∧ ∃ (qs : List Rat) (j : Nat), i = (j : Int) ∧ qs.length ≤ j ∧ j ≤ 5 ∧ j ≤ n ∧ QL 107 W l9 qs ∧ RQL 107 W l10 qs ∧ ∀ q ∈ qs, Sz 3 q
  | _ => False
def rawM (n : Nat) (l : List PL) (W : PW) : Nat :=
  match l with
  | [_, _, .val (.int .i64 i)] => n - i.toNat
  | _ => 0
theorem lawRaw_ok {W0 : PW} {M : Nat → Prop} {s : Sl} {T : List (List ByteArray)} (h : IsTx W0 s T) (hT : ∀ i j, (txt T i j).size ≤ 1099511627776) :
    PCallsM Go.Proofs.Tryz.prog 6 [s.v] W0 M fun v W' => ∃ (m : Sl), ∃ (x : Sl), ∃ (Q : List (List Rat)), v = .tuple #[Sl.v m, Sl.v x] ∧ IsMat 107 52 31 W' m Q.length (qw Q) (qm Q) ∧ IsRefMat 107 58 34 W' x Q ∧ Small Q := by
  apply calllaw11_Raw
  have hn := h.n
  refine ⟨rawI W0 T.length, rawM T.length, ⟨Ext.refl _, [], [], [], rfl, rfl, rfl, Nat.zero_le _, ⟨rfl, fun i h => by simp at h⟩, ⟨rfl, fun i h => by simp at h⟩, by simp, fun qs h => by simp at h⟩, ?_⟩
  rintro l3 l4 i5 W6 ⟨hE6, ss, ss', Q, rfl, rfl, rfl, hQn, hQ, hR, hSm⟩
  refine ⟨fun hlt => ⟨fun h5 => ?_, fun h5 => ?_⟩, fun hge => ?_⟩
  rotate_left
  · intro s104 W105 hE105 hO105 hf105 s107 W108 hE108 hO108 hf108 W110 hE110
    exact ⟨s104, s107, Q, rfl, (((hQ.ext hE105).ext hE108).ext hE110).mat ((hO105.ext hE108).ext hE110).row, ⟨ss', (hO108.ext hE110).row, ((hR.ext hE105).ext hE108).ext hE110⟩, hSm⟩
  · intro s104 W105 hE105 hO105 hf105 s107 W108 hE108 hO108 hf108 W110 hE110
    exact ⟨s104, s107, Q, rfl, (((hQ.ext hE105).ext hE108).ext hE110).mat ((hO105.ext hE108).ext hE110).row, ⟨ss', (hO108.ext hE110).row, ((hR.ext hE105).ext hE108).ext hE110⟩, hSm⟩
  have hk : Q.length < T.length := by omega
  have h6 := h.ext hE6
  have hS1 := hSm.1
  obtain ⟨r, e1, e2⟩ := h6.at (i := Q.length) hk
  have nr := e2.nt
  refine ⟨rawI2 W6 T[Q.length].length, rawM T[Q.length].length, ⟨Ext.refl _, [], 0, rfl, Nat.le_refl _, by omega, Nat.zero_le _, ⟨rfl, fun i h => by simp at h⟩, ⟨rfl, fun i h => by simp at h⟩, fun q h => by simp at h⟩, ?_⟩
  rintro l9 l10 i11 W12 ⟨hE12, qs, j, rfl, hqj, hj5, hjn, hl9, hl10, hsz⟩
  have ib : inB s (Q.length : Int) := h6.inB (by omega) (by omega)
  refine ⟨ib, r, e1.ext hE12, fun hlt2 => ⟨fun h52 => ?_, fun h52 => ?_⟩, fun hge2 => ?_⟩
  rotate_left
  · intro s27 W28 hE28 hO28 hf28
    refine ⟨by simp only [List.length_map, hQ.1, List.length_cons, List.length_nil]; omega, fun s30 W31 hE31 hO31 hf31 => ⟨by simp only [List.length_map, hR.1, List.length_cons, List.length_nil]; omega, by unfold I64; omega, ⟨((hE6.trans hE12).trans hE28).trans hE31, ss ++ [s27], ss' ++ [s30], Q ++ [qs], by simp, by simp, by simp, by simp; omega, (((hQ.ext hE12).ext hE28).ext hE31).snoc (hO28.ext hE31).row ((hl9.ext hE28).ext hE31), (((hR.ext hE12).ext hE28).ext hE31).snoc hO31.row ((hl10.ext hE28).ext hE31), by simp; omega, fun q hq => ?_⟩, ?_⟩⟩
    · rcases List.mem_append.1 hq with h | h
      · exact hSm.2 q h
      · rw [List.mem_singleton.1 h]
        exact ⟨by omega, hsz⟩
    · show T.length - Int.toNat ((Q.length : Int) + 1) < T.length - Int.toNat (Q.length : Int)
      omega
  · intro s27 W28 hE28 hO28 hf28
    refine ⟨by simp only [List.length_map, hQ.1, List.length_cons, List.length_nil]; omega, fun s30 W31 hE31 hO31 hf31 => ⟨by simp only [List.length_map, hR.1, List.length_cons, List.length_nil]; omega, by unfold I64; omega, ⟨((hE6.trans hE12).trans hE28).trans hE31, ss ++ [s27], ss' ++ [s30], Q ++ [qs], by simp, by simp, by simp, by simp; omega, (((hQ.ext hE12).ext hE28).ext hE31).snoc (hO28.ext hE31).row ((hl9.ext hE28).ext hE31), (((hR.ext hE12).ext hE28).ext hE31).snoc hO31.row ((hl10.ext hE28).ext hE31), by simp; omega, fun q hq => ?_⟩, ?_⟩⟩
    · rcases List.mem_append.1 hq with h | h
      · exact hSm.2 q h
      · rw [List.mem_singleton.1 h]
        exact ⟨by omega, hsz⟩
    · show T.length - Int.toNat ((Q.length : Int) + 1) < T.length - Int.toNat (Q.length : Int)
      omega
  have hjT : j < T[Q.length].length := by omega
  have r12 := e2.ext hE12
  have htx := txt_eq hk hjT
  refine ⟨ib, r, e1.ext hE12, r12.inBt (by omega) (by omega), _, r12.text hjT, ?_⟩
  rw [← htx]
  obtain ⟨t, ht⟩ : ∃ t, txt T Q.length j = t := ⟨_, rfl⟩
  rw [ht] at htx ⊢
  have hts : t.size ≤ 1099511627776 := by rw [← ht]; exact hT _ _
  have next : ∀ W17, Ext W12 W17 → I64 ((j : Int) + 1) ∧ rawI2 W6 T[Q.length].length [PL.row l9, PL.row l10, PL.val (Value.int IntKind.i64 ((j : Int) + 1))] W17 ∧ rawM T[Q.length].length [PL.row l9, PL.row l10, PL.val (Value.int IntKind.i64 ((j : Int) + 1))] W17 < rawM T[Q.length].length [PL.row l9, PL.row l10, PL.val (Value.int IntKind.i64 (j : Int))] W12 := by
    intro W17 hE17
    refine ⟨by unfold I64; omega, ⟨hE12.trans hE17, qs, j + 1, by push_cast; rfl, by omega, by omega, by omega, hl9.ext hE17, hl10.ext hE17, hsz⟩, ?_⟩
    show T[Q.length].length - Int.toNat ((j : Int) + 1) < T[Q.length].length - Int.toNat (j : Int)
    omega
  refine law3Num_call hts fun s18 b19 s20 b21 s22 s23 W17 hE17 ⟨h18, h22⟩ => ⟨s18, b19, s20, b21, s22, s23, _, rfl, fun hb => ?_, fun hb => next W17 hE17⟩
  obtain ⟨q, hq⟩ := Option.isSome_iff_exists.1 hb
  rw [hq] at h18 h22
  have h18 : IsRat 107 W17 s18 b19 s20 q := h18
  have h22 : IsRefQ 107 W17 b21 s22 s23 q := h22
  have r17 := r12.ext hE17
  have et := r17.text hjT
  rw [← htx] at et
  refine ⟨ib, r, (e1.ext hE12).ext hE17, r17.inBt (by omega) (by omega), t, et, fun h20 => ?_, fun h20 => next W17 hE17⟩
  refine and_dup ?_
  have hqs : Sz 3 q := by
    unfold numQ at hq
    rw [if_pos (by omega)] at hq
    exact (parseQ_sz hq).2 (by omega)
  refine ⟨by rw [hl9.1]; simp only [List.length_cons, List.length_nil]; omega, by rw [hl10.1]; simp only [List.length_cons, List.length_nil]; omega, by unfold I64; omega, ⟨hE12.trans hE17, qs ++ [q], j + 1, by push_cast; rfl, by simp; omega, by omega, by omega, (hl9.ext hE17).snoc h18, (hl10.ext hE17).snoc h22, fun q' hq' => ?_⟩, ?_⟩
  · rcases List.mem_append.1 hq' with h | h
    · exact hsz q' h
    · rw [List.mem_singleton.1 h]; exact hqs
  · show T[Q.length].length - Int.toNat ((j : Int) + 1) < T[Q.length].length - Int.toNat (j : Int)
    omega
theorem lawRaw_call {W0 W : PW} {M : Nat → Prop} {s : Sl} {T : List (List ByteArray)} {K : Value → PW → Prop} (h : IsTx W s T) (hT : ∀ i j, (txt T i j).size ≤ 1099511627776) (kont : ∀ (m : Sl) (x : Sl) (Q : List (List Rat)) (W' : PW), Ext W W' → (IsMat 107 52 31 W' m Q.length (qw Q) (qm Q) ∧ IsRefMat 107 58 34 W' x Q ∧ Small Q) → K (.tuple #[Sl.v m, Sl.v x]) W') :
    callN Go.Proofs.Tryz.prog W0 M 6 [s.v] W K :=
  callN_of (fun W' hE => lawRaw_ok (M := fun _ => False) (h.ext hE) hT) (fun W' v W'' hE hE' hP => by
    obtain ⟨m, x, Q, rfl, h⟩ := hP
    exact kont m x Q W'' (hE.trans hE') h)
end Go.Proofs.YtcffcndpefaalaaGreat
