/- cinctureref1: natural numbers: trim, NatOf, CmpNat, Bits, AddNat, SubNat. -/
import Derived.Test.YtbingbjhgoanoaaGreatR6
import Derived.Test.YtbingbjhgoanoaaGreatW6
import Derived.Test.YtbingbjhgoanoaaGreatLib2
set_option linter.unusedVariables false
set_option linter.unusedSimpArgs false
set_option maxRecDepth 100000
set_option linter.unusedVariables false
set_option linter.unusedSimpArgs false
namespace Go.Proofs.YtbingbjhgoanoaaGreat
open Go Go.SX
theorem and32 {n : Nat} (h : n < 18446744073709551616) : bits .and .u64 (n : Int) 4294967295 = ((n % B : Nat) : Int) := by
  have e : ((4294967295 : Nat) : Int) = 4294967295 := rfl
  rw [← e, u64_and_nat _ _ h (by decide)]
  congr 1
  exact Nat.and_two_pow_sub_one_eq_mod n 32
def rtI (W0 : PW) (l0 : List Nat) (l : List PL) (W : PW) : Prop :=
  match l with
  | [.val (.int .i64 k)] => Ext W0 W ∧ ∃ k' : Nat, k = (k' : Int) ∧ k' ≤ l0.length ∧ val (l0.take k') = val l0
  | _ => False
def rtM (l : List PL) (W : PW) : Nat :=
  match l with
  | [.val (.int .i64 k)] => k.toNat
  | _ => 0
theorem refTrimK_ok {W0 : PW} {M : Nat → Prop} {s : Sl} {l : List Nat} (h : Row W0 183 1 s (cel l)) (hd : Dig l) (hl : l.length ≤ 1099511627776) :
    PCallsM Go.Proofs.Tryz.prog 137 [s.v] W0 M fun v W' => ∃ (k : Nat), v = .slice s.A k s.c ∧ k ≤ l.length ∧ dg (val l) = l.take k := by
  apply callref1_trim
  have hn : s.n = l.length := Digs.n h
  have hnc : s.n ≤ s.c := h.2.1
  have fin : ∀ (k : Nat), k ≤ l.length → val (l.take k) = val l → Trim (l.take k) → ∃ k' : Nat, Sl.v (Sl.cut { A := Sl.A s, n := Sl.n s, c := Sl.c s } (TyI.size ty183) (Int.toNat 0) (Int.toNat (k : Int))) = .slice s.A k' s.c ∧ k' ≤ l.length ∧ dg (val l) = l.take k' := by
    intro k hk hv ht
    rw [show Int.toNat 0 = 0 from rfl, show TyI.size ty183 = 1 from rfl, Sl.cut_zero, Int.toNat_natCast]
    exact ⟨k, rfl, hk, by rw [← hv, dg_val (hd.take k) ht]⟩
  refine ⟨rtI W0 l, rtM, ⟨Ext.refl _, l.length, by omega, Nat.le_refl _, by rw [List.take_length]⟩, ?_⟩
  rintro i3 W4 ⟨hE4, k, rfl, hk, hv⟩
  have h4 : Digs 183 W4 s l := Row.ext h hE4
  refine ⟨fun hpos => ?_, fun hz => ⟨by omega, fun W7 hE7 => fin k hk hv ?_⟩⟩
  · have hk1 : k - 1 < l.length := by omega
    have e1 : ((k : Int) - 1) = ((k - 1 : Nat) : Int) := by omega
    rw [e1]
    refine ⟨by unfold I64; omega, Digs.inB h4 (by omega) (by omega), ((l[k - 1] : Nat) : Int), by rw [Int.toNat_natCast]; exact Digs.at h4 hk1, fun h0 => ⟨by unfold I64; omega, ⟨hE4, k - 1, rfl, by omega, ?_⟩, ?_⟩, fun h0 => ⟨by omega, fun W6 hE6 => fin k hk hv ?_⟩⟩
    · have := val_take_succ hk1
      rw [show k - 1 + 1 = k by omega, hv, show l[k - 1] = 0 by omega, Nat.mul_zero, Nat.add_zero] at this
      exact this.symm
    · show Int.toNat ((k - 1 : Nat) : Int) < Int.toNat (k : Int)
      omega
    · unfold Trim
      rw [List.getLast?_eq_getElem?, List.length_take, Nat.min_eq_left hk, List.getElem?_take, if_pos (by omega), List.getElem?_eq_getElem hk1]
      intro e
      have := Option.some.inj e
      omega
  · have : k = 0 := by omega
    subst this
    exact fun h => by simp at h
theorem refTrim_ok {W0 : PW} {M : Nat → Prop} {s : Sl} {l : List Nat} (h : Row W0 183 1 s (cel l)) (hd : Dig l) (hl : l.length ≤ 1099511627776) :
    PCallsM Go.Proofs.Tryz.prog 137 [s.v] W0 M fun v W' => ∃ (s' : Sl), v = Sl.v s' ∧ IsNat 183 W' s' (val l) := by
  have hp : PCalls Go.Proofs.Tryz.prog 137 [s.v] W0 (fun v W' => ∃ s' : Sl, v = Sl.v s' ∧ IsNat 183 W' s' (val l)) := PCalls.mono (refTrimK_ok h hd hl) fun v W' hE ⟨k, hv, hk, he⟩ => ⟨⟨s.A, k, s.c⟩, hv, by
    show Digs 183 W' _ (dg (val l))
    rw [he]
    exact Row.ext (Digs.take h hk) hE⟩
  exact PCallsM.mono hp (fun _ h => h.elim) fun _ _ _ h => h
theorem refTrim_call {W0 W : PW} {M : Nat → Prop} {s : Sl} {l : List Nat} {K : Value → PW → Prop} (h : Row W 183 1 s (cel l)) (hd : Dig l) (hl : l.length ≤ 1099511627776) (kont : ∀ (s' : Sl) (W' : PW), Ext W W' → (IsNat 183 W' s' (val l)) → K (Sl.v s') W') :
    callN Go.Proofs.Tryz.prog W0 M 137 [s.v] W K :=
  callN_of (fun W' hE => refTrim_ok (M := fun _ => False) (h.ext hE) hd hl) (fun W' v W'' hE hE' hP => by
    obtain ⟨s', rfl, h⟩ := hP
    exact kont s' W'' (hE.trans hE') h)
theorem refNatOf_ok {W0 : PW} {M : Nat → Prop} {x : Nat} (hx : x < B * B) :
    PCallsM Go.Proofs.Tryz.prog 98 [.int .u64 (x : Int)] W0 M fun v W' => ∃ (s' : Sl), v = Sl.v s' ∧ IsNat 183 W' s' x := by
  apply callref1_NatOf
  intro s1 W2 hE2 hO hnew
  rw [and32 (by unfold B at hx; omega), ishr32, wrap32n, wrap32n, Nat.mod_mod] at hO
  have hO : Go.SX.Own W2 183 1 s1 (cel [x % B, x / B % B]) := hO
  have hb : x / B < B := (Nat.div_lt_iff_lt_mul B_pos).2 hx
  rw [Nat.mod_eq_of_lt hb] at hO
  have hd : Dig [x % B, x / B] := Dig.cons (Nat.mod_lt _ B_pos) (Dig.cons hb Dig.nil)
  refine refTrim_call hO.row hd (by simp) fun s' W5 hE5 hs => ⟨s', rfl, fun W7 hE7 => ⟨s', rfl, ?_⟩⟩
  have e : val [x % B, x / B] = x := by simp only [val]; have := Nat.mod_add_div x B; omega
  rw [e] at hs
  exact hs.ext hE7
theorem refNatOf_call {W0 W : PW} {M : Nat → Prop} {x : Nat} {K : Value → PW → Prop} (hx : x < B * B) (kont : ∀ (s' : Sl) (W' : PW), Ext W W' → (IsNat 183 W' s' x) → K (Sl.v s') W') :
    callN Go.Proofs.Tryz.prog W0 M 98 [.int .u64 (x : Int)] W K :=
  callN_of (fun W' hE => refNatOf_ok (M := fun _ => False) hx) (fun W' v W'' hE hE' hP => by
    obtain ⟨s', rfl, h⟩ := hP
    exact kont s' W'' (hE.trans hE') h)
theorem val_lt_len {x y : Nat} (h : nl x < nl y) : x < y := by
  apply Nat.lt_of_not_le
  intro hle
  have := nl_mono hle
  omega
def cmI (x y : Nat) (W0 : PW) (l : List PL) (W : PW) : Prop :=
  match l with
  | [.val (.int .i64 k)] => Ext W0 W ∧ ∃ k' : Nat, k = (k' : Int) - 1 ∧ k' ≤ nl x ∧ (dg x).drop k' = (dg y).drop k'
  | _ => False
def cmM (l : List PL) (W : PW) : Nat :=
  match l with
  | [.val (.int .i64 k)] => (k + 1).toNat
  | _ => 0
theorem refCmp_ok {W0 : PW} {M : Nat → Prop} {s t : Sl} {x y : Nat} (h1 : IsNat 183 W0 s x) (h2 : IsNat 183 W0 t y) (hx : nl x ≤ 1099511627776) :
    PCallsM Go.Proofs.Tryz.prog 100 [s.v, t.v] W0 M fun v W' => v = .int .i64 (cmpN x y) ∧ True := by
  apply callref1_CmpNat
  have n1 := h1.n
  have n2 := h2.n
  have hlx : (dg x).length = nl x := rfl
  have hly : (dg y).length = nl y := rfl
  refine ⟨fun hne => ⟨fun hlt W1 _ => ?_, fun hge W2 _ => ?_⟩, fun heq => ⟨by unfold I64; omega, cmI x y W0, cmM, ⟨Ext.refl _, nl x, by omega, Nat.le_refl _, ?_⟩, ?_⟩⟩
  · rw [cmpN_lt (val_lt_len (by omega))]; exact ⟨rfl, trivial⟩
  · rw [cmpN_gt (val_lt_len (by omega))]; exact ⟨rfl, trivial⟩
  · rw [List.drop_of_length_le (by omega), List.drop_of_length_le (by omega)]
  rintro i5 W6 ⟨hE6, k, rfl, hk, hdr⟩
  have ha := h1.ext hE6
  have hb := h2.ext hE6
  refine ⟨fun h0 => ?_, fun h0 W13 _ => ?_⟩
  · have ei : (k : Int) - 1 = ((k - 1 : Nat) : Int) := by omega
    have hka : k - 1 < (dg x).length := by omega
    have hkb : k - 1 < (dg y).length := by omega
    have hdr' : (dg x).drop (k - 1 + 1) = (dg y).drop (k - 1 + 1) := by rw [show k - 1 + 1 = k by omega]; exact hdr
    rw [ei]
    have ia := Digs.inB ha (i := ((k - 1 : Nat) : Int)) (by omega) (by omega)
    have ib := Digs.inB hb (i := ((k - 1 : Nat) : Int)) (by omega) (by omega)
    have ea := Digs.at ha hka
    have eb := Digs.at hb hkb
    refine ⟨ia, (((dg x)[k - 1] : Nat) : Int), ea, ib, (((dg y)[k - 1] : Nat) : Int), eb, fun hlt W9 _ => ?_, fun hge => ⟨ia, (((dg x)[k - 1] : Nat) : Int), ea, ib, (((dg y)[k - 1] : Nat) : Int), eb, fun hlt W12 _ => ?_, fun hge2 => ⟨by unfold I64; omega, ⟨hE6, k - 1, by omega, by omega, ?_⟩, ?_⟩⟩⟩
    · have := val_top (dig_dg x) hka hkb hdr' (by omega)
      rw [val_dg, val_dg] at this
      rw [cmpN_lt this]; exact ⟨rfl, trivial⟩
    · have := val_top (dig_dg y) hkb hka hdr'.symm (by omega)
      rw [val_dg, val_dg] at this
      rw [cmpN_gt this]; exact ⟨rfl, trivial⟩
    · rw [List.drop_eq_getElem_cons hka, List.drop_eq_getElem_cons hkb, hdr']
      congr 1
      omega
    · show Int.toNat (((k - 1 : Nat) : Int) - 1 + 1) < Int.toNat (((k - 1 : Nat) : Int) + 1)
      omega
  · have : k = 0 := by omega
    subst this
    have : x = y := by
      rw [List.drop_zero, List.drop_zero] at hdr
      rw [← val_dg x, hdr, val_dg]
    subst this
    rw [cmpN_eq]; exact ⟨rfl, trivial⟩
theorem refCmp_call {W0 W : PW} {M : Nat → Prop} {s t : Sl} {x y : Nat} {K : Value → PW → Prop} (h1 : IsNat 183 W s x) (h2 : IsNat 183 W t y) (hx : nl x ≤ 1099511627776) (kont : ∀  (W' : PW), Ext W W' → (True) → K (.int .i64 (cmpN x y)) W') :
    callN Go.Proofs.Tryz.prog W0 M 100 [s.v, t.v] W K :=
  callN_of (fun W' hE => refCmp_ok (M := fun _ => False) (h1.ext hE) (h2.ext hE) hx) (fun W' v W'' hE hE' hP => by
    obtain ⟨rfl, h⟩ := hP
    exact kont  W'' (hE.trans hE') h)
def rbI (N : Nat) (W0 : PW) (l : List PL) (W : PW) : Prop :=
  match l with
  | [.val (.int .i64 n), .val (.int .u32 v)] => Ext W0 W ∧ ∃ n' v' : Nat, n = (n' : Int) ∧ v = (v' : Int) ∧ n' + blen v' = N
  | _ => False
def rbM (l : List PL) (W : PW) : Nat :=
  match l with
  | [_, .val (.int .u32 v)] => v.toNat
  | _ => 0
theorem blen_half {v : Nat} (h : 0 < v) : blen v = blen (v / 2) + 1 := by
  by_cases h2 : 2 ≤ v
  · have := blen_shift (x := v) 1 (by simpa using h2)
    rw [this]
    simp
    omega
  · have : v = 1 := by omega
    subst this
    decide
theorem refBits_ok {W0 : PW} {M : Nat → Prop} {s : Sl} {x : Nat} (h : IsNat 183 W0 s x) (hx : nl x ≤ 274877906944) :
    PCallsM Go.Proofs.Tryz.prog 161 [s.v] W0 M fun v W' => v = .int .i64 ((blen x : Nat) : Int) ∧ True := by
  apply callref1_Bits
  have hn := h.n
  have hlx : (dg x).length = nl x := rfl
  refine ⟨fun h0 W1 _ => ?_, fun h0 => ?_⟩
  · have : x = 0 := nl_eq_zero.1 (by omega)
    subst this
    exact ⟨rfl, trivial⟩
  · have hx0 : x ≠ 0 := fun e => h0 (by rw [hn, e, nl_zero]; rfl)
    obtain ⟨hk, ht, hB, hv⟩ := dg_top hx0
    have e1 : ((s.n : Int) - 1) = ((nl x - 1 : Nat) : Int) := by omega
    rw [e1]
    have hb : blen x = 32 * (nl x - 1) + blen (dg x)[nl x - 1] := by
      conv => lhs; rw [hv]
      exact blen_val (val_take_lt (dig_dg x) _) ht
    refine ⟨by unfold I64; omega, by unfold I64; omega, by unfold I64; omega, Digs.inB h (by omega) (by omega), (((dg x)[nl x - 1] : Nat) : Int), by rw [Int.toNat_natCast]; exact Digs.at h hk, rbI (blen x) W0, rbM, ⟨Ext.refl _, 32 * (nl x - 1), _, by push_cast; rfl, rfl, hb.symm⟩, ?_⟩
    rintro i5 i6 W7 ⟨hE7, n, v, rfl, rfl, hs⟩
    have hbl : blen (dg x)[nl x - 1] ≤ 32 := blen_le hB
    refine ⟨fun hpos => ⟨?_, ⟨hE7, n + 1, v / 2, by push_cast; rfl, ?_, ?_⟩, ?_⟩, fun hz W8 _ => ?_⟩
    · have := blen_half (v := v) (by omega)
      unfold I64
      omega
    · exact ishr_nat v 1
    · have := blen_half (v := v) (by omega)
      omega
    · have e := ishr_nat v 1
      show Int.toNat (ishr (v : Int) 1) < Int.toNat (v : Int)
      rw [e]
      omega
    · have : v = 0 := by omega
      subst this
      have : n = blen x := by rw [blen_zero] at hs; omega
      subst this
      exact ⟨rfl, trivial⟩
theorem refBits_call {W0 W : PW} {M : Nat → Prop} {s : Sl} {x : Nat} {K : Value → PW → Prop} (h : IsNat 183 W s x) (hx : nl x ≤ 274877906944) (kont : ∀  (W' : PW), Ext W W' → (True) → K (.int .i64 ((blen x : Nat) : Int)) W') :
    callN Go.Proofs.Tryz.prog W0 M 161 [s.v] W K :=
  callN_of (fun W' hE => refBits_ok (M := fun _ => False) (h.ext hE) hx) (fun W' v W'' hE hE' hP => by
    obtain ⟨rfl, h⟩ := hP
    exact kont  W'' (hE.trans hE') h)
theorem val_take_q (l : List Nat) (k : Nat) : val (l.take (k + 1)) = val (l.take k) + B ^ k * (l[k]?.getD 0) := by
  by_cases h : k < l.length
  · rw [val_take_succ h, List.getElem?_eq_getElem h]; rfl
  · rw [take_ge (by omega), List.getElem?_eq_none (by omega)]
    simp
theorem refAdd_ok {W0 : PW} {M : Nat → Prop} {s t : Sl} {x y : Nat} (h1 : IsNat 183 W0 s x) (h2 : IsNat 183 W0 t y) (hx : nl x ≤ 549755813888) (hy : nl y ≤ 549755813888) :
    PCallsM Go.Proofs.Tryz.prog 153 [s.v, t.v] W0 M fun v W' => ∃ (s' : Sl), v = Sl.v s' ∧ IsNat 183 W' s' (x + y) := by
  apply callref1_AddNat
  have n1 := h1.n
  have n2 := h2.n
  have hlx : (dg x).length = nl x := rfl
  have hly : (dg y).length = nl y := rfl
  obtain ⟨m, hm⟩ : ∃ m, max (nl x) (nl y) = m := ⟨_, rfl⟩
  have em : mx (s.n : Int) (t.n : Int) = (m : Int) := by unfold mx; split <;> omega
  unfold Rref1_AddNat
  simp only [em]
  refine ⟨by unfold I64; omega, ⟨trivial, by omega, by omega⟩, fun l W => match l with
    | [.val (.int .u64 c), .val (.int .i64 k), .row xs] => Ext W0 W ∧ ∃ (c' k' : Nat) (zs : List Nat), c = (c' : Int) ∧ k = (k' : Int) ∧ xs = cel zs ∧ k' ≤ m + 1 ∧ zs.length = m + 1 ∧ Dig zs ∧
      val (zs.take k') + B ^ k' * c' = val ((dg x).take k') + val ((dg y).take k') ∧ c' ≤ 1
    | _ => False, fun l _ => match l with | [_, .val (.int .i64 k), _] => m + 1 - k.toNat | _ => 0, ?_, ?_⟩
  · refine ⟨Ext.refl _, 0, 0, List.replicate (m + 1) 0, rfl, rfl, ?_, by omega, by simp, fun d hd => ?_, by simp [val], by omega⟩
    · rw [show Int.toNat ((m : Int) + 1) = m + 1 by omega]; exact cel_replicate _
    · rw [(List.mem_replicate.1 hd).2]; decide
  rintro l3 i4 i5 W6 ⟨hE6, c, k, zs, rfl, rfl, rfl, hk, hz, hdz, hv, hc⟩
  have ha := h1.ext hE6
  have hb := h2.ext hE6
  rw [cel_length]
  have hw : ∀ da db : Nat, da < B → db < B → c + da + db < 2 * B ∧ c + da + db < 18446744073709551616 := by
    intro da db h1 h2
    unfold B at *
    omega
  have step : ∀ da db : Nat, (dg x)[k]?.getD 0 = da → (dg y)[k]?.getD 0 = db → da < B → db < B → k < m + 1 → val ((zs.set k ((c + da + db) % B)).take (k + 1)) + B ^ (k + 1) * ((c + da + db) / B) = val ((dg x).take (k + 1)) + val ((dg y).take (k + 1)) ∧ (c + da + db) / B ≤ 1 := by
    intro da db hda hdb hA hB hkm
    rw [val_set_take (by omega), val_take_q (dg x), val_take_q (dg y), hda, hdb, Nat.pow_succ]
    refine ⟨add_step hv, ?_⟩
    have := (Nat.div_lt_iff_lt_mul B_pos).2 (hw da db hA hB).1
    omega
  have nxt : ∀ (da db : Nat), (dg x)[k]?.getD 0 = da → (dg y)[k]?.getD 0 = db → da < B → db < B → k < m + 1 → ∃ (c' k' : Nat) (zs' : List Nat), (((c + da + db) / B : Nat) : Int) = (c' : Int) ∧ ((k : Int) + 1) = (k' : Int) ∧ (cel zs).set k [.int .u32 (((c + da + db) % B : Nat) : Int)] = cel zs' ∧ k' ≤ m + 1 ∧ zs'.length = m + 1 ∧ Dig zs' ∧
      val (zs'.take k') + B ^ k' * c' = val ((dg x).take k') + val ((dg y).take k') ∧ c' ≤ 1 := by
    intro da db hda hdb hA hB hkm
    obtain ⟨e1, e2⟩ := step da db hda hdb hA hB hkm
    exact ⟨_, k + 1, _, rfl, by push_cast; rfl, cel_set .., by omega, by simpa using hz, hdz.set (Nat.mod_lt _ B_pos), e1, e2⟩
  refine ⟨fun hlt => ?_, fun hge s10 W11 hE11 hO hnew => ?_⟩
  · have hkm : k < m + 1 := by omega
    have hmeas : ∀ z : Int, z = (k : Int) + 1 → m + 1 - z.toNat < m + 1 - Int.toNat (k : Int) := by intro z hz; omega
    have e0 : Int.toNat (k : Int) = k := rfl
    refine ⟨fun hlta => ?_, fun hgea => ?_⟩
    · have hka : k < (dg x).length := by omega
      have da := (dig_dg x).at hka
      obtain ⟨u, hu⟩ : ∃ u, (dg x)[k] = u := ⟨_, rfl⟩
      have hu' : (dg x)[k]?.getD 0 = u := by rw [List.getElem?_eq_getElem hka, hu]; rfl
      rw [hu] at da
      have eu : IntKind.wrap .u64 (u : Int) = (u : Int) := wrap64n (by unfold B at da; omega)
      refine ⟨Digs.inB ha (by omega) (by omega), (u : Int), by rw [← hu]; exact Digs.at ha hka, fun hltb => ?_, fun hgeb => ?_⟩
      · have hkb : k < (dg y).length := by omega
        have db := (dig_dg y).at hkb
        obtain ⟨v, hv'⟩ : ∃ v, (dg y)[k] = v := ⟨_, rfl⟩
        have hv2 : (dg y)[k]?.getD 0 = v := by rw [List.getElem?_eq_getElem hkb, hv']; rfl
        rw [hv'] at db
        have ev : IntKind.wrap .u64 (v : Int) = (v : Int) := wrap64n (by unfold B at db; omega)
        have w1 := hw u v da db
        have e : IntKind.wrap .u64 (IntKind.wrap .u64 ((c : Int) + IntKind.wrap .u64 (u : Int)) + IntKind.wrap .u64 (v : Int)) = ((c + u + v : Nat) : Int) := by
          rw [eu, ev, ← Int.natCast_add, wrap64n (by omega), ← Int.natCast_add, wrap64n (by omega)]
        refine ⟨Digs.inB hb (by omega) (by omega), (v : Int), by rw [← hv']; exact Digs.at hb hkb, ⟨by omega, by omega⟩, by omega, by unfold I64; omega, ?_, hmeas _ rfl⟩
        rw [e, ishr32, and32 w1.2, wrap32n, Nat.mod_mod, e0]
        exact ⟨hE6, nxt u v hu' hv2 da db hkm⟩
      · have hv2 : (dg y)[k]?.getD 0 = 0 := by rw [List.getElem?_eq_none (by omega)]; rfl
        have w1 := hw u 0 da B_pos
        have e : IntKind.wrap .u64 ((c : Int) + IntKind.wrap .u64 (u : Int)) = ((c + u + 0 : Nat) : Int) := by
          rw [eu, ← Int.natCast_add, wrap64n (by omega)]; rfl
        refine ⟨⟨by omega, by omega⟩, by omega, by unfold I64; omega, ?_, hmeas _ rfl⟩
        rw [e, ishr32, and32 w1.2, wrap32n, Nat.mod_mod, e0]
        exact ⟨hE6, nxt u 0 hu' hv2 da B_pos hkm⟩
    · have hu' : (dg x)[k]?.getD 0 = 0 := by rw [List.getElem?_eq_none (by omega)]; rfl
      refine ⟨fun hltb => ?_, fun hgeb => ?_⟩
      · have hkb : k < (dg y).length := by omega
        have db := (dig_dg y).at hkb
        obtain ⟨v, hv'⟩ : ∃ v, (dg y)[k] = v := ⟨_, rfl⟩
        have hv2 : (dg y)[k]?.getD 0 = v := by rw [List.getElem?_eq_getElem hkb, hv']; rfl
        rw [hv'] at db
        have ev : IntKind.wrap .u64 (v : Int) = (v : Int) := wrap64n (by unfold B at db; omega)
        have w1 := hw 0 v B_pos db
        have e : IntKind.wrap .u64 ((c : Int) + IntKind.wrap .u64 (v : Int)) = ((c + 0 + v : Nat) : Int) := by
          rw [ev, ← Int.natCast_add, wrap64n (by omega)]; rfl
        refine ⟨Digs.inB hb (by omega) (by omega), (v : Int), by rw [← hv']; exact Digs.at hb hkb, ⟨by omega, by omega⟩, by omega, by unfold I64; omega, ?_, hmeas _ rfl⟩
        rw [e, ishr32, and32 w1.2, wrap32n, Nat.mod_mod, e0]
        exact ⟨hE6, nxt 0 v hu' hv2 B_pos db hkm⟩
      · have hv2 : (dg y)[k]?.getD 0 = 0 := by rw [List.getElem?_eq_none (by omega)]; rfl
        have w1 := hw 0 0 B_pos B_pos
        have e : (c : Int) = ((c + 0 + 0 : Nat) : Int) := rfl
        refine ⟨⟨by omega, by omega⟩, by omega, by unfold I64; omega, ?_, hmeas _ rfl⟩
        rw [e, ishr32, and32 w1.2, wrap32n, Nat.mod_mod, e0]
        exact ⟨hE6, nxt 0 0 hu' hv2 B_pos B_pos hkm⟩
  · have hkm : k = m + 1 := by omega
    subst hkm
    have hX : val zs = x + y := by
      have hlt := val_lt (dig_dg x)
      have hlt2 := val_lt (dig_dg y)
      rw [show (dg x).take (m + 1) = dg x from List.take_of_length_le (by omega), show (dg y).take (m + 1) = dg y from List.take_of_length_le (by omega), val_dg, val_dg, ← hz, List.take_length] at hv
      rw [val_dg, hlx] at hlt
      rw [val_dg, hly] at hlt2
      have p1 : B ^ nl x ≤ B ^ m := Nat.pow_le_pow_right B_pos (by omega)
      have p2 : B ^ nl y ≤ B ^ m := Nat.pow_le_pow_right B_pos (by omega)
      have p3 : B ^ zs.length = B ^ m * B := by rw [hz, Nat.pow_succ]
      have p4 : B ^ m * 2 ≤ B ^ m * B := Nat.mul_le_mul_left _ (by decide)
      have hc0 : c = 0 := by
        rcases (show c = 0 ∨ c = 1 by omega) with h | h
        · exact h
        · subst h; omega
      subst hc0
      rw [Nat.mul_zero] at hv; omega
    refine refTrim_call hO.row hdz (by omega) fun s' W14 hE14 h => ⟨s', rfl, fun W16 hE16 => ⟨s', rfl, ?_⟩⟩
    rw [hX] at h
    exact h.ext hE16
theorem refAdd_call {W0 W : PW} {M : Nat → Prop} {s t : Sl} {x y : Nat} {K : Value → PW → Prop} (h1 : IsNat 183 W s x) (h2 : IsNat 183 W t y) (hx : nl x ≤ 549755813888) (hy : nl y ≤ 549755813888) (kont : ∀ (s' : Sl) (W' : PW), Ext W W' → (IsNat 183 W' s' (x + y)) → K (Sl.v s') W') :
    callN Go.Proofs.Tryz.prog W0 M 153 [s.v, t.v] W K :=
  callN_of (fun W' hE => refAdd_ok (M := fun _ => False) (h1.ext hE) (h2.ext hE) hx hy) (fun W' v W'' hE hE' hP => by
    obtain ⟨s', rfl, h⟩ := hP
    exact kont s' W'' (hE.trans hE') h)
theorem refSub_ok {W0 : PW} {M : Nat → Prop} {s t : Sl} {x y : Nat} (h1 : IsNat 183 W0 s x) (h2 : IsNat 183 W0 t y) (hx : nl x ≤ 549755813888) (hle : y ≤ x) :
    PCallsM Go.Proofs.Tryz.prog 154 [s.v, t.v] W0 M fun v W' => ∃ (s' : Sl), v = Sl.v s' ∧ IsNat 183 W' s' (x - y) := by
  apply callref1_SubNat
  have n1 := h1.n
  have n2 := h2.n
  have hnl := nl_mono hle
  have hlx : (dg x).length = nl x := rfl
  have hly : (dg y).length = nl y := rfl
  refine ⟨⟨rfl, by omega, by omega⟩, subI x y W0, addM x, ?_, ?_⟩
  · refine ⟨Ext.refl _, 0, 0, List.replicate (nl x) 0, rfl, rfl, ?_, by omega, by simp, fun d hd => ?_, by simp [val], by omega⟩
    · rw [show Int.toNat (s.n : Int) = nl x by omega]; exact cel_replicate _
    · rw [(List.mem_replicate.1 hd).2]; decide
  rintro l3 i4 i5 W6 ⟨hE6, c, k, zs, rfl, rfl, rfl, hk, hz, hdz, hv, hc⟩
  have ha := h1.ext hE6
  have hb := h2.ext hE6
  rw [cel_length]
  have e0 : Int.toNat (k : Int) = k := rfl
  have hmeas : k < nl x → ∀ z : Int, z = (k : Int) + 1 → nl x - z.toNat < nl x - Int.toNat (k : Int) := by intro hk z hz; omega
  have nxt : ∀ (u v d neg : Nat), (dg x)[k]?.getD 0 = u → (dg y)[k]?.getD 0 = v → d + c + v = u + B * neg → d < B → neg ≤ 1 → k < nl x → ∃ (c' k' : Nat) (zs' : List Nat), (neg : Int) = (c' : Int) ∧ ((k : Int) + 1) = (k' : Int) ∧ (cel zs).set k [.int .u32 (d : Int)] = cel zs' ∧ k' ≤ nl x ∧ zs'.length = nl x ∧ Dig zs' ∧
      val (zs'.take k') + val ((dg y).take k') = val ((dg x).take k') + B ^ k' * c' ∧ c' ≤ 1 := by
    intro u v d neg hu hv2 hs hd hneg hkx
    refine ⟨neg, k + 1, _, rfl, by push_cast; rfl, cel_set .., by omega, by simpa using hz, hdz.set hd, ?_, hneg⟩
    rw [val_set_take (by omega), val_take_q (dg x), val_take_q (dg y), hu, hv2, Nat.pow_succ]
    exact sub_alg (low := 0) hv hs
  refine ⟨fun hlt => ?_, fun hge s13 W14 hE14 hO hnew => ?_⟩
  · have hka : k < (dg x).length := by omega
    have da := (dig_dg x).at hka
    obtain ⟨u, hu⟩ : ∃ u, (dg x)[k] = u := ⟨_, rfl⟩
    have hu' : (dg x)[k]?.getD 0 = u := by rw [List.getElem?_eq_getElem hka, hu]; rfl
    have ea : ElemAt W6 s 1 k 0 [.int .u32 (u : Int)] := by rw [← hu]; exact Digs.at ha hka
    have ia := Digs.inB ha (i := (k : Int)) (by omega) (by omega)
    rw [hu] at da
    have dA : u < 4294967296 := da
    have eu : IntKind.wrap .u64 (u : Int) = (u : Int) := wrap64n (by omega)
    refine ⟨fun hltb => ?_, fun hgeb => ?_⟩
    · have hkb : k < (dg y).length := by omega
      have db := (dig_dg y).at hkb
      obtain ⟨v, hv'⟩ : ∃ v, (dg y)[k] = v := ⟨_, rfl⟩
      have hv2 : (dg y)[k]?.getD 0 = v := by rw [List.getElem?_eq_getElem hkb, hv']; rfl
      rw [hv'] at db
      have dB : v < 4294967296 := db
      have ev : IntKind.wrap .u64 (v : Int) = (v : Int) := wrap64n (by omega)
      have es : IntKind.wrap .u64 ((c : Int) + IntKind.wrap .u64 (v : Int)) = ((c + v : Nat) : Int) := by rw [ev, ← Int.natCast_add, wrap64n (by omega)]
      refine ⟨Digs.inB hb (by omega) (by omega), (v : Int), by rw [← hv']; exact Digs.at hb hkb, ia, (u : Int), ea, ?_⟩
      rw [es, eu]
      refine ⟨fun hbw => ⟨⟨by omega, by omega⟩, by omega, by unfold I64; omega, ?_, hmeas (by omega) _ rfl⟩, fun hbw => ⟨⟨by omega, by omega⟩, by omega, by unfold I64; omega, ?_, hmeas (by omega) _ rfl⟩⟩
      · have e : IntKind.wrap .u32 (IntKind.wrap .u64 (IntKind.wrap .u64 ((u : Int) + 4294967296) - ((c + v : Nat) : Int))) = ((u + 4294967296 - (c + v) : Nat) : Int) := by
          rw [wrap64 (z := (u : Int) + 4294967296) (by omega) (by omega), wrap64 (by omega) (by omega), show (u : Int) + 4294967296 - ((c + v : Nat) : Int) = ((u + 4294967296 - (c + v) : Nat) : Int) by omega, wrap32n, Nat.mod_eq_of_lt (by unfold B; omega)]
        rw [e, e0]
        exact ⟨hE6, nxt u v _ 1 hu' hv2 (by unfold B; omega) (by unfold B; omega) (Nat.le_refl _) (by omega)⟩
      · have e : IntKind.wrap .u32 (IntKind.wrap .u64 ((u : Int) - ((c + v : Nat) : Int))) = ((u - (c + v) : Nat) : Int) := by
          rw [wrap64 (by omega) (by omega), show (u : Int) - ((c + v : Nat) : Int) = ((u - (c + v) : Nat) : Int) by omega, wrap32n, Nat.mod_eq_of_lt (by unfold B; omega)]
        rw [e, e0]
        exact ⟨hE6, nxt u v _ 0 hu' hv2 (by omega) (by unfold B; omega) (Nat.zero_le _) (by omega)⟩
    · have hv2 : (dg y)[k]?.getD 0 = 0 := by rw [List.getElem?_eq_none (by omega)]; rfl
      refine ⟨ia, (u : Int), ea, ?_⟩
      rw [eu]
      refine ⟨fun hbw => ⟨⟨by omega, by omega⟩, by omega, by unfold I64; omega, ?_, hmeas (by omega) _ rfl⟩, fun hbw => ⟨⟨by omega, by omega⟩, by omega, by unfold I64; omega, ?_, hmeas (by omega) _ rfl⟩⟩
      · have e : IntKind.wrap .u32 (IntKind.wrap .u64 (IntKind.wrap .u64 ((u : Int) + 4294967296) - (c : Int))) = ((u + 4294967296 - c : Nat) : Int) := by
          rw [wrap64 (z := (u : Int) + 4294967296) (by omega) (by omega), wrap64 (by omega) (by omega), show (u : Int) + 4294967296 - (c : Int) = ((u + 4294967296 - c : Nat) : Int) by omega, wrap32n, Nat.mod_eq_of_lt (by unfold B; omega)]
        rw [e, e0]
        exact ⟨hE6, nxt u 0 _ 1 hu' hv2 (by unfold B; omega) (by unfold B; omega) (Nat.le_refl _) (by omega)⟩
      · have e : IntKind.wrap .u32 (IntKind.wrap .u64 ((u : Int) - (c : Int))) = ((u - c : Nat) : Int) := by
          rw [wrap64 (by omega) (by omega), show (u : Int) - (c : Int) = ((u - c : Nat) : Int) by omega, wrap32n, Nat.mod_eq_of_lt (by unfold B; omega)]
        rw [e, e0]
        exact ⟨hE6, nxt u 0 _ 0 hu' hv2 (by omega) (by unfold B; omega) (Nat.zero_le _) (by omega)⟩
  · have hkx : k = nl x := by omega
    subst hkx
    rw [show (dg x).take (nl x) = dg x from List.take_of_length_le (Nat.le_refl _), show (dg y).take (nl x) = dg y from List.take_of_length_le (by omega), val_dg, val_dg, ← hz, List.take_length] at hv
    have hzB := val_lt hdz
    have hc0 : c = 0 := by
      rcases (show c = 0 ∨ c = 1 by omega) with h | h
      · exact h
      · subst h; omega
    subst hc0
    have e : val zs = x - y := by rw [Nat.mul_zero] at hv; omega
    refine refTrim_call hO.row hdz (by omega) fun s' W17 hE17 h => ⟨s', rfl, fun W19 hE19 => ⟨s', rfl, ?_⟩⟩
    rw [e] at h
    exact h.ext hE19
theorem refSub_call {W0 W : PW} {M : Nat → Prop} {s t : Sl} {x y : Nat} {K : Value → PW → Prop} (h1 : IsNat 183 W s x) (h2 : IsNat 183 W t y) (hx : nl x ≤ 549755813888) (hle : y ≤ x) (kont : ∀ (s' : Sl) (W' : PW), Ext W W' → (IsNat 183 W' s' (x - y)) → K (Sl.v s') W') :
    callN Go.Proofs.Tryz.prog W0 M 154 [s.v, t.v] W K :=
  callN_of (fun W' hE => refSub_ok (M := fun _ => False) (h1.ext hE) (h2.ext hE) hx hle) (fun W' v W'' hE hE' hP => by
    obtain ⟨s', rfl, h⟩ := hP
    exact kont s' W'' (hE.trans hE') h)
end Go.Proofs.YtbingbjhgoanoaaGreat

/- cinctureref1: Shl, DivNat, Gcd, the texts of numbers. -/
set_option maxRecDepth 100000
set_option linter.unusedVariables false
set_option linter.unusedSimpArgs false
namespace Go.Proofs.YtbingbjhgoanoaaGreat
open Go Go.SX
theorem refShl_ok {W0 : PW} {M : Nat → Prop} {s : Sl} {x k : Nat} (h : IsNat 183 W0 s x) (hx : nl x ≤ 274877906944) (hk : k ≤ 68719476736) :
    PCallsM Go.Proofs.Tryz.prog 162 [s.v, .int .i64 (k : Int)] W0 M fun v W' => ∃ (s' : Sl), v = Sl.v s' ∧ IsNat 183 W' s' (x * 2 ^ k) := by
  apply callref1_Shl
  have hn := h.n
  have hl : (dg x).length = nl x := rfl
  unfold Rref1_Shl
  simp only [tdiv32 (show k ≤ 1099511627776 by omega), tmod32, wrap64n (show k % 32 < 18446744073709551616 by omega)]
  obtain ⟨N, hN⟩ : ∃ N, k / 32 = N := ⟨_, rfl⟩
  obtain ⟨sh, hsh⟩ : ∃ sh, k % 32 = sh := ⟨_, rfl⟩
  have hs32 : sh < 32 := by omega
  have hN2 : N ≤ 2147483648 := by omega
  have hkk : k = 32 * N + sh := by omega
  rw [hN, hsh]
  have hpw := pow_sh hs32
  refine ⟨by decide, by unfold I64; omega, by unfold I64; omega, ⟨trivial, by omega, by omega⟩, shlI x N sh W0, shlM x, ?_, ?_⟩
  · refine ⟨Ext.refl _, 0, List.replicate (nl x + N + 1) 0, rfl, ?_, by omega, by simp, fun d hd => ?_, by simp [val, val_replicate], fun j hj _ => by simp, fun hj => by simp; exact Nat.two_pow_pos sh⟩
    · rw [show Int.toNat ((s.n : Int) + (N : Int) + 1) = nl x + N + 1 by omega]; exact cel_replicate _
    · rw [(List.mem_replicate.1 hd).2]; decide
  rintro l3 i4 W5 ⟨hE5, i, zs, rfl, rfl, hi, hz, hdz, hv, h0, hp⟩
  have h5 := h.ext hE5
  refine ⟨fun hlt => ?_, fun hge s8 W9 hE9 hO hf => ?_⟩
  · have hia : i < (dg x).length := by omega
    have hxB := (dig_dg x).at hia
    obtain ⟨d, hd⟩ : ∃ d, (dg x)[i] = d := ⟨_, rfl⟩
    have hiz : N + i < zs.length := by omega
    have hiz1 : N + i + 1 < zs.length := by omega
    have hpi := hp hiz
    obtain ⟨p, hpp⟩ : ∃ p, zs[N + i] = p := ⟨_, rfl⟩
    have hmul : d * 2 ^ sh < 18446744073709551616 := by
      rw [hd] at hxB
      have := Nat.mul_le_mul (Nat.le_of_lt hxB) hpw
      unfold B at this
      omega
    have ed : IntKind.wrap .u64 ((d : Nat) : Int) = (d : Int) := wrap64n (by rw [hd] at hxB; unfold B at hxB; omega)
    have ei : (i : Int) + (N : Int) = ((N + i : Nat) : Int) := by omega
    have lo := shl_lo (v := d) hs32
    have hloB : (d * 2 ^ sh) % B < B := Nat.mod_lt _ B_pos
    have hjoin : p + (d * 2 ^ sh) % B < B := by
      have e1 : B = 2 ^ sh * 2 ^ (32 - sh) := by rw [← Nat.pow_add, show sh + (32 - sh) = 32 by omega]; rfl
      have e2 := Nat.mod_add_div ((d * 2 ^ sh) % B) (2 ^ sh)
      rw [lo, Nat.zero_add] at e2
      rw [hpp] at hpi
      generalize (d * 2 ^ sh) % B / 2 ^ sh = q at e2
      have : q < 2 ^ (32 - sh) := by
        apply Nat.lt_of_mul_lt_mul_left (a := 2 ^ sh)
        rw [e2, ← e1]; exact hloB
      have := Nat.mul_le_mul_left (2 ^ sh) (show q + 1 ≤ 2 ^ (32 - sh) from this)
      rw [Nat.mul_add, e2, ← e1] at this
      omega
    have hhi : d * 2 ^ sh / B < 2 ^ sh := by
      rw [Nat.div_lt_iff_lt_mul B_pos, Nat.mul_comm]
      rw [hd] at hxB
      exact Nat.mul_lt_mul_of_pos_left hxB (Nat.two_pow_pos sh)
    have hhiB : d * 2 ^ sh / B < B := by unfold B at *; omega
    have eor : bits .or .u32 (p : Int) (((d * 2 ^ sh % B : Nat)) : Int) = ((p + d * 2 ^ sh % B : Nat) : Int) := by
      rw [u32_or_nat _ _ (by unfold B at *; omega) (by unfold B at *; omega), Nat.or_comm, nat_join sh _ _ lo (by rw [← hpp]; exact hpi), Nat.add_comm]
    have hset : List.length (List.set (cel zs) (N + i) [Value.int .u32 ((p + d * 2 ^ sh % B : Nat) : Int)]) = zs.length := by simp [cel_length]
    refine ⟨Digs.inB h5 (by omega) (by omega), (d : Int), by rw [← hd]; exact Digs.at h5 hia, by decide, ⟨by omega, by show (sh : Int) ≤ 64; omega⟩, by decide, by unfold I64; omega, ⟨by omega, by rw [cel_length]; omega⟩, (p : Int), ?_⟩
    rw [ei, show Int.toNat ((N + i : Nat) : Int) = N + i from rfl, show Int.toNat ((sh : Nat) : Int) = sh from rfl, ed, ishl64 hmul, ishr32, and32 hmul, wrap32n, wrap32n, Nat.mod_mod, eor, Nat.mod_eq_of_lt hhiB, hset]
    have e3 : (zs.set (N + i) (p + d * 2 ^ sh % B))[N + i + 1]'(by simpa using hiz1) = 0 := by
      rw [List.getElem_set_ne (by omega)]; exact h0 _ hiz1 (by omega)
    have eor2 : bits .or .u32 ((0 : Nat) : Int) ((d * 2 ^ sh / B : Nat) : Int) = ((d * 2 ^ sh / B : Nat) : Int) := by
      rw [u32_or_nat _ _ (by decide) (by unfold B at *; omega), Nat.zero_or]
    have e4 : Int.toNat (((N + i : Nat) : Int) + 1) = N + i + 1 := by omega
    refine ⟨⟨_, cel_get hiz, by rw [hpp]; rfl⟩, ⟨by omega, by rw [cel_length]; omega⟩, by rw [cel_length]; omega, by decide, by unfold I64; omega, by unfold I64; omega, ⟨by omega, by omega⟩, ((0 : Nat) : Int), ?_, ⟨by omega, by omega⟩, by omega, by unfold I64; omega, ?_, ?_⟩
    · rw [cel_set, e4]
      exact ⟨_, cel_get (by simpa using hiz1), by rw [e3]; rfl⟩
    · rw [cel_set, e4, eor2, cel_set]
      refine ⟨hE5, i + 1, _, by push_cast; rfl, rfl, by omega, by simpa using hz, (hdz.set hjoin).set hhiB, ?_, fun j hj hlt => ?_, fun hj => ?_⟩
      · have e1 := val_set zs (k := N + i) (p + d * 2 ^ sh % B) hiz
        have e2 := val_set (zs.set (N + i) (p + d * 2 ^ sh % B)) (k := N + i + 1) (d * 2 ^ sh / B) (by simpa using hiz1)
        have e3 : (zs.set (N + i) (p + d * 2 ^ sh % B))[N + i + 1]'(by simpa using hiz1) = 0 := by
          rw [List.getElem_set_ne (by omega)]; exact h0 _ hiz1 (by omega)
        rw [e3] at e2
        rw [hpp] at e1
        rw [val_take_succ hia, hd]
        have e4 := Nat.mod_add_div (d * 2 ^ sh) B
        rw [Nat.mul_zero, Nat.add_zero, Nat.pow_succ] at e2
        rw [e2]
        have e5 : B ^ N * 2 ^ sh * (val ((dg x).take i) + B ^ i * d) = val zs + B ^ (N + i) * (d * 2 ^ sh) := by
          rw [hv, Nat.pow_add]
          generalize B ^ N = a
          generalize B ^ i = b
          generalize 2 ^ sh = c
          grind
        have e6 : B ^ (N + i) * (d * 2 ^ sh) = B ^ (N + i) * (d * 2 ^ sh % B) + B ^ (N + i) * B * (d * 2 ^ sh / B) := by
          conv => lhs; rw [← e4]
          rw [Nat.mul_add, Nat.mul_assoc]
        rw [e5, e6]
        generalize d * 2 ^ sh % B = z1 at *
        generalize d * 2 ^ sh / B = z2 at *
        generalize B ^ (N + i) = bb at *
        have : bb * (p + z1) = bb * p + bb * z1 := Nat.mul_add ..
        omega
      · rw [List.getElem_set_ne (by omega), List.getElem_set_ne (by omega)]
        exact h0 j (by simpa using hj) (by omega)
      · simp only [show N + (i + 1) = N + i + 1 by omega]
        rw [List.getElem_set_self]
        exact hhi
    · show nl x - Int.toNat ((i : Int) + 1) < nl x - Int.toNat (i : Int)
      omega
  · have : i = nl x := by omega
    subst this
    have e : val zs = x * 2 ^ k := by
      rw [hv, ← hl, List.take_length, val_dg, B_pow, ← Nat.pow_add, ← hkk, Nat.mul_comm]
    refine refTrim_call hO.row hdz (by omega) fun s' W12 hE12 h1 => ⟨s', rfl, fun W14 hE14 => ⟨s', rfl, ?_⟩⟩
    rw [e] at h1
    exact h1.ext hE14
theorem refShl_call {W0 W : PW} {M : Nat → Prop} {s : Sl} {x k : Nat} {K : Value → PW → Prop} (h : IsNat 183 W s x) (hx : nl x ≤ 274877906944) (hk : k ≤ 68719476736) (kont : ∀ (s' : Sl) (W' : PW), Ext W W' → (IsNat 183 W' s' (x * 2 ^ k)) → K (Sl.v s') W') :
    callN Go.Proofs.Tryz.prog W0 M 162 [s.v, .int .i64 (k : Int)] W K :=
  callN_of (fun W' hE => refShl_ok (M := fun _ => False) (h.ext hE) hx hk) (fun W' v W'' hE hE' hP => by
    obtain ⟨s', rfl, h⟩ := hP
    exact kont s' W'' (hE.trans hE') h)
theorem nl_two {k n : Nat} (h : k < 32 * n) : nl (2 ^ k) ≤ n := nl_le (by rw [B_pow]; exact Nat.pow_lt_pow_right (by decide) h)
theorem bits_ge {x : Nat} (h : x ≠ 0) : 2 ^ (blen x - 1) ≤ x ∧ x < 2 ^ blen x ∧ 1 ≤ blen x := by
  obtain ⟨n, e, h1, h2⟩ := blen_spec h
  rw [e]
  exact ⟨h1, h2, by omega⟩
theorem blen_nl (x : Nat) : blen x ≤ 32 * nl x := blen_le (by rw [← B_pow]; exact lt_nl x)
theorem refDiv_ok {W0 : PW} {M : Nat → Prop} {s t : Sl} {x y : Nat} (h1 : IsNat 183 W0 s x) (h2 : IsNat 183 W0 t y) (hx : nl x ≤ 1073741824) (hy : nl y ≤ 1073741824) (hy0 : y ≠ 0) :
    PCallsM Go.Proofs.Tryz.prog 138 [s.v, t.v] W0 M fun v W' => ∃ (q : Sl), ∃ (r : Sl), v = .tuple #[Sl.v q, Sl.v r] ∧ IsNat 183 W' q (x / y) ∧ IsNat 183 W' r (x % y) := by
  apply callref1_DivNat
  have bx := blen_nl x
  have by' := blen_nl y
  refine refBits_call h1 (by omega) fun W2 hE2 _ => ⟨_, rfl, refBits_call (h2.ext hE2) (by omega) fun W5 hE5 _ => ⟨_, rfl, by unfold I64; omega, ?_⟩⟩
  refine ⟨fun l W => match l with
    | [.val (.slice A n c), .val (.slice A' n' c'), .val (.int .i64 i)] => Ext W5 W ∧ ∃ q r, IsNat 183 W ⟨A, n, c⟩ r ∧ IsNat 183 W ⟨A', n', c'⟩ q ∧ x = y * q + r ∧ r < y * 2 ^ (i + 1).toNat ∧ i ≤ 68719476736
    | _ => False, fun l _ => match l with | [_, _, .val (.int .i64 i)] => (i + 1).toNat | _ => 0, ⟨Ext.refl _, 0, x, (h1.ext hE2).ext hE5, isNat_nil W5, by simp, ?_, by omega⟩, ?_⟩
  · have e2 := bits_ge hy0
    by_cases h0 : x = 0
    · subst h0
      exact Nat.mul_pos (by omega) (Nat.two_pow_pos _)
    · have e1 := bits_ge h0
      by_cases hb : blen y ≤ blen x
      · rw [show Int.toNat ((blen x : Int) - (blen y : Int) + 1) = blen x - blen y + 1 by omega]
        have p : 2 ^ blen x = 2 ^ (blen y - 1) * 2 ^ (blen x - blen y + 1) := by rw [← Nat.pow_add]; congr 1; omega
        have := Nat.mul_le_mul_right (2 ^ (blen x - blen y + 1)) e2.1
        omega
      · rw [show Int.toNat ((blen x : Int) - (blen y : Int) + 1) = 0 by omega]
        have p : 2 ^ blen x ≤ 2 ^ (blen y - 1) := Nat.pow_le_pow_right (by decide) (by omega)
        omega
  rintro s9 s10 i11 W12 ⟨hE12, q, r, hr, hq, hxy, hlt, hi⟩
  have hr : IsNat 183 W12 s9 r := hr
  have hq : IsNat 183 W12 s10 q := hq
  have hrx : r ≤ x := by omega
  have nr := nl_mono hrx
  have hqx : q ≤ x := by
    have : 1 * q ≤ y * q := Nat.mul_le_mul_right _ (by omega)
    omega
  have nq := nl_mono hqx
  refine ⟨fun h0 => ?_, fun h0 W31 hE31 => ⟨s10, s9, rfl, ?_⟩⟩
  · obtain ⟨k, rfl⟩ := Int.eq_ofNat_of_zero_le h0
    have e1 : Int.toNat ((k : Int) + 1) = k + 1 := by omega
    rw [e1, Nat.pow_succ] at hlt
    have hym : nl (y * 2 ^ k) ≤ 1099511627776 := by
      have h2k : nl (2 ^ k) ≤ 68719476737 := nl_two (by omega)
      have := nl_mul y (2 ^ k)
      omega
    refine refShl_call (((h2.ext hE2).ext hE5).ext hE12) (by omega) (by omega) fun s15 W14 hE14 h15 => ⟨s15, rfl, ?_⟩
    refine refCmp_call h15 (hr.ext hE14) hym fun W17 hE17 _ => ⟨_, rfl, fun hle => ?_, fun hgt => ⟨by unfold I64; omega, ⟨(hE12.trans hE14).trans hE17, q, r, (hr.ext hE14).ext hE17, (hq.ext hE14).ext hE17, hxy, ?_, by omega⟩, ?_⟩⟩
    · have hle' : y * 2 ^ k ≤ r := by
        apply Nat.le_of_not_lt
        intro h
        rw [cmpN_gt h] at hle
        omega
      have h2kx : 2 ^ k ≤ x := by
        have : 1 * 2 ^ k ≤ y * 2 ^ k := Nat.mul_le_mul_right _ (by omega)
        omega
      have n2k := nl_mono h2kx
      refine refSub_call ((hr.ext hE14).ext hE17) (h15.ext hE17) (by omega) hle' fun s21 W20 hE20 h21 => ⟨s21, rfl, ?_⟩
      refine refNatOf_call (x := 1) (by decide) fun s24 W23 hE23 h24 => ⟨s24, rfl, ?_⟩
      refine refShl_call h24 (by rw [nl_one]; omega) (by omega) fun s27 W26 hE26 h27 => ⟨s27, rfl, ?_⟩
      rw [Nat.one_mul] at h27
      refine refAdd_call (((((hq.ext hE14).ext hE17).ext hE20).ext hE23).ext hE26) h27 (by omega) (by omega) fun s30 W29 hE29 h30 => ⟨s30, rfl, by unfold I64; omega, ⟨((((((hE12.trans hE14).trans hE17).trans hE20).trans hE23).trans hE26).trans hE29), q + 2 ^ k, r - y * 2 ^ k, ((h21.ext hE23).ext hE26).ext hE29, h30, ?_, ?_, by omega⟩, ?_⟩
      · rw [Nat.mul_add]; omega
      · rw [show Int.toNat ((k : Int) - 1 + 1) = k by omega]
        have : y * (2 ^ k * 2) = y * 2 ^ k * 2 := by rw [Nat.mul_assoc]
        omega
      · show Int.toNat ((k : Int) - 1 + 1) < Int.toNat ((k : Int) + 1)
        omega
    · rw [show Int.toNat ((k : Int) - 1 + 1) = k by omega]
      apply Nat.lt_of_not_le
      intro h
      apply hgt
      rcases Nat.lt_or_eq_of_le h with h | h
      · rw [cmpN_lt h]; omega
      · rw [h, cmpN_eq]; omega
    · show Int.toNat ((k : Int) - 1 + 1) < Int.toNat ((k : Int) + 1)
      omega
  · rw [show Int.toNat (i11 + 1) = 0 by omega, Nat.pow_zero, Nat.mul_one] at hlt
    have e1 : x / y = q := by rw [hxy, Nat.mul_add_div (by omega), Nat.div_eq_of_lt hlt, Nat.add_zero]
    have e2 : x % y = r := by rw [hxy, Nat.mul_add_mod, Nat.mod_eq_of_lt hlt]
    rw [e1, e2]
    exact ⟨hq.ext hE31, hr.ext hE31⟩
theorem refDiv_call {W0 W : PW} {M : Nat → Prop} {s t : Sl} {x y : Nat} {K : Value → PW → Prop} (h1 : IsNat 183 W s x) (h2 : IsNat 183 W t y) (hx : nl x ≤ 1073741824) (hy : nl y ≤ 1073741824) (hy0 : y ≠ 0) (kont : ∀ (q : Sl) (r : Sl) (W' : PW), Ext W W' → (IsNat 183 W' q (x / y) ∧ IsNat 183 W' r (x % y)) → K (.tuple #[Sl.v q, Sl.v r]) W') :
    callN Go.Proofs.Tryz.prog W0 M 138 [s.v, t.v] W K :=
  callN_of (fun W' hE => refDiv_ok (M := fun _ => False) (h1.ext hE) (h2.ext hE) hx hy hy0) (fun W' v W'' hE hE' hP => by
    obtain ⟨q, r, rfl, h⟩ := hP
    exact kont q r W'' (hE.trans hE') h)
def rgI (x y : Nat) (W0 : PW) (l : List PL) (W : PW) : Prop :=
  match l with
  | [.val (.slice A n c), .val (.slice A' n' c')] => Ext W0 W ∧ ∃ a b, IsNat 183 W ⟨A, n, c⟩ a ∧ IsNat 183 W ⟨A', n', c'⟩ b ∧ Nat.gcd a b = Nat.gcd x y ∧ nl a ≤ 1073741824 ∧ nl b ≤ 1073741824
  | _ => False
noncomputable def rgM (l : List PL) (W : PW) : Nat :=
  match l with
  | [_, .val (.slice A' n' c')] => slN W 183 ⟨A', n', c'⟩
  | _ => 0
theorem refGcd_ok {W0 : PW} {M : Nat → Prop} {s t : Sl} {x y : Nat} (h1 : IsNat 183 W0 s x) (h2 : IsNat 183 W0 t y) (hx : nl x ≤ 1073741824) (hy : nl y ≤ 1073741824) :
    PCallsM Go.Proofs.Tryz.prog 101 [s.v, t.v] W0 M fun v W' => ∃ (s' : Sl), v = Sl.v s' ∧ IsNat 183 W' s' (Nat.gcd x y) := by
  apply callref1_Gcd
  refine ⟨rgI x y W0, rgM, ⟨Ext.refl _, x, y, h1, h2, rfl, hx, hy⟩, ?_⟩
  rintro s3 s4 W5 ⟨hE5, a, b, ha, hb, hg, na, nb⟩
  have ha : IsNat 183 W5 s3 a := ha
  have hb : IsNat 183 W5 s4 b := hb
  have n4 := hb.n
  refine ⟨fun hpos => ?_, fun hz W10 hE10 => ⟨s3, rfl, ?_⟩⟩
  · have hb0 : b ≠ 0 := fun e => by subst e; rw [nl_zero] at n4; omega
    refine refDiv_call ha hb na nb hb0 fun s8 s9 W7 hE7 ⟨h8, h9⟩ => ⟨s8, s9, rfl, ⟨hE5.trans hE7, b, a % b, hb.ext hE7, h9, ?_, nb, ?_⟩, ?_⟩
    · rw [gcd_step]; exact hg
    · exact Nat.le_trans (nl_mono (Nat.le_of_lt (Nat.mod_lt _ (by omega)))) nb
    · show slN W7 _ s9 < slN W5 _ s4
      rw [slN_eq h9, slN_eq hb]
      exact Nat.mod_lt _ (by omega)
  · have : b = 0 := nl_eq_zero.1 (by omega)
    subst this
    rw [Nat.gcd_zero_right] at hg
    rw [← hg]
    exact ha.ext hE10
theorem refGcd_call {W0 W : PW} {M : Nat → Prop} {s t : Sl} {x y : Nat} {K : Value → PW → Prop} (h1 : IsNat 183 W s x) (h2 : IsNat 183 W t y) (hx : nl x ≤ 1073741824) (hy : nl y ≤ 1073741824) (kont : ∀ (s' : Sl) (W' : PW), Ext W W' → (IsNat 183 W' s' (Nat.gcd x y)) → K (Sl.v s') W') :
    callN Go.Proofs.Tryz.prog W0 M 101 [s.v, t.v] W K :=
  callN_of (fun W' hE => refGcd_ok (M := fun _ => False) (h1.ext hE) (h2.ext hE) hx hy) (fun W' v W'' hE hE' hP => by
    obtain ⟨s', rfl, h⟩ := hP
    exact kont s' W'' (hE.trans hE') h)
end Go.Proofs.YtbingbjhgoanoaaGreat
