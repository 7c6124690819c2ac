/- Texts of numbers: what is read. -/
import Derived.Test.YtbingbjhgoanoaaGreatLib2
import Derived.Test.YtbingbjhgoanoaaGreatLib1
import Derived.Laws.Externs
import Derived.Test.YtbingbjhgoanoaaGreatSx3
set_option linter.unusedVariables false
set_option linter.unusedSimpArgs false
set_option linter.unusedVariables false
namespace Go.SX
/-- A byte of a text. -/
def sb (a : ByteArray) (i : Nat) : Nat := if h : i < a.size then (a[i]'h).toNat else 0
theorem sbyte_sb (a : ByteArray) (i : Nat) : sbyte a i = (sb a i : Int) := by
  unfold sbyte sb
  split <;> rfl
theorem sb_lt (a : ByteArray) (i : Nat) : sb a i < 256 := by
  unfold sb
  split
  · exact UInt8.toNat_lt _
  · decide
/-- The value of the first decimal digits. -/
def dv (a : ByteArray) : Nat → Nat
  | 0 => 0
  | i + 1 => dv a i * 10 + (sb a i - 48)
def goodN (a : ByteArray) : Prop := a.size ≠ 0 ∧ a.size ≤ 4000 ∧ ¬ (sb a 0 = 48 ∧ 1 < a.size) ∧ ∀ i, i < a.size → 48 ≤ sb a i ∧ sb a i ≤ 57
instance (a : ByteArray) : Decidable (goodN a) := inferInstanceAs (Decidable (_ ∧ _))
def parseN (a : ByteArray) : Option Nat := if goodN a then some (dv a a.size) else none
def parseI (a : ByteArray) : Option Int := if 0 < a.size ∧ sb a 0 = 45 then
    (match parseN (a.extract 1 a.size) with
    | some x => if x = 0 then none else some (-(x : Int))
    | none => none)
  else (parseN a).map fun x => (x : Int)
/-- Where a byte first stands. -/
def firstAt (a : ByteArray) (c : Nat) : Nat → Nat → Option Nat
  | 0, _ => none
  | n + 1, i => if sb a i = c then some i else firstAt a c n (i + 1)
def slashAt (a : ByteArray) : Option Nat := firstAt a 47 a.size 0
def parseQ (a : ByteArray) : Option Rat := match slashAt a with
  | none => (parseI a).map fun (z : Int) => (z : Rat)
  | some i => match parseI (a.extract 0 i), parseN (a.extract (i + 1) a.size) with
    | some n, some d => if d < 2 ∨ Nat.gcd d n.natAbs ≠ 1 then none else some (mkRat n d)
    | _, _ => none
theorem dv_lt {a : ByteArray} (h : ∀ i, i < a.size → 48 ≤ sb a i ∧ sb a i ≤ 57) : ∀ {k : Nat}, k ≤ a.size → dv a k < 10 ^ k
  | 0, _ => by simp [dv]
  | k + 1, hk => by
    have h1 := dv_lt h (k := k) (by omega)
    have h2 := h k (by omega)
    simp only [dv, Nat.pow_succ]
    omega
theorem parseN_lt {a : ByteArray} {x : Nat} (h : parseN a = some x) : x < 10 ^ a.size ∧ a.size ≤ 4000 := by
  unfold parseN at h
  split at h
  · rename_i hg
    cases h
    exact ⟨dv_lt hg.2.2.2 (Nat.le_refl _), hg.2.1⟩
  · cases h
theorem ten_pow (k : Nat) : 10 ^ k ≤ B ^ k := Nat.pow_le_pow_left (by decide) k
theorem nl_of_ten {x k n : Nat} (h : x < 10 ^ k) (hk : k ≤ n) : nl x ≤ n := nl_le (Nat.lt_of_lt_of_le h (Nat.le_trans (ten_pow k) (Nat.pow_le_pow_right B_pos hk)))
theorem parseN_nl {a : ByteArray} {x : Nat} (h : parseN a = some x) : nl x ≤ 4000 := by
  obtain ⟨h1, h2⟩ := parseN_lt h
  exact nl_of_ten h1 h2
theorem parseN_small {a : ByteArray} {x : Nat} (h : parseN a = some x) (hs : a.size ≤ 20) : nl x ≤ 3 := by
  obtain ⟨h1, _⟩ := parseN_lt h
  apply nl_le
  have h2 : 10 ^ a.size ≤ 10 ^ 20 := Nat.pow_le_pow_right (by decide) hs
  have h3 : 10 ^ 20 ≤ B ^ 3 := by decide
  omega
theorem parseI_nl {a : ByteArray} {z : Int} (h : parseI a = some z) : nl z.natAbs ≤ 4000 := by
  unfold parseI at h
  split at h
  · split at h
    · rename_i x hx
      split at h
      · cases h
      · cases h; rw [Int.natAbs_neg, Int.natAbs_natCast]; exact parseN_nl hx
    · cases h
  · cases hp : parseN a with
    | none => rw [hp] at h; cases h
    | some x =>
      rw [hp] at h
      cases h
      exact parseN_nl hp
theorem parseI_small {a : ByteArray} {z : Int} (h : parseI a = some z) (hs : a.size ≤ 20) : nl z.natAbs ≤ 3 := by
  unfold parseI at h
  split at h
  · split at h
    · rename_i x hx
      split at h
      · cases h
      · cases h; rw [Int.natAbs_neg, Int.natAbs_natCast]; exact parseN_small hx (by rw [ByteArray.size_extract]; omega)
    · cases h
  · cases hp : parseN a with
    | none => rw [hp] at h; cases h
    | some x =>
      rw [hp] at h
      cases h
      exact parseN_small hp hs
theorem parseQ_sz {a : ByteArray} {q : Rat} (h : parseQ a = some q) : Sz 4000 q ∧ (a.size ≤ 20 → Sz 3 q) := by
  unfold parseQ at h
  split at h
  · cases hp : parseI a with
    | none => rw [hp] at h; cases h
    | some z =>
      rw [hp] at h
      cases h
      exact ⟨⟨by rw [Rat.num_intCast]; exact parseI_nl hp, by rw [Rat.den_intCast, nl_one]; omega⟩, fun hs => ⟨by rw [Rat.num_intCast]; exact parseI_small hp hs, by rw [Rat.den_intCast, nl_one]; omega⟩⟩
  · split at h
    · rename_i n d hn hd
      split at h
      · cases h
      · rename_i i _ hc
        cases h
        have hd0 : d ≠ 0 := by omega
        exact ⟨Sz.mk (parseI_nl hn) (parseN_nl hd) hd0, fun hs => Sz.mk (parseI_small hn (by rw [ByteArray.size_extract]; omega)) (parseN_small hd (by rw [ByteArray.size_extract]; omega)) hd0⟩
    · cases h
end Go.SX

/- An own row that is written in its place; growing by a digit. -/
set_option linter.unusedVariables false
namespace Go.SX
theorem cel_take' (l : List Nat) (k : Nat) : (cv l).take k = cv (l.take k) := by simp [cv, List.map_take]
theorem Own.put {W W' : PW} {t : TypeId} {s : Sl} {us ws : List Nat} {g : Nat} {cs : Array Value} (h : Own W t 1 s (cel us)) (hm : Mut W t s g 0 cs us) (hp : PutAt W W' g cs t 0 (cv ws)) (hl : ws.length = us.length) : Own W' t 1 s (cel ws) := by
  obtain ⟨⟨h1, hlen, ho⟩, hS⟩ := h
  have hn := hm.n
  refine ⟨⟨cel_ok ws, ?_, ?_⟩, fun b hb => ?_⟩
  · rw [cel_flatten, cv_length, cel_length]; omega
  · rcases ho with ⟨hv, h0⟩ | ⟨g', cap, cur, hv, h0, hh, h1, h2, h3, h4⟩
    · have hA := hm.A
      simp only [Sl.v, Value.slice.injEq] at hv
      rw [hv.1] at hA
      cases hA
    · have hA : s.A = some ⟨g', 0, none⟩ ∧ s.n = (cel us).length ∧ s.c = cap := by simpa [Sl.v] using hv
      have hA2 := hm.A
      rw [hA.1] at hA2
      cases hA2
      have hh2 := hm.heap
      rw [hh] at hh2
      cases hh2
      refine .inr ⟨g, cap, _, ?_, h0, hp.heap, by rw [cel_length] at *; omega, h2, ?_, ?_⟩
      · rw [hv, cel_length, cel_length, hl]
      · simp only [List.size_toArray, setL_len]; simpa using h3
      · rw [cel_flatten, cel_length, Nat.mul_one]
        apply List.ext_getElem?
        intro k
        rw [List.getElem?_take]
        have hr := hm.room
        split
        · rename_i hk
          rw [setL_at, if_pos (by rw [cv_length]; simp; omega), Nat.sub_zero]
        · rename_i hk
          rw [List.getElem?_eq_none (by rw [cv_length]; omega)]
  · have hA : s.A = some ⟨g, 0, none⟩ := hm.A
    have : b = g := by simp [Sl.v, Value.ownBlock, hA] at hb; exact hb.symm
    rw [this]
    exact hp.S
theorem Own.n {W : PW} {t : TypeId} {sz : Nat} {s : Sl} {xs : List (List Value)} (h : Own W t sz s xs) : s.n = xs.length := h.row.1
/-- One digit of a product with a carry. -/
theorem grow_step {z u p c d b y : Nat} (h : z + p * c = u * b + y) : z + p * ((c + d * b) % B) + (p * B) * ((c + d * b) / B) = (u + p * d) * b + y := by
  have := Nat.mod_add_div (c + d * b) B
  have h2 : p * ((c + d * b) % B) + (p * B) * ((c + d * b) / B) = p * (c + d * b) := by rw [← this]; grind
  grind
theorem trim_snoc {l : List Nat} {d : Nat} (h : d ≠ 0) : Trim (l ++ [d]) := by
  unfold Trim
  rw [List.getLast?_append]
  simpa using h
/-- A number that is not less, of so many digits, keeps its top digit. -/
theorem trim_ge {l : List Nat} (hd : Dig l) (hl : l ≠ []) (h : B ^ (l.length - 1) ≤ val l) : Trim l := by
  have hp := List.length_pos_iff.2 hl
  have hk : l.length - 1 < l.length := by omega
  unfold Trim
  rw [List.getLast?_eq_getElem?, List.getElem?_eq_getElem hk]
  intro e
  have e0 : l[l.length - 1] = 0 := Option.some.inj e
  have h1 := val_take_succ hk
  rw [show l.length - 1 + 1 = l.length by omega, List.take_length, e0, Nat.mul_zero, Nat.add_zero] at h1
  have h2 := val_take_lt hd (l.length - 1)
  omega
theorem trim_le {l : List Nat} (hl : l ≠ []) (ht : Trim l) : B ^ (l.length - 1) ≤ val l := by
  have hp := List.length_pos_iff.2 hl
  have hk : l.length - 1 < l.length := by omega
  have h1 := val_take_succ hk
  rw [show l.length - 1 + 1 = l.length by omega, List.take_length] at h1
  unfold Trim at ht
  rw [List.getLast?_eq_getElem?, List.getElem?_eq_getElem hk] at ht
  have h0 : l[l.length - 1] ≠ 0 := fun e => ht (by rw [e])
  rw [h1]
  have : B ^ (l.length - 1) * 1 ≤ B ^ (l.length - 1) * l[l.length - 1] := Nat.mul_le_mul_left _ (by omega)
  omega
theorem own_nil {t : TypeId} {a : ByteArray} (W : PW) : Own W t 1 ⟨none, 0, 0⟩ (cel (dg (dv a 0))) := by
  rw [show dv a 0 = 0 from rfl, dg_zero]
  refine ⟨⟨cel_ok [], rfl, .inl ⟨rfl, rfl⟩⟩, fun g hg => ?_⟩
  simp [Sl.v, Value.ownBlock] at hg
theorem wrap8 {z : Int} (h : 0 ≤ z) (h2 : z < 256) : IntKind.wrap .u8 z = z := by
  unfold IntKind.wrap
  simp [IntKind.signed, IntKind.bits]
  omega
theorem dgt {a : ByteArray} {k : Nat} (h1 : 48 ≤ sb a k) (h2 : sb a k ≤ 57) : IntKind.wrap .u32 (IntKind.wrap .u8 (sbyte a k - 48)) = ((sb a k - 48 : Nat) : Int) := by
  rw [sbyte_sb, wrap8 (by omega) (by omega), show ((sb a k : Int) - 48) = ((sb a k - 48 : Nat) : Int) by omega, wrap32n, Nat.mod_eq_of_lt (by unfold B; omega)]
theorem dv_nl {a : ByteArray} {k : Nat} (h : ∀ i, i < k → 48 ≤ sb a i ∧ sb a i ≤ 57) (hk : k ≤ 4000) : nl (dv a k) ≤ k := by
  have h1 : ∀ j, j ≤ k → dv a j < 10 ^ j := by
    intro j
    induction j with
    | zero => intro _; simp [dv]
    | succ j ih =>
      intro hj
      have := ih (by omega)
      have h2 := h j (by omega)
      simp only [dv, Nat.pow_succ]
      omega
  exact nl_le (Nat.lt_of_lt_of_le (h1 k (Nat.le_refl _)) (ten_pow k))
theorem parseN_bad {a : ByteArray} (h : ¬ goodN a) : parseN a = none := if_neg h
theorem parseN_good {a : ByteArray} (h : goodN a) : parseN a = Option.some (dv a a.size) := if_pos h
theorem size_ne {a : ByteArray} : a ≠ ⟨⟨[]⟩⟩ ↔ a.size ≠ 0 := by
  constructor
  · intro h e
    apply h
    apply ByteArray.ext
    apply Array.eq_empty_of_size_eq_zero e
  · rintro h rfl
    exact h rfl
end Go.SX

/- Where a byte first stands, as the library's function finds it. -/
set_option linter.unusedVariables false
namespace Go.SX
theorem at_sb {a : ByteArray} {j c : Nat} (hj : j < a.size) (hc : c < 256) : (a[j]! == c.toUInt8) = decide (sb a j = c) := by
  have e : a[j]! = a[j]'hj := getElem!_pos a j hj
  rw [e]
  unfold sb
  rw [dif_pos hj]
  rw [Bool.eq_iff_iff]
  simp only [beq_iff_eq, decide_eq_true_eq]
  constructor
  · rintro h
    rw [h]
    simp [Nat.toUInt8, Nat.mod_eq_of_lt hc]
  · intro h
    apply UInt8.toNat_inj.1
    rw [h]
    simp [Nat.toUInt8, Nat.mod_eq_of_lt hc]
theorem find_firstAt {a : ByteArray} {c : Nat} (hc : c < 256) : ∀ (n i : Nat), i + n ≤ a.size → (List.range' i n).find? (fun j => a[j]! == c.toUInt8) = firstAt a c n i
  | 0, i, h => rfl
  | n + 1, i, h => by
    rw [List.range'_succ, List.find?_cons, at_sb (by omega) hc]
    unfold firstAt
    by_cases e : sb a i = c
    · rw [if_pos e, decide_eq_true e]
    · rw [if_neg e, decide_eq_false e]
      exact find_firstAt hc n (i + 1) (by omega)
def posI (o : Option Nat) : Int := match o with
  | some i => (i : Int)
  | none => -1
theorem firstIdx_firstAt {a : ByteArray} {c : Nat} (hc : c < 256) : firstIdx a c.toUInt8 = posI (firstAt a c a.size 0) := by
  unfold firstIdx posI
  rw [List.range_eq_range', find_firstAt hc _ _ (by omega)]
  cases firstAt a c a.size 0 <;> rfl
theorem firstAt_spec {a : ByteArray} {c : Nat} : ∀ (n i : Nat) {k : Nat}, firstAt a c n i = Option.some k → i ≤ k ∧ k < i + n ∧ sb a k = c
  | 0, i, k, h => by cases h
  | n + 1, i, k, h => by
    unfold firstAt at h
    split at h
    · cases h
      exact ⟨Nat.le_refl _, by omega, by assumption⟩
    · have := firstAt_spec n (i + 1) h
      omega
end Go.SX

/- Matrices that a function builds: each row in a block of its own. -/
set_option linter.unusedVariables false
namespace Go.SX
def NewFrom (n0 : Nat) (W : PW) : Prop := n0 ≤ W.w.heap.size
theorem NewFrom.ext {n0 : Nat} {W W' : PW} (h : NewFrom n0 W) (hE : Ext W W') : NewFrom n0 W' := Nat.le_trans h hE.size
theorem isNat_zero {t : TypeId} (W : PW) : IsNat t W ⟨none, 0, 0⟩ 0 := ⟨by simp [cel, dg_zero], by simp, by decide, by simp [cel, dg_zero], .inl (by simp [cel, dg_zero])⟩
theorem isRat_zero {t : TypeId} (W : PW) : IsRat t W ⟨none, 0, 0⟩ false ⟨none, 0, 0⟩ 0 := ⟨⟨isNat_zero W, by decide⟩, isNat_zero W⟩
/-- Cells of type t have been written in block g. -/
def Wr (t : TypeId) (g : Nat) (W W'' : PW) : Prop := ∃ W' cs fz, Ext W W' ∧ ExtM (· = g) W' W'' ∧ W'.w.heap[g]? = some (Obj.cells cs t fz)
theorem Wr.extM {t : TypeId} {g : Nat} {W W' : PW} (h : Wr t g W W') : ExtM (· = g) W W' := let ⟨_, _, _, h1, h2, _⟩ := h; (h1.toM _).trans h2
theorem Wr.row {t t' : TypeId} {g sz : Nat} {W W' : PW} {s : Sl} {xs : List (List Value)} (h : Wr t' g W W') (hr : Row W t sz s xs) (ht : t ≠ t') : Row W' t sz s xs := let ⟨_, _, _, h1, h2, h3⟩ := h; (hr.ext h1).put h2 h3 ht
theorem Wr.nat {t t' : TypeId} {g x : Nat} {W W' : PW} {s : Sl} (h : Wr t' g W W') (hr : IsNat t W s x) (ht : t ≠ t') : IsNat t W' s x := h.row hr ht
theorem Wr.rat {t t' : TypeId} {g : Nat} {W W' : PW} {s s' : Sl} {b : Bool} {q : Rat} (h : Wr t' g W W') (hr : IsRat t W s b s' q) (ht : t ≠ t') : IsRat t W' s b s' q := ⟨⟨h.nat hr.1.1 ht, hr.1.2⟩, h.nat hr.2 ht⟩
theorem Wr.qs {t t' : TypeId} {g n : Nat} {W W' : PW} {xs : List (List Value)} {f : Nat → Rat} (h : Wr t' g W W') (hq : Qs t W xs n f) (ht : t ≠ t') : Qs t W' xs n f :=
  ⟨hq.1, fun i hi => let ⟨s, b, s', h1, h2⟩ := hq.2 i hi; ⟨s, b, s', h1, h.rat h2 ht⟩⟩
theorem Wr.extN {t : TypeId} {g n0 : Nat} {W W' : PW} (h : Wr t g W W') (hg : n0 ≤ g) : ExtN n0 W W' := h.extM.mono fun b hb => by have : b = g := hb; omega
theorem Own.at {W : PW} {t : TypeId} {sz : Nat} {s : Sl} {xs : List (List Value)} (h : Own W t sz s xs) (hne : xs ≠ []) : ∃ g cs, s.A = some ⟨g, 0, none⟩ ∧ s.v.ownBlock = some g ∧ ¬ W.S g ∧ W.w.heap[g]? = some (.cells cs t (0, 0)) ∧ xs.length * sz ≤ cs.size := by
  obtain ⟨⟨hl, hlen, ho⟩, hS⟩ := h
  rcases ho with ⟨hn, h0⟩ | ⟨g, cap, cur, hv, _, hh, h1, h2, h3, h4⟩
  · exact absurd (List.eq_nil_of_length_eq_zero h0) hne
  · have hA : s.A = some ⟨g, 0, none⟩ ∧ s.n = xs.length ∧ s.c = cap := by simpa [Sl.v] using hv
    have hg : s.v.ownBlock = some g := by simp [Sl.v, Value.ownBlock, hA.1]
    exact ⟨g, cur, hA.1, hg, hS g hg, hh, by rw [h3]; exact Nat.mul_le_mul_right _ h1⟩
theorem Own.other {W W' : PW} {t : TypeId} {sz : Nat} {s : Sl} {xs : List (List Value)} {M : Nat → Prop} (h : Own W t sz s xs) (hE : ExtM M W W') (hM : ∀ g, s.v.ownBlock = some g → ¬ M g) : Own W' t sz s xs := by
  obtain ⟨⟨hl, hlen, ho⟩, hS⟩ := h
  rcases ho with ⟨hv, hn⟩ | ⟨g, cap, cur, hv, h0, hh, h1, h2, h3, h4⟩
  · refine ⟨⟨hl, hlen, .inl ⟨hv, hn⟩⟩, fun g hg => ?_⟩
    rw [hv] at hg
    simp [Value.ownBlock] at hg
  · have hg : s.v.ownBlock = some g := by rw [hv]; rfl
    have hk := hE.keep g (Array.getElem?_eq_some_iff.1 hh).1 (hS g hg) (hM g hg)
    refine ⟨⟨hl, hlen, .inr ⟨g, cap, cur, hv, h0, hk.1.trans hh, h1, h2, h3, h4⟩⟩, fun g' hg' => ?_⟩
    rw [hg] at hg'
    cases hg'
    exact hk.2
theorem setL_take : ∀ (l cs : List Value) (o n : Nat), o + l.length ≤ n → n ≤ cs.length → (setL cs o l).take n = setL (cs.take n) o l := by
  intro l cs o n h1 h2
  apply List.ext_getElem?
  intro k
  rw [List.getElem?_take, setL_at, setL_at]
  by_cases hk : k < n
  · rw [if_pos hk]
    by_cases hc : o ≤ k ∧ k < o + l.length ∧ k < cs.length
    · rw [if_pos hc, if_pos (by simp; omega)]
    · rw [if_neg hc, if_neg (by simp; omega), List.getElem?_take, if_pos hk]
  · rw [if_neg hk, if_neg (by omega), List.getElem?_take, if_neg hk]
/-- An element of an own row is written. -/
theorem storeN_own {W0 W : PW} {M : Nat → Prop} {t : TypeId} {sz j : Nat} {s : Sl} {xs : List (List Value)} {l : List Value} {K : PW → Prop} (h : Own W t sz s xs) (hj : j < xs.length) (hl : l.length = sz) (ho : ∀ u ∈ l, u.oneCell' = true) (hM : ∀ g, s.v.ownBlock = some g → may W0 M g)
    (kont : ∀ (W'' : PW) (g : Nat), s.v.ownBlock = some g → Wr t g W W'' → Own W'' t sz s (xs.set j l) → K W'') : storeN W0 M s (j * sz + 0) l W K := by
  intro W' hE
  have h' := h.ext hE
  have hne : xs ≠ [] := fun e => by subst e; simp at hj
  obtain ⟨g, cs, hA, hg, hS, hh, hsz⟩ := h'.at hne
  have hle : j * sz + sz ≤ xs.length * sz := by rw [← Nat.succ_mul]; exact Nat.mul_le_mul_right _ hj
  refine ⟨g, 0, cs, t, hA, hS, hh, by omega, hM g hg, fun W'' hp => kont W'' g hg ⟨W', cs, (0, 0), hE, hp.ext, hh⟩ ?_⟩
  obtain ⟨⟨h1, hlen, hown⟩, hSS⟩ := h'
  have hel : ∀ x ∈ xs.set j l, x.length = sz ∧ ∀ u ∈ x, u.oneCell' = true := by
    intro x hx
    rcases List.mem_or_eq_of_mem_set hx with hx | rfl
    · exact h1 x hx
    · exact ⟨hl, ho⟩
  refine ⟨⟨hel, ?_, ?_⟩, fun b hb => ?_⟩
  · rw [flatten_length (fun x hx => (hel x hx).1)]
  · rcases hown with ⟨hv, h0⟩ | ⟨g', cap, cur, hv, h0, hh', k1, k2, k3, k4⟩
    · exact absurd (List.eq_nil_of_length_eq_zero h0) hne
    · have hg' : s.v.ownBlock = some g' := by rw [hv]; rfl
      rw [hg] at hg'
      cases hg'
      rw [hh] at hh'
      cases hh'
      refine .inr ⟨g, cap, _, by rw [List.length_set]; exact hv, h0, hp.heap, by rw [List.length_set]; exact k1, k2, by simp only [List.size_toArray, setL_len]; simpa using k3, ?_⟩
      rw [List.length_set, Nat.zero_add, Nat.add_zero]
      show (setL cs.toList (j * sz) l).take (xs.length * sz) = _
      rw [setL_take _ _ _ _ (by rw [hl]; exact hle) (by simpa using hsz), k4, flatten_set (fun x hx => (h1 x hx).1) hj hl]
  · rw [hg] at hb
    cases hb
    exact hp.S
theorem ElemAt.ext {W W' : PW} {s : Sl} {sz i off : Nat} {l : List Value} (h : ElemAt W s sz i off l) (hE : Ext W W') : ElemAt W' s sz i off l :=
  let ⟨b, o, cs, t, fz, hA, hS, hh, hc⟩ := h
  have hk := hE.keep b (Array.getElem?_eq_some_iff.1 hh).1 hS
  ⟨b, o, cs, t, fz, hA, hk.2, hk.1.trans hh, hc⟩
/-- A matrix of r rows of c numbers, each row in a block of its own, one of N. -/
def OMat (tu tq ts : TypeId) (N : Nat → Prop) (W : PW) (s : Sl) (r c : Nat) (m : Nat → Nat → Rat) : Prop :=
  ∃ ss : List Sl, ss.length = r ∧ Row W ts 1 s (ss.map fun x => [x.v]) ∧ (∀ i (h : i < ss.length), ∃ xs, Own W tq 3 ss[i] xs ∧ Qs tu W xs c (m i) ∧ ∀ g, ss[i].v.ownBlock = some g → N g) ∧
    ∀ i j (hi : i < ss.length) (hj : j < ss.length), i ≠ j → ∀ g, ss[i].v.ownBlock = some g → ss[j].v.ownBlock ≠ some g
theorem OMat.ext {tu tq ts : TypeId} {N : Nat → Prop} {W W' : PW} {s : Sl} {r c : Nat} {m : Nat → Nat → Rat} (h : OMat tu tq ts N W s r c m) (hE : Ext W W') : OMat tu tq ts N W' s r c m :=
  let ⟨ss, h1, h2, h3, h4⟩ := h; ⟨ss, h1, h2.ext hE, fun i hi => let ⟨xs, k1, k2, k3⟩ := h3 i hi; ⟨xs, k1.ext hE, k2.ext hE, k3⟩, h4⟩
theorem OMat.mono {tu tq ts : TypeId} {N N' : Nat → Prop} {W : PW} {s : Sl} {r c : Nat} {m : Nat → Nat → Rat} (h : OMat tu tq ts N W s r c m) (hn : ∀ g, N g → N' g) : OMat tu tq ts N' W s r c m :=
  let ⟨ss, h1, h2, h3, h4⟩ := h; ⟨ss, h1, h2, fun i hi => let ⟨xs, k1, k2, k3⟩ := h3 i hi; ⟨xs, k1, k2, fun g hg => hn g (k3 g hg)⟩, h4⟩
theorem OMat.mat {tu tq ts : TypeId} {N : Nat → Prop} {W : PW} {s : Sl} {r c : Nat} {m : Nat → Nat → Rat} (h : OMat tu tq ts N W s r c m) : IsMat tu tq ts W s r (fun _ => c) m :=
  let ⟨ss, h1, h2, h3, h4⟩ := h; ⟨ss, h2, h1, fun i hi => let ⟨xs, k1, k2, k3⟩ := h3 i hi; ⟨xs, k1.row, k2⟩⟩
theorem OMat.congr {tu tq ts : TypeId} {N : Nat → Prop} {W : PW} {s : Sl} {r c : Nat} {m m' : Nat → Nat → Rat} (h : OMat tu tq ts N W s r c m) (he : ∀ i j, i < r → j < c → m i j = m' i j) : OMat tu tq ts N W s r c m' :=
  let ⟨ss, h1, h2, h3, h4⟩ := h; ⟨ss, h1, h2, fun i hi => let ⟨xs, k1, k2, k3⟩ := h3 i hi; ⟨xs, k1, k2.congr fun j hj => he i j (by omega) hj, k3⟩, h4⟩
def setM (m : Nat → Nat → Rat) (i j : Nat) (q : Rat) : Nat → Nat → Rat := fun a b => if a = i ∧ b = j then q else m a b
/-- What a write to a matrix leaves as it was: old blocks, cells of other types. -/
def Put (tq : TypeId) (N : Nat → Prop) (W W' : PW) : Prop := ∃ g, N g ∧ Wr tq g W W'
theorem Put.extN {tq : TypeId} {N : Nat → Prop} {n0 : Nat} {W W' : PW} (h : Put tq N W W') (hN : ∀ g, N g → n0 ≤ g) : ExtN n0 W W' := let ⟨g, h1, h2⟩ := h; h2.extN (hN g h1)
theorem Put.rat {t tq : TypeId} {N : Nat → Prop} {W W' : PW} {s s' : Sl} {b : Bool} {q : Rat} (h : Put tq N W W') (hr : IsRat t W s b s' q) (ht : t ≠ tq) : IsRat t W' s b s' q := let ⟨_, _, h2⟩ := h; h2.rat hr ht
theorem OMat.store {tu tq ts : TypeId} {N : Nat → Prop} {W0 W : PW} {M : Nat → Prop} {s x : Sl} {r c i j : Nat} {m : Nat → Nat → Rat} {s1 s2 : Sl} {b : Bool} {q : Rat} {K : PW → Prop} (h : OMat tu tq ts N W s r c m) (hx : ElemAt W s 1 i 0 [x.v]) (hi : i < r) (hj : j < c) (hq : IsRat tu W s1 b s2 q) (hu : tu ≠ tq) (hs : ts ≠ tq) (hM : ∀ g, N g → may W0 M g)
    (kont : ∀ W'', Put tq N W W'' → OMat tu tq ts N W'' s r c (setM m i j q) → K W'') : storeN W0 M x (j * 3 + 0) [s1.v, .bool b, s2.v] W K := by
  obtain ⟨ss, h1, h2, h3, h4⟩ := h
  have hi' : i < ss.length := by omega
  have hex : ElemAt W s 1 i 0 [ss[i].v] := Row.elem h2 (x := [ss[i].v]) (by simp [hi']) fun j v hj => by simpa using hj
  have hxe : x = ss[i] := by
    have := ElemAt.inj hx hex rfl
    simp only [List.cons.injEq, and_true, Value.slice.injEq] at this
    cases x
    cases hy : ss[i]
    simp_all
  subst hxe
  obtain ⟨xs, k1, k2, k3⟩ := h3 i hi'
  refine storeN_own k1 (by rw [k2.1]; exact hj) rfl ?_ (fun g hg => hM g (k3 g hg)) fun W'' g hg hw ho => kont W'' ⟨g, k3 g hg, hw⟩ ⟨ss, h1, hw.row h2 hs, fun a ha => ?_, h4⟩
  · intro u hu
    simp only [List.mem_cons, List.not_mem_nil, or_false] at hu
    rcases hu with rfl | rfl | rfl <;> rfl
  · by_cases e : a = i
    · subst e
      refine ⟨_, ho, ?_, k3⟩
      have := (hw.qs k2 hu).set hj (hw.rat hq hu)
      refine this.congr fun k hk => ?_
      unfold setM
      by_cases e : k = j <;> simp [e]
    · obtain ⟨ys, y1, y2, y3⟩ := h3 a ha
      refine ⟨ys, y1.other hw.extM fun g' hg' => ?_, (hw.qs y2 hu).congr fun k hk => ?_, y3⟩
      · rintro rfl
        exact h4 a i ha hi' e _ hg' hg
      · unfold setM
        simp [e]
theorem Put.own {tq t : TypeId} {sz : Nat} {N : Nat → Prop} {W W' : PW} {s : Sl} {xs : List (List Value)} (h : Put tq N W W') (ho : Own W t sz s xs) (hN : ∀ g, s.v.ownBlock = some g → ¬ N g) : Own W' t sz s xs :=
  let ⟨g, h1, h2⟩ := h; ho.other h2.extM fun b hb e => by have e : b = g := e; subst e; exact hN _ hb h1
theorem Put.qs {t tq : TypeId} {N : Nat → Prop} {W W' : PW} {xs : List (List Value)} {n : Nat} {f : Nat → Rat} (h : Put tq N W W') (hr : Qs t W xs n f) (ht : t ≠ tq) : Qs t W' xs n f := let ⟨_, _, h2⟩ := h; h2.qs hr ht
/-- What was private is none of a matrix' blocks. -/
theorem OMat.avoid {tu tq ts : TypeId} {N A : Nat → Prop} {W : PW} {s : Sl} {r c : Nat} {m : Nat → Nat → Rat} (h : OMat tu tq ts N W s r c m) (hA : ∀ g, A g → g < W.w.heap.size → W.S g) : OMat tu tq ts (fun g => N g ∧ ¬ A g) W s r c m := by
  obtain ⟨ss, h1, h2, h3, h4⟩ := h
  refine ⟨ss, h1, h2, fun i hi => ?_, h4⟩
  obtain ⟨xs, k1, k2, k3⟩ := h3 i hi
  refine ⟨xs, k1, k2, fun g hg => ⟨k3 g hg, fun ha => ?_⟩⟩
  rcases k1.1.2.2 with ⟨hv, _⟩ | ⟨g1, cap, cur, hv, _, hh, _⟩
  · rw [hv] at hg
    simp [Value.ownBlock] at hg
  · have hgg : ss[i].v.ownBlock = some g1 := by rw [hv]; rfl
    rw [hg] at hgg
    cases hgg
    exact k1.2 g hg (hA g ha (Array.getElem?_eq_some_iff.1 hh).1)
/-- Another block is written. -/
theorem OMat.other {tu tq ts : TypeId} {N : Nat → Prop} {W W' : PW} {s : Sl} {r c g : Nat} {m : Nat → Nat → Rat} (h : OMat tu tq ts N W s r c m) (hw : Wr tq g W W') (hg : ¬ N g) (hu : tu ≠ tq) (hs : ts ≠ tq) : OMat tu tq ts N W' s r c m := by
  obtain ⟨ss, h1, h2, h3, h4⟩ := h
  refine ⟨ss, h1, hw.row h2 hs, fun i hi => ?_, h4⟩
  obtain ⟨xs, k1, k2, k3⟩ := h3 i hi
  refine ⟨xs, k1.other hw.extM fun b hb e => ?_, hw.qs k2 hu, k3⟩
  have e : b = g := e
  subst e
  exact hg (k3 _ hb)
theorem ElemAt.new {W W' : PW} {s : Sl} {sz i off n0 : Nat} {l : List Value} (h : ElemAt W s sz i off l) (hE : ExtN n0 W W') (hn : W.w.heap.size ≤ n0) : ElemAt W' s sz i off l := by
  obtain ⟨b, o, cs, t, fz, hA, hS, hh, hc⟩ := h
  have hb := (Array.getElem?_eq_some_iff.1 hh).1
  have hk := hE.keep b hb hS (by show ¬ n0 ≤ b; omega)
  exact ⟨b, o, cs, t, fz, hA, hk.2, hk.1.trans hh, hc⟩
theorem IsMat.put {tu tq ts : TypeId} {W W' : PW} {s : Sl} {r : Nat} {c : Nat → Nat} {m : Nat → Nat → Rat} {n0 : Nat} (h : IsMat tu tq ts W s r c m) (hE : ExtN n0 W W') (hn : W.w.heap.size ≤ n0) : IsMat tu tq ts W' s r c m := h.new hE hn
end Go.SX

/- The document's quotients in memory: rows and matrices of them. -/
set_option linter.unusedVariables false
namespace Go.SX
/-- The document's quotient: a denominator of no words stands for 1. -/
def IsRefQ (t : TypeId) (W : PW) (b : Bool) (s s' : Sl) (q : Rat) : Prop := IsInt t W s b q.num ∧ (IsNat t W s' q.den ∨ q.den = 1 ∧ IsNat t W s' 0)
theorem IsRefQ.ext {t : TypeId} {W W' : PW} {b : Bool} {s s' : Sl} {q : Rat} (h : IsRefQ t W b s s' q) (hE : Ext W W') : IsRefQ t W' b s s' q := ⟨h.1.ext hE, h.2.imp (fun h => h.ext hE) fun h => ⟨h.1, h.2.ext hE⟩⟩
@[reducible] def IsRQ (t : TypeId) (W : PW) (s : Sl) (b : Bool) (s' : Sl) (q : Rat) : Prop := IsRefQ t W b s s' q
theorem isRQ_zero {t : TypeId} (W : PW) : IsRQ t W ⟨none, 0, 0⟩ false ⟨none, 0, 0⟩ 0 := ⟨⟨isNat_zero W, by decide⟩, .inr ⟨rfl, isNat_zero W⟩⟩
theorem IsRQ.ext {t : TypeId} {W W' : PW} {s s' : Sl} {b : Bool} {q : Rat} (h : IsRQ t W s b s' q) (hE : Ext W W') : IsRQ t W' s b s' q := IsRefQ.ext h hE
theorem IsRefQ.put {W W' : PW} {t t' : TypeId} {s s' : Sl} {b : Bool} {q : Rat} {g : Nat} {cs : Array Value} {fz : Nat × Nat} (h : IsRefQ t W b s s' q) (hE : ExtM (· = g) W W') (hg : W.w.heap[g]? = Option.some (Obj.cells cs t' fz)) (ht : t ≠ t') : IsRefQ t W' b s s' q :=
  ⟨⟨h.1.1.put hE hg ht, h.1.2⟩, h.2.imp (fun h => h.put hE hg ht) fun h => ⟨h.1, h.2.put hE hg ht⟩⟩
theorem IsRefQ.new {W W' : PW} {t : TypeId} {s s' : Sl} {b : Bool} {q : Rat} {n0 : Nat} (h : IsRefQ t W b s s' q) (hE : ExtN n0 W W') (hn : W.w.heap.size ≤ n0) : IsRefQ t W' b s s' q :=
  ⟨⟨h.1.1.new hE hn, h.1.2⟩, h.2.imp (fun h => h.new hE hn) fun h => ⟨h.1, h.2.new hE hn⟩⟩
theorem Wr.rq {t t' : TypeId} {g : Nat} {W W' : PW} {s s' : Sl} {b : Bool} {q : Rat} (h : Wr t' g W W') (hr : IsRefQ t W b s s' q) (ht : t ≠ t') : IsRefQ t W' b s s' q :=
  ⟨⟨h.nat hr.1.1 ht, hr.1.2⟩, hr.2.imp (fun k => h.nat k ht) fun k => ⟨k.1, h.nat k.2 ht⟩⟩
/-- The cells of n quotients. -/
def RQs (t : TypeId) (W : PW) (xs : List (List Value)) (n : Nat) (f : Nat → Rat) : Prop :=
  xs.length = n ∧ ∀ i, i < n → ∃ (s : Sl) (b : Bool) (s' : Sl), xs[i]? = some [.bool b, s.v, s'.v] ∧ IsRQ t W s b s' (f i)
theorem RQs.ext {t : TypeId} {W W' : PW} {xs : List (List Value)} {n : Nat} {f : Nat → Rat} (h : RQs t W xs n f) (hE : Ext W W') : RQs t W' xs n f :=
  ⟨h.1, fun i hi => let ⟨s, b, s', h1, h2⟩ := h.2 i hi; ⟨s, b, s', h1, h2.ext hE⟩⟩
theorem RQs.new {t : TypeId} {W W' : PW} {xs : List (List Value)} {n n0 : Nat} {f : Nat → Rat} (h : RQs t W xs n f) (hE : ExtN n0 W W') (hn : W.w.heap.size ≤ n0) : RQs t W' xs n f :=
  ⟨h.1, fun i hi => let ⟨s, b, s', h1, h2⟩ := h.2 i hi; ⟨s, b, s', h1, h2.new hE hn⟩⟩
theorem RQs.put {t t' : TypeId} {W W' : PW} {xs : List (List Value)} {n g : Nat} {f : Nat → Rat} {cs : Array Value} {fz : Nat × Nat} (h : RQs t W xs n f) (hE : ExtM (· = g) W W') (hg : W.w.heap[g]? = Option.some (Obj.cells cs t' fz)) (ht : t ≠ t') : RQs t W' xs n f :=
  ⟨h.1, fun i hi => let ⟨s, b, s', h1, h2⟩ := h.2 i hi; ⟨s, b, s', h1, h2.put hE hg ht⟩⟩
theorem RQs.set {t : TypeId} {W : PW} {xs : List (List Value)} {n : Nat} {f : Nat → Rat} (h : RQs t W xs n f) {i : Nat} (hi : i < n) {s s' : Sl} {b : Bool} {q : Rat} (hq : IsRQ t W s b s' q) : RQs t W (xs.set i [.bool b, s.v, s'.v]) n (fun k => if k = i then q else f k) := by
  refine ⟨by simpa using h.1, fun k hk => ?_⟩
  have hl := h.1
  by_cases e : k = i
  · subst e
    exact ⟨s, b, s', by simp [hl, hk], by simpa using hq⟩
  · obtain ⟨s1, b1, s1', h1, h2⟩ := h.2 k hk
    exact ⟨s1, b1, s1', by rw [List.getElem?_set_ne (fun h => e h.symm)]; exact h1, by simpa [e] using h2⟩
theorem RQs.congr {t : TypeId} {W : PW} {xs : List (List Value)} {n : Nat} {f g : Nat → Rat} (h : RQs t W xs n f) (hf : ∀ i, i < n → f i = g i) : RQs t W xs n g :=
  ⟨h.1, fun i hi => by rw [← hf i hi]; exact h.2 i hi⟩
/-- A row of quotients. tu: the limbs' type; tq: the quotients' one. -/
def IsRQs (tu tq : TypeId) (W : PW) (s : Sl) (n : Nat) (f : Nat → Rat) : Prop := ∃ xs, Row W tq 3 s xs ∧ RQs tu W xs n f
theorem IsRQs.ext {tu tq : TypeId} {W W' : PW} {s : Sl} {n : Nat} {f : Nat → Rat} (h : IsRQs tu tq W s n f) (hE : Ext W W') : IsRQs tu tq W' s n f := let ⟨xs, h1, h2⟩ := h; ⟨xs, h1.ext hE, h2.ext hE⟩
theorem IsRQs.new {tu tq : TypeId} {W W' : PW} {s : Sl} {n n0 : Nat} {f : Nat → Rat} (h : IsRQs tu tq W s n f) (hE : ExtN n0 W W') (hn : W.w.heap.size ≤ n0) : IsRQs tu tq W' s n f := let ⟨xs, h1, h2⟩ := h; ⟨xs, h1.new hE hn, h2.new hE hn⟩
theorem IsRQs.n {tu tq : TypeId} {W : PW} {s : Sl} {n : Nat} {f : Nat → Rat} (h : IsRQs tu tq W s n f) : s.n = n := let ⟨xs, h1, h2⟩ := h; h1.1.trans h2.1
theorem IsRQs.inB {tu tq : TypeId} {W : PW} {s : Sl} {n : Nat} {f : Nat → Rat} (h : IsRQs tu tq W s n f) {i : Int} (h0 : 0 ≤ i) (h1 : i < (n : Int)) : inB s i := by
  have hn := h.n
  obtain ⟨xs, hr, hq⟩ := h
  refine ⟨h0, by omega, Row.some hr fun e => ?_⟩
  subst e
  have := hq.1
  simp at this
  omega
theorem IsRQs.at {tu tq : TypeId} {W : PW} {s : Sl} {n : Nat} {f : Nat → Rat} (h : IsRQs tu tq W s n f) {i : Nat} (hi : i < n) : ∃ (s1 : Sl) (b : Bool) (s2 : Sl), ElemAt W s 3 i 0 [.bool b, s1.v, s2.v] ∧ IsRQ tu W s1 b s2 (f i) := by
  obtain ⟨xs, hr, hq⟩ := h
  obtain ⟨s1, b, s2, h1, h2⟩ := hq.2 i hi
  exact ⟨s1, b, s2, Row.elem hr h1 fun j v hj => by simpa using hj, h2⟩
/-- A matrix: r rows, the i-th of c i numbers. ts: the type of a row. -/
def IsRMat (tu tq ts : TypeId) (W : PW) (s : Sl) (r : Nat) (c : Nat → Nat) (m : Nat → Nat → Rat) : Prop :=
  ∃ ss : List Sl, Row W ts 1 s (ss.map fun x => [x.v]) ∧ ss.length = r ∧ ∀ i (h : i < ss.length), IsRQs tu tq W ss[i] (c i) (m i)
theorem IsRMat.ext {tu tq ts : TypeId} {W W' : PW} {s : Sl} {r : Nat} {c : Nat → Nat} {m : Nat → Nat → Rat} (h : IsRMat tu tq ts W s r c m) (hE : Ext W W') : IsRMat tu tq ts W' s r c m :=
  let ⟨ss, h1, h2, h3⟩ := h; ⟨ss, h1.ext hE, h2, fun i hi => (h3 i hi).ext hE⟩
theorem IsRMat.new {tu tq ts : TypeId} {W W' : PW} {s : Sl} {r n0 : Nat} {c : Nat → Nat} {m : Nat → Nat → Rat} (h : IsRMat tu tq ts W s r c m) (hE : ExtN n0 W W') (hn : W.w.heap.size ≤ n0) : IsRMat tu tq ts W' s r c m :=
  let ⟨ss, h1, h2, h3⟩ := h; ⟨ss, h1.new hE hn, h2, fun i hi => (h3 i hi).new hE hn⟩
theorem IsRMat.n {tu tq ts : TypeId} {W : PW} {s : Sl} {r : Nat} {c : Nat → Nat} {m : Nat → Nat → Rat} (h : IsRMat tu tq ts W s r c m) : s.n = r := let ⟨ss, h1, h2, _⟩ := h; h1.1.trans (by simpa using h2)
theorem IsRMat.inB {tu tq ts : TypeId} {W : PW} {s : Sl} {r : Nat} {c : Nat → Nat} {m : Nat → Nat → Rat} (h : IsRMat tu tq ts W s r c m) {i : Int} (h0 : 0 ≤ i) (h1 : i < (r : Int)) : inB s i := by
  have hn := h.n
  obtain ⟨ss, hr, hq, _⟩ := h
  refine ⟨h0, by omega, Row.some hr fun e => ?_⟩
  have : ss = [] := by simpa using e
  subst this
  simp at hq
  omega
theorem IsRMat.at {tu tq ts : TypeId} {W : PW} {s : Sl} {r : Nat} {c : Nat → Nat} {m : Nat → Nat → Rat} (h : IsRMat tu tq ts W s r c m) {i : Nat} (hi : i < r) : ∃ x : Sl, ElemAt W s 1 i 0 [x.v] ∧ IsRQs tu tq W x (c i) (m i) := by
  obtain ⟨ss, hr, hq, h3⟩ := h
  have hi' : i < ss.length := by omega
  exact ⟨ss[i], Row.elem hr (x := [ss[i].v]) (by simp [hi']) fun j v hj => by simpa using hj, h3 i hi'⟩
theorem Wr.rqs {t t' : TypeId} {g n : Nat} {W W' : PW} {xs : List (List Value)} {f : Nat → Rat} (h : Wr t' g W W') (hq : RQs t W xs n f) (ht : t ≠ t') : RQs t W' xs n f :=
  ⟨hq.1, fun i hi => let ⟨s, b, s', h1, h2⟩ := hq.2 i hi; ⟨s, b, s', h1, h.rq h2 ht⟩⟩
/-- A matrix of r rows of c numbers, each row in a block of its own, one of N. -/
def ORMat (tu tq ts : TypeId) (N : Nat → Prop) (W : PW) (s : Sl) (r c : Nat) (m : Nat → Nat → Rat) : Prop :=
  ∃ ss : List Sl, ss.length = r ∧ Row W ts 1 s (ss.map fun x => [x.v]) ∧ (∀ i (h : i < ss.length), ∃ xs, Own W tq 3 ss[i] xs ∧ RQs tu W xs c (m i) ∧ ∀ g, ss[i].v.ownBlock = some g → N g) ∧
    ∀ i j (hi : i < ss.length) (hj : j < ss.length), i ≠ j → ∀ g, ss[i].v.ownBlock = some g → ss[j].v.ownBlock ≠ some g
theorem ORMat.ext {tu tq ts : TypeId} {N : Nat → Prop} {W W' : PW} {s : Sl} {r c : Nat} {m : Nat → Nat → Rat} (h : ORMat tu tq ts N W s r c m) (hE : Ext W W') : ORMat tu tq ts N W' s r c m :=
  let ⟨ss, h1, h2, h3, h4⟩ := h; ⟨ss, h1, h2.ext hE, fun i hi => let ⟨xs, k1, k2, k3⟩ := h3 i hi; ⟨xs, k1.ext hE, k2.ext hE, k3⟩, h4⟩
theorem ORMat.mono {tu tq ts : TypeId} {N N' : Nat → Prop} {W : PW} {s : Sl} {r c : Nat} {m : Nat → Nat → Rat} (h : ORMat tu tq ts N W s r c m) (hn : ∀ g, N g → N' g) : ORMat tu tq ts N' W s r c m :=
  let ⟨ss, h1, h2, h3, h4⟩ := h; ⟨ss, h1, h2, fun i hi => let ⟨xs, k1, k2, k3⟩ := h3 i hi; ⟨xs, k1, k2, fun g hg => hn g (k3 g hg)⟩, h4⟩
theorem ORMat.mat {tu tq ts : TypeId} {N : Nat → Prop} {W : PW} {s : Sl} {r c : Nat} {m : Nat → Nat → Rat} (h : ORMat tu tq ts N W s r c m) : IsRMat tu tq ts W s r (fun _ => c) m :=
  let ⟨ss, h1, h2, h3, h4⟩ := h; ⟨ss, h2, h1, fun i hi => let ⟨xs, k1, k2, k3⟩ := h3 i hi; ⟨xs, k1.row, k2⟩⟩
theorem ORMat.congr {tu tq ts : TypeId} {N : Nat → Prop} {W : PW} {s : Sl} {r c : Nat} {m m' : Nat → Nat → Rat} (h : ORMat tu tq ts N W s r c m) (he : ∀ i j, i < r → j < c → m i j = m' i j) : ORMat tu tq ts N W s r c m' :=
  let ⟨ss, h1, h2, h3, h4⟩ := h; ⟨ss, h1, h2, fun i hi => let ⟨xs, k1, k2, k3⟩ := h3 i hi; ⟨xs, k1, k2.congr fun j hj => he i j (by omega) hj, k3⟩, h4⟩
theorem Put.rq {t tq : TypeId} {N : Nat → Prop} {W W' : PW} {s s' : Sl} {b : Bool} {q : Rat} (h : Put tq N W W') (hr : IsRQ t W s b s' q) (ht : t ≠ tq) : IsRQ t W' s b s' q := let ⟨_, _, h2⟩ := h; h2.rq hr ht
theorem ORMat.store {tu tq ts : TypeId} {N : Nat → Prop} {W0 W : PW} {M : Nat → Prop} {s x : Sl} {r c i j : Nat} {m : Nat → Nat → Rat} {s1 s2 : Sl} {b : Bool} {q : Rat} {K : PW → Prop} (h : ORMat tu tq ts N W s r c m) (hx : ElemAt W s 1 i 0 [x.v]) (hi : i < r) (hj : j < c) (hq : IsRQ tu W s1 b s2 q) (hu : tu ≠ tq) (hs : ts ≠ tq) (hM : ∀ g, N g → may W0 M g)
    (kont : ∀ W'', Put tq N W W'' → ORMat tu tq ts N W'' s r c (setM m i j q) → K W'') : storeN W0 M x (j * 3 + 0) [.bool b, s1.v, s2.v] W K := by
  obtain ⟨ss, h1, h2, h3, h4⟩ := h
  have hi' : i < ss.length := by omega
  have hex : ElemAt W s 1 i 0 [ss[i].v] := Row.elem h2 (x := [ss[i].v]) (by simp [hi']) fun j v hj => by simpa using hj
  have hxe : x = ss[i] := by
    have := ElemAt.inj hx hex rfl
    simp only [List.cons.injEq, and_true, Value.slice.injEq] at this
    cases x
    cases hy : ss[i]
    simp_all
  subst hxe
  obtain ⟨xs, k1, k2, k3⟩ := h3 i hi'
  refine storeN_own k1 (by rw [k2.1]; exact hj) rfl ?_ (fun g hg => hM g (k3 g hg)) fun W'' g hg hw ho => kont W'' ⟨g, k3 g hg, hw⟩ ⟨ss, h1, hw.row h2 hs, fun a ha => ?_, h4⟩
  · intro u hu
    simp only [List.mem_cons, List.not_mem_nil, or_false] at hu
    rcases hu with rfl | rfl | rfl <;> rfl
  · by_cases e : a = i
    · subst e
      refine ⟨_, ho, ?_, k3⟩
      have := (hw.rqs k2 hu).set hj (hw.rq hq hu)
      refine this.congr fun k hk => ?_
      unfold setM
      by_cases e : k = j <;> simp [e]
    · obtain ⟨ys, y1, y2, y3⟩ := h3 a ha
      refine ⟨ys, y1.other hw.extM fun g' hg' => ?_, (hw.rqs y2 hu).congr fun k hk => ?_, y3⟩
      · rintro rfl
        exact h4 a i ha hi' e _ hg' hg
      · unfold setM
        simp [e]
theorem Put.rqs {t tq : TypeId} {N : Nat → Prop} {W W' : PW} {xs : List (List Value)} {n : Nat} {f : Nat → Rat} (h : Put tq N W W') (hr : RQs t W xs n f) (ht : t ≠ tq) : RQs t W' xs n f := let ⟨_, _, h2⟩ := h; h2.rqs hr ht
/-- What was private is none of a matrix' blocks. -/
theorem ORMat.avoid {tu tq ts : TypeId} {N A : Nat → Prop} {W : PW} {s : Sl} {r c : Nat} {m : Nat → Nat → Rat} (h : ORMat tu tq ts N W s r c m) (hA : ∀ g, A g → g < W.w.heap.size → W.S g) : ORMat tu tq ts (fun g => N g ∧ ¬ A g) W s r c m := by
  obtain ⟨ss, h1, h2, h3, h4⟩ := h
  refine ⟨ss, h1, h2, fun i hi => ?_, h4⟩
  obtain ⟨xs, k1, k2, k3⟩ := h3 i hi
  refine ⟨xs, k1, k2, fun g hg => ⟨k3 g hg, fun ha => ?_⟩⟩
  rcases k1.1.2.2 with ⟨hv, _⟩ | ⟨g1, cap, cur, hv, _, hh, _⟩
  · rw [hv] at hg
    simp [Value.ownBlock] at hg
  · have hgg : ss[i].v.ownBlock = some g1 := by rw [hv]; rfl
    rw [hg] at hgg
    cases hgg
    exact k1.2 g hg (hA g ha (Array.getElem?_eq_some_iff.1 hh).1)
/-- Another block is written. -/
theorem ORMat.other {tu tq ts : TypeId} {N : Nat → Prop} {W W' : PW} {s : Sl} {r c g : Nat} {m : Nat → Nat → Rat} (h : ORMat tu tq ts N W s r c m) (hw : Wr tq g W W') (hg : ¬ N g) (hu : tu ≠ tq) (hs : ts ≠ tq) : ORMat tu tq ts N W' s r c m := by
  obtain ⟨ss, h1, h2, h3, h4⟩ := h
  refine ⟨ss, h1, hw.row h2 hs, fun i hi => ?_, h4⟩
  obtain ⟨xs, k1, k2, k3⟩ := h3 i hi
  refine ⟨xs, k1.other hw.extM fun b hb e => ?_, hw.rqs k2 hu, k3⟩
  have e : b = g := e
  subst e
  exact hg (k3 _ hb)
theorem IsRMat.put {tu tq ts : TypeId} {W W' : PW} {s : Sl} {r : Nat} {c : Nat → Nat} {m : Nat → Nat → Rat} {n0 : Nat} (h : IsRMat tu tq ts W s r c m) (hE : ExtN n0 W W') (hn : W.w.heap.size ≤ n0) : IsRMat tu tq ts W' s r c m := h.new hE hn
/-- Rows that a function has made one after the other. -/
def ORows (tu tq : TypeId) (N : Nat → Prop) (W : PW) (ss : List Sl) (c : Nat) (m : Nat → Nat → Rat) : Prop :=
  (∀ i (h : i < ss.length), ∃ xs, Own W tq 3 ss[i] xs ∧ RQs tu W xs c (m i) ∧ ∀ g, ss[i].v.ownBlock = some g → N g) ∧
    ∀ i j (hi : i < ss.length) (hj : j < ss.length), i ≠ j → ∀ g, ss[i].v.ownBlock = some g → ss[j].v.ownBlock ≠ some g
theorem ORows.ext {tu tq : TypeId} {N : Nat → Prop} {W W' : PW} {ss : List Sl} {c : Nat} {m : Nat → Nat → Rat} (h : ORows tu tq N W ss c m) (hE : Ext W W') : ORows tu tq N W' ss c m :=
  ⟨fun i hi => let ⟨xs, k1, k2, k3⟩ := h.1 i hi; ⟨xs, k1.ext hE, k2.ext hE, k3⟩, h.2⟩
theorem Own.block {W : PW} {t : TypeId} {sz : Nat} {s : Sl} {xs : List (List Value)} (h : Own W t sz s xs) {g : Nat} (hg : s.v.ownBlock = some g) : g < W.w.heap.size ∧ ¬ W.S g := by
  rcases h.1.2.2 with ⟨hv, _⟩ | ⟨g1, cap, cur, hv, _, hh, _⟩
  · rw [hv] at hg
    simp [Value.ownBlock] at hg
  · have hgg : s.v.ownBlock = some g1 := by rw [hv]; rfl
    rw [hg] at hgg
    cases hgg
    exact ⟨(Array.getElem?_eq_some_iff.1 hh).1, h.2 g hg⟩
theorem ORows.snoc {tu tq : TypeId} {N : Nat → Prop} {W W' : PW} {ss : List Sl} {c : Nat} {m : Nat → Nat → Rat} {s : Sl} {xs : List (List Value)} (h : ORows tu tq N W ss c m) (hE : Ext W W') (hO : Own W' tq 3 s xs)
    (hf : ∀ g, s.v.ownBlock = some g → N g ∧ (g < W.w.heap.size → W.S g)) (hq : RQs tu W' xs c (m ss.length)) : ORows tu tq N W' (ss ++ [s]) c m := by
  have key : ∀ i (hi : i < ss.length) g, s.v.ownBlock = some g → ss[i].v.ownBlock ≠ some g := by
    intro i hi g hg hg'
    obtain ⟨ys, k1, _⟩ := h.1 i hi
    exact (k1.block hg').2 ((hf g hg).2 (k1.block hg').1)
  refine ⟨fun i hi => ?_, fun i j hi hj hne g hg hg' => ?_⟩
  · by_cases e : i < ss.length
    · obtain ⟨ys, k1, k2, k3⟩ := h.1 i e
      rw [List.getElem_append_left e]
      exact ⟨ys, k1.ext hE, k2.ext hE, k3⟩
    · have : i = ss.length := by simp at hi; omega
      subst this
      rw [List.getElem_concat_length rfl]
      exact ⟨xs, hO, hq, fun g hg => (hf g hg).1⟩
  · simp only [List.length_append, List.length_cons, List.length_nil] at hi hj
    by_cases ei : i < ss.length
    · rw [List.getElem_append_left ei] at hg
      by_cases ej : j < ss.length
      · rw [List.getElem_append_left ej] at hg'
        exact h.2 i j ei ej hne g hg hg'
      · have : j = ss.length := by omega
        subst this
        rw [List.getElem_concat_length rfl] at hg'
        exact key i ei g hg' hg
    · have : i = ss.length := by omega
      subst this
      rw [List.getElem_concat_length rfl] at hg
      rw [List.getElem_append_left (by omega)] at hg'
      exact key j (by omega) g hg hg'
theorem ORows.nil {tu tq : TypeId} {N : Nat → Prop} {W : PW} {c : Nat} {m : Nat → Nat → Rat} : ORows tu tq N W [] c m := ⟨fun i h => by simp at h, fun i j h => by simp at h⟩
theorem ORows.mat {tu tq ts : TypeId} {N : Nat → Prop} {W : PW} {ss : List Sl} {r c : Nat} {m : Nat → Nat → Rat} {s : Sl} (h : ORows tu tq N W ss c m) (hl : ss.length = r) (hr : Row W ts 1 s (ss.map fun x => [x.v])) : ORMat tu tq ts N W s r c m := ⟨ss, hl, hr, h.1, h.2⟩
theorem rqs_zero {t : TypeId} (W : PW) (c : Nat) : RQs t W (List.replicate c [.bool false, .slice none 0 0, .slice none 0 0]) c (fun _ => 0) :=
  ⟨by simp, fun i hi => ⟨⟨none, 0, 0⟩, false, ⟨none, 0, 0⟩, by simp [hi], isRQ_zero W⟩⟩
theorem RQs.snoc {t : TypeId} {W : PW} {xs : List (List Value)} {n : Nat} {f : Nat → Rat} (h : RQs t W xs n f) {s s' : Sl} {b : Bool} {q : Rat} (hq : IsRefQ t W b s s' q) : RQs t W (xs ++ [[.bool b, s.v, s'.v]]) (n + 1) (fun k => if k = n then q else f k) := by
  refine ⟨by simp [h.1], fun i hi => ?_⟩
  have hl := h.1
  by_cases e : i = n
  · subst e
    exact ⟨s, b, s', by simp [hl], by simpa using hq⟩
  · obtain ⟨s1, b1, s2, h1, h2⟩ := h.2 i (by omega)
    exact ⟨s1, b1, s2, by rw [List.getElem?_append_left (by omega)]; exact h1, by simpa [e] using h2⟩
theorem RQs.own {t : TypeId} {W : PW} {xs : List (List Value)} {n : Nat} {f : Nat → Rat} (h : RQs t W xs n f) {k : Nat} (hk : k < n) : ∃ (b : Bool) (s s' : Sl), OwnAt xs k 0 [.bool b, s.v] ∧ OwnAt xs k 0 [.bool b, s.v, s'.v] ∧ IsRefQ t W b s s' (f k) := by
  obtain ⟨s, b, s', h1, h2⟩ := h.2 k hk
  exact ⟨b, s, s', ⟨_, h1, rfl⟩, ⟨_, h1, rfl⟩, h2⟩
theorem ElemAt.pre2 {W : PW} {s : Sl} {sz i off : Nat} {a b c : Value} (h : ElemAt W s sz i off [a, b, c]) : ElemAt W s sz i off [a, b] :=
  let ⟨g, o, cs, t, fz, hA, hS, hh, hc⟩ := h
  ⟨g, o, cs, t, fz, hA, hS, hh, fun j v hj => hc j v (by
    match j, hj with
    | 0, hj => simpa using hj
    | 1, hj => simpa using hj
    | j + 2, hj => simp at hj)⟩
end Go.SX

/- Taking a matrix apart, step by step: plain law. -/
set_option linter.unusedVariables false
namespace Go.SX
def oneM : Nat → Nat → Rat := fun i j => if i = j then 1 else 0
theorem leftF_congr {m L L' : Nat → Nat → Rat} {D D' : Nat → Rat} {i k : Nat} (h : ∀ j, j < k → L i j = L' i j ∧ L k j = L' k j ∧ D j = D' j) : leftF m L D i k = leftF m L' D' i k := by
  unfold leftF
  rw [lsum_congr fun j hj => by
    obtain ⟨h1, h2, h3⟩ := h j hj
    rw [h1, h2, h3]]
/-- k columns are done; the others are those of one. -/
def Outer (m L : Nat → Nat → Rat) (D : Nat → Rat) (n k : Nat) : Prop := Parts m L D n k ∧ ∀ a b, a < n → b < n → k ≤ b → L a b = oneM a b
/-- Column k as far as row i. -/
structure Inner (m L : Nat → Nat → Rat) (D : Nat → Rat) (n k i : Nat) : Prop where
  parts : Parts m L D n k
  dk : D k = leftF m L D k k
  col : ∀ a, k < a → a < i → L a k = leftF m L D a k / D k ∧ (D k = 0 → leftF m L D a k = 0)
  rest : ∀ a b, a < n → b < n → k < b ∨ (b = k ∧ (a ≤ k ∨ i ≤ a)) → L a b = oneM a b
theorem outer_zero (m : Nat → Nat → Rat) (D : Nat → Rat) (n : Nat) : Outer m oneM D n 0 :=
  ⟨⟨fun k h => by omega, fun i k h => by omega, fun i hi => if_pos rfl, fun i k h1 h2 => if_neg (by omega)⟩, fun a b _ _ _ => rfl⟩
theorem Parts.congrD {m L : Nat → Nat → Rat} {D D' : Nat → Rat} {n c : Nat} (h : Parts m L D n c) (he : ∀ j, j < c → D j = D' j) : Parts m L D' n c := by
  have hl : ∀ i k, k < c → leftF m L D' i k = leftF m L D i k := fun i k hk => leftF_congr fun j hj => ⟨rfl, rfl, (he j (by omega)).symm⟩
  refine ⟨fun k hk => ?_, fun i k hk h1 h2 => ?_, h.one, h.up⟩
  · rw [hl k k hk, ← he k hk]; exact h.diag k hk
  · rw [hl i k hk, ← he k hk]; exact h.low i k hk h1 h2
theorem inner_start {m L : Nat → Nat → Rat} {D : Nat → Rat} {n k : Nat} (h : Outer m L D n k) (hk : k < n) : Inner m L (fun t => if t = k then leftF m L D k k else D t) n k (k + 1) := by
  have hD : ∀ j, j < k → D j = (fun t => if t = k then leftF m L D k k else D t) j := fun j hj => (if_neg (by omega)).symm
  refine ⟨h.1.congrD hD, ?_, fun a h1 h2 => by omega, fun a b ha hb hc => h.2 a b ha hb (by omega)⟩
  show (if k = k then _ else _) = _
  rw [if_pos rfl]
  exact leftF_congr fun j hj => ⟨rfl, rfl, hD j hj⟩
theorem inner_step {m L : Nat → Nat → Rat} {D : Nat → Rat} {n k i : Nat} (h : Inner m L D n k i) (hki : k < i) (hi : i < n) (h0 : D k = 0 → leftF m L D i k = 0) : Inner m (setM L i k (leftF m L D i k / D k)) D n k (i + 1) := by
  have hL : ∀ a j, j < k → setM L i k (leftF m L D i k / D k) a j = L a j := fun a j hj => if_neg (by omega)
  have hl : ∀ a c, c ≤ k → leftF m (setM L i k (leftF m L D i k / D k)) D a c = leftF m L D a c := fun a c hc => leftF_congr fun j hj => ⟨hL a j (by omega), hL c j (by omega), rfl⟩
  refine ⟨⟨fun c hc => ?_, fun a c hc h1 h2 => ?_, fun a ha => ?_, fun a c h1 h2 => ?_⟩, ?_, fun a h1 h2 => ?_, fun a b ha hb hc => ?_⟩
  · rw [hl c c (by omega)]; exact h.parts.diag c hc
  · rw [hl a c (by omega), hL a c hc]; exact h.parts.low a c hc h1 h2
  · show (if a = i ∧ a = k then _ else _) = _
    rw [if_neg (by omega)]; exact h.parts.one a ha
  · show (if a = i ∧ c = k then _ else _) = _
    rw [if_neg (by omega)]; exact h.parts.up a c h1 h2
  · rw [hl k k (Nat.le_refl _)]; exact h.dk
  · rw [hl a k (Nat.le_refl _)]
    by_cases e : a = i
    · subst e
      refine ⟨?_, h0⟩
      show (if a = a ∧ k = k then _ else _) = _
      rw [if_pos ⟨rfl, rfl⟩]
    · have := h.col a h1 (by omega)
      refine ⟨?_, this.2⟩
      show (if a = i ∧ k = k then _ else _) = _
      rw [if_neg (by omega)]
      exact this.1
  · show (if a = i ∧ b = k then _ else _) = _
    rw [if_neg (by omega)]
    exact h.rest a b ha hb (by omega)
theorem inner_end {m L : Nat → Nat → Rat} {D : Nat → Rat} {n k : Nat} (h : Inner m L D n k n) (hk : k < n) : Outer m L D n (k + 1) := by
  refine ⟨⟨fun c hc => ?_, fun a c hc h1 h2 => ?_, h.parts.one, h.parts.up⟩, fun a b ha hb hc => h.rest a b ha hb (by omega)⟩
  · by_cases e : c = k
    · subst e; exact h.dk
    · exact h.parts.diag c (by omega)
  · by_cases e : c = k
    · subst e; exact h.col a h1 h2
    · exact h.parts.low a c (by omega) h1 h2
/-- How many digits the numbers of the columns ahead have at most; those of the diagonal's next one. -/
def Ub : Nat → Nat
  | 0 => 1
  | k + 1 => (3 + k * (Ub k + Ub k + Ub k + 1)) + (3 + k * (Ub k + Ub k + Ub k + 1))
def Sk (k : Nat) : Nat := 3 + k * (Ub k + Ub k + Ub k + 1)
theorem Ub_succ (k : Nat) : Ub (k + 1) = Sk k + Sk k := rfl
theorem Ub_mono (k : Nat) : Ub k ≤ Ub (k + 1) := by
  rw [Ub_succ]
  unfold Sk
  cases k with
  | zero => decide
  | succ k =>
    have : 1 * (Ub (k + 1) + Ub (k + 1) + Ub (k + 1) + 1) ≤ (k + 1) * (Ub (k + 1) + Ub (k + 1) + Ub (k + 1) + 1) := Nat.mul_le_mul_right _ (by omega)
    omega
theorem Ub_le : ∀ k, k ≤ 5 → Ub k ≤ 1000000 ∧ Sk k ≤ 100000000 := by decide
def SzO (L : Nat → Nat → Rat) (D : Nat → Rat) (n k : Nat) : Prop := (∀ a j, a < n → j < k → Sz (Ub k) (L a j)) ∧ ∀ j, j < k → Sz (Ub k) (D j)
def SzI (L : Nat → Nat → Rat) (D : Nat → Rat) (n k i : Nat) : Prop := SzO L D n k ∧ Sz (Sk k) (D k) ∧ ∀ a, k < a → a < i → Sz (Ub (k + 1)) (L a k)
theorem one_sz (a b : Nat) : Sz 1 (oneM a b) := by
  unfold oneM
  split
  · exact Sz.one (Nat.le_refl _)
  · exact Sz.zero (Nat.le_refl _)
theorem szI_end {m L : Nat → Nat → Rat} {D : Nat → Rat} {n k : Nat} (h : SzI L D n k n) (hi : Inner m L D n k n) (hk : k < n) : SzO L D n (k + 1) := by
  have hm := Ub_mono k
  have h1 : 1 ≤ Ub (k + 1) := by rw [Ub_succ]; unfold Sk; omega
  refine ⟨fun a j ha hj => ?_, fun j hj => ?_⟩
  · by_cases e : j = k
    · subst e
      by_cases h2 : j < a
      · exact h.2.2 a h2 ha
      · rw [hi.rest a j ha hk (.inr ⟨rfl, .inl (by omega)⟩)]
        exact (one_sz a j).mono h1
    · exact (h.1.1 a j ha (by omega)).mono hm
  · by_cases e : j = k
    · subst e
      exact h.2.1.mono (by rw [Ub_succ]; omega)
    · exact (h.1.2 j (by omega)).mono hm
/-- What is left of a matrix' number behind k columns. -/
def leftK (m L : Nat → Nat → Rat) (D : Nat → Rat) (a b k : Nat) : Rat := m a b - lsum (fun t => L a t * D t * L b t) k
theorem leftK_zero (m L : Nat → Nat → Rat) (D : Nat → Rat) (a b : Nat) : leftK m L D a b 0 = m a b := by unfold leftK lsum; grind
theorem leftK_succ (m L : Nat → Nat → Rat) (D : Nat → Rat) (a b k : Nat) : leftK m L D a b (k + 1) = leftK m L D a b k - L a k * L b k * D k := by
  unfold leftK
  simp only [lsum]
  grind
theorem leftK_congr {m L L' : Nat → Nat → Rat} {D D' : Nat → Rat} {a b k : Nat} (h : ∀ t, t < k → L a t = L' a t ∧ L b t = L' b t ∧ D t = D' t) : leftK m L D a b k = leftK m L' D' a b k := by
  unfold leftK
  rw [lsum_congr fun j hj => by
    obtain ⟨h1, h2, h3⟩ := h j hj
    rw [h1, h2, h3]]
/-- The parts are the only ones, as far as they go. -/
theorem Parts.unique {m L L' : Nat → Nat → Rat} {D D' : Nat → Rat} {n : Nat} : ∀ {c : Nat} (_ : c ≤ n) (_ : Parts m L D n c) (_ : Parts m L' D' n c), ∀ k, k < c → D k = D' k ∧ ∀ i, i < n → L i k = L' i k
  | 0, _, _, _, k, hk => by omega
  | c + 1, hc, h, h', k, hk => by
    have ih := Parts.unique (c := c) (by omega) ⟨fun k hk => h.diag k (by omega), fun i k hk => h.low i k (by omega), h.one, h.up⟩ ⟨fun k hk => h'.diag k (by omega), fun i k hk => h'.low i k (by omega), h'.one, h'.up⟩
    by_cases e : k < c
    · exact ih k e
    · have e : k = c := by omega
      subst e
      have hl : ∀ i, i < n → leftF m L D i k = leftF m L' D' i k := fun i hi => leftF_congr fun j hj => ⟨(ih j hj).2 i hi, (ih j hj).2 k (by omega), (ih j hj).1⟩
      have hd : D k = D' k := by rw [h.diag k hk, h'.diag k hk, hl k (by omega)]
      refine ⟨hd, fun i hi => ?_⟩
      rcases Nat.lt_trichotomy i k with hik | hik | hik
      · rw [h.up i k hik (by omega), h'.up i k hik (by omega)]
      · rw [hik, h.one k (by omega), h'.one k (by omega)]
      · rw [(h.low i k hk hik hi).1, (h'.low i k hk hik hi).1, hl i hi, hd]
theorem Parts.less {m L : Nat → Nat → Rat} {D : Nat → Rat} {n c k : Nat} (h : Parts m L D n c) (hk : k ≤ c) : Parts m L D n k := ⟨fun k hk => h.diag k (by omega), fun i k hk => h.low i k (by omega), h.one, h.up⟩
/-- A step over a 0 below a 0. -/
theorem inner_skip {m L : Nat → Nat → Rat} {D : Nat → Rat} {n k i : Nat} (h : Inner m L D n k i) (hki : k < i) (hi : i < n) (hk : k < n) (hd : D k = 0) (h0 : leftF m L D i k = 0) : Inner m L D n k (i + 1) := by
  have hs := inner_step h hki hi (fun _ => h0)
  have hz : L i k = 0 := by
    rw [h.rest i k hi hk (.inr ⟨rfl, .inr (Nat.le_refl _)⟩)]
    unfold oneM
    rw [if_neg (by omega)]
  have e : setM L i k (leftF m L D i k / D k) = L := by
    funext a b
    unfold setM
    split
    · rename_i hab
      rw [hab.1, hab.2, hz, h0, hd, Rat.div_def]
      simp
    · rfl
  rw [e] at hs
  exact hs
theorem SzO.congrD {L : Nat → Nat → Rat} {D D' : Nat → Rat} {r k : Nat} (h : SzO L D r k) (he : ∀ j, j < k → D j = D' j) : SzO L D' r k := ⟨h.1, fun j hj => by rw [← he j hj]; exact h.2 j hj⟩
end Go.SX

/- Tables of texts. -/
set_option linter.unusedVariables false
namespace Go.SX
def tcel (l : List ByteArray) : List (List Value) := l.map fun t => [.string t]
theorem tcel_length (l : List ByteArray) : (tcel l).length = l.length := by simp [tcel]
theorem tcel_append (l r : List ByteArray) : tcel (l ++ r) = tcel l ++ tcel r := by simp [tcel]
theorem tcel_set (l : List ByteArray) (i : Nat) (t : ByteArray) : (tcel l).set i [.string t] = tcel (l.set i t) := by simp [tcel, List.map_set]
theorem RowA.ext {W W' : PW} {sz : Nat} {s : Sl} {xs : List (List Value)} (h : RowA W sz s xs) (hE : Ext W W') : RowA W' sz s xs := let ⟨t, h1⟩ := h; ⟨t, h1.ext hE⟩
theorem RowA.new {W W' : PW} {sz n0 : Nat} {s : Sl} {xs : List (List Value)} (h : RowA W sz s xs) (hE : ExtN n0 W W') (hn : W.w.heap.size ≤ n0) : RowA W' sz s xs := let ⟨t, h1⟩ := h; ⟨t, h1.new hE hn⟩
/-- A table: its rows. -/
def IsTx (W : PW) (s : Sl) (T : List (List ByteArray)) : Prop :=
  ∃ ss : List Sl, RowA W 1 s (ss.map fun x => [x.v]) ∧ ss.length = T.length ∧ ∀ i (h : i < ss.length) (h' : i < T.length), RowA W 1 ss[i] (tcel T[i])
theorem IsTx.ext {W W' : PW} {s : Sl} {T : List (List ByteArray)} (h : IsTx W s T) (hE : Ext W W') : IsTx W' s T :=
  let ⟨ss, h1, h2, h3⟩ := h; ⟨ss, h1.ext hE, h2, fun i hi hi' => (h3 i hi hi').ext hE⟩
theorem IsTx.new {W W' : PW} {s : Sl} {T : List (List ByteArray)} {n0 : Nat} (h : IsTx W s T) (hE : ExtN n0 W W') (hn : W.w.heap.size ≤ n0) : IsTx W' s T :=
  let ⟨ss, h1, h2, h3⟩ := h; ⟨ss, h1.new hE hn, h2, fun i hi hi' => (h3 i hi hi').new hE hn⟩
theorem IsTx.n {W : PW} {s : Sl} {T : List (List ByteArray)} (h : IsTx W s T) : s.n = T.length := let ⟨ss, ⟨_, h1⟩, h2, _⟩ := h; h1.1.trans (by simpa using h2)
theorem IsTx.inB {W : PW} {s : Sl} {T : List (List ByteArray)} (h : IsTx W s T) {i : Int} (h0 : 0 ≤ i) (h1 : i < (T.length : Int)) : inB s i := by
  have hn := h.n
  obtain ⟨ss, ⟨_, hr⟩, hq, _⟩ := h
  refine ⟨h0, by omega, Row.some hr fun e => ?_⟩
  have : ss = [] := by simpa using e
  subst this
  simp at hq
  omega
theorem IsTx.at {W : PW} {s : Sl} {T : List (List ByteArray)} (h : IsTx W s T) {i : Nat} (hi : i < T.length) : ∃ x : Sl, ElemAt W s 1 i 0 [x.v] ∧ RowA W 1 x (tcel T[i]) := by
  obtain ⟨ss, ⟨_, hr⟩, hq, h3⟩ := h
  have hi' : i < ss.length := by omega
  exact ⟨ss[i], Row.elem hr (x := [ss[i].v]) (by simp [hi']) fun j v hj => by simpa using hj, h3 i hi' hi⟩
theorem RowA.text {W : PW} {x : Sl} {l : List ByteArray} (h : RowA W 1 x (tcel l)) {j : Nat} (hj : j < l.length) : ElemAt W x 1 j 0 [.string l[j]] := let ⟨_, h⟩ := h; Row.elem h (x := [.string l[j]]) (by simp [tcel, hj]) fun j v hj => by simpa using hj
theorem RowA.inBt {W : PW} {x : Sl} {l : List ByteArray} (h : RowA W 1 x (tcel l)) {i : Int} (h0 : 0 ≤ i) (h1 : i < (l.length : Int)) : inB x i := by
  obtain ⟨_, h⟩ := h
  exact ⟨h0, by have := h.1; rw [tcel_length] at this; omega, Row.some h fun e => by
    have : l = [] := by simpa [tcel] using e
    subst this
    simp at h1
    omega⟩
theorem RowA.nt {W : PW} {x : Sl} {l : List ByteArray} (h : RowA W 1 x (tcel l)) : x.n = l.length := let ⟨_, h⟩ := h; by rw [h.1, tcel_length]
theorem Row.text {t9 : TypeId} {W : PW} {x : Sl} {l : List ByteArray} (h : Row W t9 1 x (tcel l)) {j : Nat} (hj : j < l.length) : ElemAt W x 1 j 0 [.string l[j]] := Row.elem h (x := [.string l[j]]) (by simp [tcel, hj]) fun j v hj => by simpa using hj
theorem Row.inBt {t9 : TypeId} {W : PW} {x : Sl} {l : List ByteArray} (h : Row W t9 1 x (tcel l)) {i : Int} (h0 : 0 ≤ i) (h1 : i < (l.length : Int)) : inB x i :=
  ⟨h0, by have := h.1; rw [tcel_length] at this; omega, Row.some h fun e => by
    have : l = [] := by simpa [tcel] using e
    subst this
    simp at h1
    omega⟩
theorem Row.nt {t9 : TypeId} {W : PW} {x : Sl} {l : List ByteArray} (h : Row W t9 1 x (tcel l)) : x.n = l.length := by rw [h.1, tcel_length]
/-- Rows of texts, each in a block of its own. -/
def OTab (t9 : TypeId) (N : Nat → Prop) (W : PW) (ss : List Sl) (T : List (List ByteArray)) : Prop :=
  ss.length = T.length ∧ (∀ i (h : i < ss.length) (h' : i < T.length), Own W t9 1 ss[i] (tcel T[i]) ∧ ∀ g, ss[i].v.ownBlock = some g → N g) ∧
    ∀ i j (hi : i < ss.length) (hj : j < ss.length), i ≠ j → ∀ g, ss[i].v.ownBlock = some g → ss[j].v.ownBlock ≠ some g
theorem OTab.ext {t9 : TypeId} {N : Nat → Prop} {W W' : PW} {ss : List Sl} {T : List (List ByteArray)} (h : OTab t9 N W ss T) (hE : Ext W W') : OTab t9 N W' ss T :=
  ⟨h.1, fun i hi hi' => ⟨(h.2.1 i hi hi').1.ext hE, (h.2.1 i hi hi').2⟩, h.2.2⟩
theorem own_lt {W : PW} {t : TypeId} {sz : Nat} {s : Sl} {xs : List (List Value)} (h : Own W t sz s xs) {g : Nat} (hg : s.v.ownBlock = some g) : g < W.w.heap.size ∧ ¬ W.S g := by
  refine ⟨?_, h.2 g hg⟩
  rcases h.1.2.2 with ⟨hv, _⟩ | ⟨g1, cap, cur, hv, _, hh, _⟩
  · rw [hv] at hg
    simp [Value.ownBlock] at hg
  · have hgg : s.v.ownBlock = some g1 := by rw [hv]; rfl
    rw [hg] at hgg
    cases hgg
    exact (Array.getElem?_eq_some_iff.1 hh).1
/-- One row more. -/
theorem OTab.snoc {t9 : TypeId} {N : Nat → Prop} {W W' : PW} {ss : List Sl} {T : List (List ByteArray)} {s : Sl} {l : List ByteArray} (h : OTab t9 N W ss T) (hE : Ext W W') (hO : Own W' t9 1 s (tcel l)) (hf : ∀ g, s.v.ownBlock = some g → N g ∧ (g < W.w.heap.size → W.S g)) : OTab t9 N W' (ss ++ [s]) (T ++ [l]) := by
  obtain ⟨h1, h2, h3⟩ := h
  have key : ∀ i (hi : i < ss.length) g, s.v.ownBlock = some g → ss[i].v.ownBlock ≠ some g := by
    intro i hi g hg hg'
    have := own_lt (h2 i hi (by omega)).1 hg'
    exact this.2 ((hf g hg).2 this.1)
  refine ⟨by simp [h1], fun i hi hi' => ?_, ?_⟩
  · by_cases e : i < ss.length
    · rw [List.getElem_append_left e, List.getElem_append_left (by omega)]
      exact ⟨(h2 i e (by omega)).1.ext hE, (h2 i e (by omega)).2⟩
    · have : i = ss.length := by simp at hi; omega
      subst this
      have e2 : (T ++ [l])[ss.length]'hi' = l := by
        rw [List.getElem_append_right (by omega)]
        simp [h1]
      rw [List.getElem_concat_length rfl, e2]
      exact ⟨hO, fun g hg => (hf g hg).1⟩
  · intro i j hi hj hne g hg hg'
    simp only [List.length_append, List.length_cons, List.length_nil] at hi hj
    by_cases ei : i < ss.length
    · rw [List.getElem_append_left ei] at hg
      by_cases ej : j < ss.length
      · rw [List.getElem_append_left ej] at hg'
        exact h3 i j ei ej hne g hg hg'
      · have : j = ss.length := by omega
        subst this
        rw [List.getElem_concat_length rfl] at hg'
        exact key i ei g hg' hg
    · have : i = ss.length := by omega
      subst this
      rw [List.getElem_concat_length rfl] at hg
      rw [List.getElem_append_left (by omega)] at hg'
      exact key j (by omega) g hg hg'
/-- A text of a row is written. -/
theorem OTab.store {t9 : TypeId} {N : Nat → Prop} {W0 W : PW} {M : Nat → Prop} {ss : List Sl} {T : List (List ByteArray)} {i j : Nat} {t : ByteArray} {K : PW → Prop} (h : OTab t9 N W ss T) (hi : i < ss.length) (hi' : i < T.length) (hj : j < T[i].length) (hM : ∀ g, N g → may W0 M g)
    (kont : ∀ (W'' : PW) (g : Nat), N g → Wr t9 g W W'' → OTab t9 N W'' ss (T.set i (T[i].set j t)) → K W'') : storeN W0 M ss[i] (j * 1 + 0) [.string t] W K := by
  obtain ⟨h1, h2, h3⟩ := h
  have hO := h2 i hi hi'
  refine storeN_own hO.1 (by rw [tcel_length]; exact hj) rfl (fun u hu => by rw [List.mem_singleton.1 hu]; rfl) (fun g hg => hM g (hO.2 g hg)) fun W'' g hg hw ho => kont W'' g (hO.2 g hg) hw ⟨by simpa using h1, fun a ha ha' => ?_, h3⟩
  by_cases e : i = a
  · subst e
    rw [List.getElem_set_self]
    rw [tcel_set] at ho
    exact ⟨ho, hO.2⟩
  · rw [List.getElem_set_ne e]
    have ha2 : a < T.length := by simpa using ha'
    refine ⟨(h2 a ha ha2).1.other hw.extM fun g' hg' eg => ?_, (h2 a ha ha2).2⟩
    have eg : g' = g := eg
    subst eg
    exact h3 a i ha hi (fun e' => e e'.symm) _ hg' hg
end Go.SX

/- Decimal digits. -/
set_option linter.unusedVariables false
namespace Go.SX
/-- The decimal digits, the lowest first. -/
def dec : Nat → List Nat
  | 0 => []
  | n + 1 => (n + 1) % 10 :: dec ((n + 1) / 10)
 decreasing_by omega
theorem dec_zero : dec 0 = [] := by rw [dec]
theorem dec_pos {x : Nat} (h : x ≠ 0) : dec x = x % 10 :: dec (x / 10) := by
  cases x with
  | zero => exact absurd rfl h
  | succ n => rw [dec]
def dvl : List Nat → Nat
  | [] => 0
  | d :: r => d + 10 * dvl r
theorem dvl_append : ∀ (l r : List Nat), dvl (l ++ r) = dvl l + 10 ^ l.length * dvl r
  | [], r => by simp [dvl]
  | d :: l, r => by
    simp only [List.cons_append, dvl, dvl_append l r, List.length_cons, Nat.pow_succ]
    grind
/-- Digits without a 0 at the end are the number's own. -/
theorem dec_dvl : ∀ {l : List Nat} (_ : ∀ d ∈ l, d < 10) (_ : l.getLast? ≠ some 0), dec (dvl l) = l
  | [], _, _ => dec_zero
  | d :: r, hd, hl => by
    have hr : r.getLast? ≠ some 0 := by
      intro h
      apply hl
      cases r with
      | nil => cases h
      | cons e r => rw [List.getLast?_cons_cons]; exact h
    have ih := dec_dvl (l := r) (fun x hx => hd x (List.mem_cons_of_mem _ hx)) hr
    have h10 := hd d (List.mem_cons_self ..)
    have hne : dvl (d :: r) ≠ 0 := by
      simp only [dvl]
      intro h0
      have h1 : d = 0 := by omega
      have h2 : dvl r = 0 := by omega
      rw [h2] at ih
      have : r = [] := by rw [← ih]; exact dec_zero
      subst this
      apply hl
      rw [h1]; rfl
    rw [dec_pos hne]
    have e1 : dvl (d :: r) % 10 = d := by simp only [dvl]; omega
    have e2 : dvl (d :: r) / 10 = dvl r := by simp only [dvl]; omega
    rw [e1, e2, ih]
/-- The text of a number. -/
def decN (x : Nat) : ByteArray := if x = 0 then ⟨⟨[48]⟩⟩ else strOfNums ((dec x).reverse.map fun (d : Nat) => (48 + (d : Int)))
def decI (z : Int) : ByteArray := if z < 0 then ⟨⟨[45]⟩⟩ ++ decN z.natAbs else decN z.natAbs
def decQ (q : Rat) : ByteArray := if q.den = 1 then decI q.num else decI q.num ++ ⟨⟨[47]⟩⟩ ++ decN q.den
theorem dec_len : ∀ (k : Nat) {x : Nat} (_ : x < 10 ^ k), (dec x).length ≤ k
  | 0, x, h => by
    have : x = 0 := by simpa using h
    rw [this, dec_zero]; simp
  | k + 1, x, h => by
    by_cases h0 : x = 0
    · rw [h0, dec_zero]; simp
    · rw [dec_pos h0, List.length_cons]
      have := dec_len k (x := x / 10) (by rw [Nat.pow_succ] at h; omega)
      omega
theorem decN_size (x : Nat) : (decN x).size ≤ 32 * nl x + 1 := by
  unfold decN
  split
  · show 1 ≤ _
    omega
  · rw [strOfNums_size, List.length_map, List.length_reverse]
    refine Nat.le_trans (dec_len (32 * nl x) ?_) (by omega)
    have h1 := lt_nl x
    rw [B_pow] at h1
    exact Nat.lt_of_lt_of_le h1 (Nat.pow_le_pow_left (by decide) _)
theorem decI_size (z : Int) : (decI z).size ≤ 32 * nl z.natAbs + 2 := by
  have := decN_size z.natAbs
  unfold decI
  split
  · rw [ByteArray.size_append]
    show 1 + _ ≤ _
    omega
  · omega
/-- Bytes as cells. -/
def bcel (l : List Nat) : List (List Value) := l.map fun (d : Nat) => [.int .u8 (48 + (d : Int))]
theorem bcel_length (l : List Nat) : (bcel l).length = l.length := by simp [bcel]
theorem bcel_append (l r : List Nat) : bcel (l ++ r) = bcel l ++ bcel r := by simp [bcel]
/-- What Reverse has done when k pairs are over. -/
theorem rev_done {α : Type} {xs ys : List α} {k : Nat} (hl : ys.length = xs.length) (hk : xs.length ≤ 2 * k + 1) (h : ∀ a, a < xs.length → ys[a]? = if a < k ∨ xs.length ≤ a + k then xs[xs.length - 1 - a]? else xs[a]?) : ys = xs.reverse := by
  apply List.ext_getElem?
  intro a
  by_cases ha : a < xs.length
  · rw [h a ha, List.getElem?_reverse ha]
    split
    · rfl
    · congr 1; omega
  · rw [List.getElem?_eq_none (by omega), List.getElem?_eq_none (by simp; omega)]
theorem rev_step {α : Type} {xs ys : List α} {k : Nat} {u v : α} (hl : ys.length = xs.length) (hk : k < xs.length - 1 - k) (hu : xs[xs.length - 1 - k]? = some u) (hv : xs[k]? = some v)
    (h : ∀ a, a < xs.length → ys[a]? = if a < k ∨ xs.length ≤ a + k then xs[xs.length - 1 - a]? else xs[a]?) :
    ∀ a, a < xs.length → ((ys.set k u).set (xs.length - 1 - k) v)[a]? = if a < k + 1 ∨ xs.length ≤ a + (k + 1) then xs[xs.length - 1 - a]? else xs[a]? := by
  intro a ha
  rw [List.getElem?_set, List.getElem?_set]
  by_cases e1 : xs.length - 1 - k = a
  · rw [if_pos e1, if_pos (by simp; omega), if_pos (by omega), show xs.length - 1 - a = k by omega, hv]
  · rw [if_neg e1]
    by_cases e2 : k = a
    · rw [if_pos e2, if_pos (by omega), if_pos (by omega), ← e2, hu]
    · rw [if_neg e2, h a ha]
      by_cases e3 : a < k ∨ xs.length ≤ a + k
      · rw [if_pos e3, if_pos (by omega)]
      · rw [if_neg e3, if_neg (by omega)]
end Go.SX
