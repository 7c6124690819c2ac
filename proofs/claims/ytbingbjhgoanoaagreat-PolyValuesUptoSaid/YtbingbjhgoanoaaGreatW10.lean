/- cinctureref1: texts of numbers; cincturelaw3.Is. -/
import Derived.Test.YtbingbjhgoanoaaGreatW9
import Derived.Test.YtbingbjhgoanoaaGreatR9
import Derived.Test.YtbingbjhgoanoaaGreatW6
import Derived.Test.YtbingbjhgoanoaaGreatR10
import Derived.Test.YtbingbjhgoanoaaGreatLib3
import Derived.Shelf.SlSortCmp.WholeK
import Derived.Shelf.SlGeneric
import Derived.Test.YtbingbjhgoanoaaGreatProg
set_option linter.unusedVariables false
set_option linter.unusedSimpArgs false
set_option maxRecDepth 100000
set_option linter.unusedVariables false
set_option linter.unusedSimpArgs false
namespace Go.Proofs.YtbingbjhgoanoaaGreat
open Go Go.SX
end Go.Proofs.YtbingbjhgoanoaaGreat

/- cmp.Compare, cmp.Or, slices.Compare; mono.Degree, mono.Mul, mono.Cmp. -/
set_option maxRecDepth 100000
set_option linter.unusedVariables false
set_option linter.unusedSimpArgs false
namespace Go.Proofs.YtbingbjhgoanoaaGreat
open Go Go.SX
theorem isNaNint_ok {W0 : PW} {M : Nat → Prop} {x : Int}  :
    PCallsM Go.Proofs.Tryz.prog 150 [.int .i64 x] W0 M fun v W' => v = .bool false ∧ True := by
  apply callcmp_isNaN_int
  exact fun W1 _ => ⟨by simp, trivial⟩
theorem isNaNint_call {W0 W : PW} {M : Nat → Prop} {x : Int} {K : Value → PW → Prop}  (kont : ∀  (W' : PW), Ext W W' → (True) → K (.bool false) W') :
    callN Go.Proofs.Tryz.prog W0 M 150 [.int .i64 x] W K :=
  callN_of (fun W' hE => isNaNint_ok (M := fun _ => False) ) (fun W' v W'' hE hE' hP => by
    obtain ⟨rfl, h⟩ := hP
    exact kont  W'' (hE.trans hE') h)
theorem isNaNu8_ok {W0 : PW} {M : Nat → Prop} {x : Int}  :
    PCallsM Go.Proofs.Tryz.prog 173 [.int .u8 x] W0 M fun v W' => v = .bool false ∧ True := by
  apply callcmp_isNaN_uint8
  exact fun W1 _ => ⟨by simp, trivial⟩
theorem isNaNu8_call {W0 W : PW} {M : Nat → Prop} {x : Int} {K : Value → PW → Prop}  (kont : ∀  (W' : PW), Ext W W' → (True) → K (.bool false) W') :
    callN Go.Proofs.Tryz.prog W0 M 173 [.int .u8 x] W K :=
  callN_of (fun W' hE => isNaNu8_ok (M := fun _ => False) ) (fun W' v W'' hE hE' hP => by
    obtain ⟨rfl, h⟩ := hP
    exact kont  W'' (hE.trans hE') h)
theorem cmpInt_ok {W0 : PW} {M : Nat → Prop} {x y : Int}  :
    PCallsM Go.Proofs.Tryz.prog 119 [.int .i64 x, .int .i64 y] W0 M fun v W' => v = .int .i64 (cmpI x y) ∧ True := by
  apply callcmp_Compare_int
  refine isNaNint_call fun W2 _ _ => ⟨false, rfl, isNaNint_call fun W5 _ _ => ⟨false, rfl, fun h => (by cases h), fun _ => ⟨fun h => (by cases h), fun _ => ⟨fun h W _ => ⟨?_, trivial⟩, fun h => ⟨fun h' W _ => ⟨?_, trivial⟩, fun h' W _ => ⟨?_, trivial⟩⟩⟩⟩⟩⟩
  · unfold cmpI; rw [if_pos h]
  · unfold cmpI; rw [if_neg h, if_neg (by omega)]
  · unfold cmpI; rw [if_neg h, if_pos (by omega)]
theorem cmpInt_call {W0 W : PW} {M : Nat → Prop} {x y : Int} {K : Value → PW → Prop}  (kont : ∀  (W' : PW), Ext W W' → (True) → K (.int .i64 (cmpI x y)) W') :
    callN Go.Proofs.Tryz.prog W0 M 119 [.int .i64 x, .int .i64 y] W K :=
  callN_of (fun W' hE => cmpInt_ok (M := fun _ => False) ) (fun W' v W'' hE hE' hP => by
    obtain ⟨rfl, h⟩ := hP
    exact kont  W'' (hE.trans hE') h)
theorem cmpU8_ok {W0 : PW} {M : Nat → Prop} {x y : Int}  :
    PCallsM Go.Proofs.Tryz.prog 151 [.int .u8 x, .int .u8 y] W0 M fun v W' => v = .int .i64 (cmpI x y) ∧ True := by
  apply callcmp_Compare_uint8
  refine isNaNu8_call fun W2 _ _ => ⟨false, rfl, isNaNu8_call fun W5 _ _ => ⟨false, rfl, fun h => (by cases h), fun _ => ⟨fun h => (by cases h), fun _ => ⟨fun h W _ => ⟨?_, trivial⟩, fun h => ⟨fun h' W _ => ⟨?_, trivial⟩, fun h' W _ => ⟨?_, trivial⟩⟩⟩⟩⟩⟩
  · unfold cmpI; rw [if_pos h]
  · unfold cmpI; rw [if_neg h, if_neg (by omega)]
  · unfold cmpI; rw [if_neg h, if_pos (by omega)]
theorem cmpU8_call {W0 W : PW} {M : Nat → Prop} {x y : Int} {K : Value → PW → Prop}  (kont : ∀  (W' : PW), Ext W W' → (True) → K (.int .i64 (cmpI x y)) W') :
    callN Go.Proofs.Tryz.prog W0 M 151 [.int .u8 x, .int .u8 y] W K :=
  callN_of (fun W' hE => cmpU8_ok (M := fun _ => False) ) (fun W' v W'' hE hE' hP => by
    obtain ⟨rfl, h⟩ := hP
    exact kont  W'' (hE.trans hE') h)
theorem cmpOr_ok {W0 : PW} {M : Nat → Prop} {s : Sl} {x y : Int} (h : RowA W0 1 s [[.int .i64 x], [.int .i64 y]]) :
    PCallsM Go.Proofs.Tryz.prog 118 [s.v] W0 M fun v W' => v = .int .i64 (if x ≠ 0 then x else y) ∧ True := by
  apply callcmp_Or_int
  have hn : s.n = 2 := let ⟨_, h⟩ := h; h.1
  refine ⟨fun l W => match l with | [.val (.int .i64 i)] => Ext W0 W ∧ ∃ k : Nat, i = (k : Int) ∧ k ≤ 2 ∧ (0 < k → x = 0) ∧ (1 < k → y = 0) | _ => False, fun l _ => match l with | [.val (.int .i64 i)] => 2 - i.toNat | _ => 0, ⟨Ext.refl _, 0, rfl, by omega, by omega, by omega⟩, ?_⟩
  rintro i3 W4 ⟨hE, k, rfl, hk, hx, hy⟩
  refine ⟨fun hlt => ?_, fun hge W7 _ => ⟨?_, trivial⟩⟩
  · have hk2 : k < 2 := by omega
    obtain ⟨t, h⟩ := h.ext hE
    have hel : ElemAt W4 s 1 k 0 [.int .i64 (if k = 0 then x else y)] := by
      rcases (by omega : k = 0 ∨ k = 1) with rfl | rfl
      · exact h.part (x := [.int .i64 x]) rfl 0 rfl
      · exact h.part (x := [.int .i64 y]) rfl 0 rfl
    refine ⟨h.inB (by omega) (by simp; omega), _, hel, fun hne W6 _ => ⟨?_, trivial⟩, fun heq => ⟨by unfold I64; omega, ⟨hE, k + 1, by push_cast; rfl, by omega, fun _ => ?_, fun h1 => ?_⟩, ?_⟩⟩
    · rcases (by omega : k = 0 ∨ k = 1) with rfl | rfl
      · rw [if_pos rfl] at hne
        rw [if_pos rfl, if_pos hne]
      · rw [if_neg (by omega), if_neg (fun h => h (hx (by omega)))]
    · rcases (by omega : k = 0 ∨ k = 1) with rfl | rfl
      · rw [if_pos rfl] at heq
        omega
      · exact hx (by omega)
    · have : k = 1 := by omega
      subst this
      rw [if_neg (by omega)] at heq
      omega
    · show 2 - Int.toNat ((k : Int) + 1) < 2 - Int.toNat (k : Int)
      omega
  · rw [if_neg (fun h => h (hx (by omega))), hy (by omega)]
theorem cmpOr_call {W0 W : PW} {M : Nat → Prop} {s : Sl} {x y : Int} {K : Value → PW → Prop} (h : RowA W 1 s [[.int .i64 x], [.int .i64 y]]) (kont : ∀  (W' : PW), Ext W W' → (True) → K (.int .i64 (if x ≠ 0 then x else y)) W') :
    callN Go.Proofs.Tryz.prog W0 M 118 [s.v] W K :=
  callN_of (fun W' hE => cmpOr_ok (M := fun _ => False) (h.ext hE)) (fun W' v W'' hE hE' hP => by
    obtain ⟨rfl, h⟩ := hP
    exact kont  W'' (hE.trans hE') h)
def eget (m : Mon) (k : Nat) : Int := if k = 0 then m.x else if k = 1 then m.y else m.z
theorem boxAt_mon (m : Mon) {k : Nat} (hk : k < 3) (a b c : Int) (ha : a = m.x) (hb : b = m.y) (hc : c = m.z) : BoxAt [.int .u8 a, .int .u8 b, .int .u8 c] (0 + Int.toNat (k : Int) * 1 + 0) [.int .u8 (eget m k)] := by
  subst ha; subst hb; subst hc
  rcases (by omega : k = 0 ∨ k = 1 ∨ k = 2) with rfl | rfl | rfl <;> exact ⟨by simp, rfl⟩
theorem take_mon (m : Mon) {k : Nat} (hk : k < 3) : List.take 1 (List.drop (Int.toNat (k : Int) * 1) [Value.int .u8 m.x, .int .u8 m.y, .int .u8 m.z]) = [.int .u8 (eget m k)] := by
  rcases (by omega : k = 0 ∨ k = 1 ∨ k = 2) with rfl | rfl | rfl <;> rfl
theorem eget_ok {m : Mon} (h : m.ok) (k : Nat) : 0 ≤ eget m k ∧ eget m k ≤ 255 := by
  unfold Mon.ok at h
  unfold eget
  split
  · omega
  · split <;> omega
theorem monoDegree_ok {W0 : PW} {M : Nat → Prop} {m : Mon} (hm : m.ok) :
    PCallsM Go.Proofs.Tryz.prog 83 [.agg ⟨[.int .u8 m.x, .int .u8 m.y, .int .u8 m.z]⟩] W0 M fun v W' => v = .int .i64 m.deg ∧ True := by
  apply callmono_Degree
  refine ⟨fun l W => match l with | [.val (.int .i64 a), .val (.int .i64 i)] => Ext W0 W ∧ ∃ k : Nat, i = (k : Int) ∧ k ≤ 3 ∧ a = (if 0 < k then m.x else 0) + (if 1 < k then m.y else 0) + (if 2 < k then m.z else 0) | _ => False, fun l _ => match l with | [_, .val (.int .i64 i)] => 3 - i.toNat | _ => 0, ⟨Ext.refl _, 0, rfl, by omega, by simp⟩, ?_⟩
  rintro i3 i4 W5 ⟨hE, k, rfl, hk, rfl⟩
  have ho := hm
  unfold Mon.ok at ho
  refine ⟨fun hlt => ?_, fun hge W7 _ => ⟨?_, trivial⟩⟩
  · have hk3 : k < 3 := by omega
    have hek := eget_ok hm k
    have hs : 0 ≤ (if 0 < k then m.x else 0) + (if 1 < k then m.y else 0) + (if 2 < k then m.z else 0) ∧ (if 0 < k then m.x else 0) + (if 1 < k then m.y else 0) + (if 2 < k then m.z else 0) ≤ 765 := by
      repeat' split
      all_goals omega
    refine ⟨⟨by omega, by omega⟩, _, take_mon m hk3, by unfold I64; omega, by unfold I64; omega, by unfold I64; omega, ⟨hE, k + 1, by push_cast; rfl, by omega, ?_⟩, ?_⟩
    · rcases (by omega : k = 0 ∨ k = 1 ∨ k = 2) with rfl | rfl | rfl <;> simp [eget]
    · show 3 - Int.toNat ((k : Int) + 1) < 3 - Int.toNat (k : Int)
      omega
  · have : k = 3 := by omega
    subst this
    simp [Mon.deg]
theorem monoDegree_call {W0 W : PW} {M : Nat → Prop} {m : Mon} {K : Value → PW → Prop} (hm : m.ok) (kont : ∀  (W' : PW), Ext W W' → (True) → K (.int .i64 m.deg) W') :
    callN Go.Proofs.Tryz.prog W0 M 83 [.agg ⟨[.int .u8 m.x, .int .u8 m.y, .int .u8 m.z]⟩] W K :=
  callN_of (fun W' hE => monoDegree_ok (M := fun _ => False) hm) (fun W' v W'' hE hE' hP => by
    obtain ⟨rfl, h⟩ := hP
    exact kont  W'' (hE.trans hE') h)
def lexM (a b : Mon) : Int := if a.x ≠ b.x then cmpI a.x b.x else if a.y ≠ b.y then cmpI a.y b.y else cmpI a.z b.z
theorem lexM_at {a b : Mon} {k : Nat} (hk : k < 3) (h : ∀ j, j < k → eget a j = eget b j) (hne : eget a k ≠ eget b k) : lexM a b = cmpI (eget a k) (eget b k) := by
  unfold lexM
  rcases (by omega : k = 0 ∨ k = 1 ∨ k = 2) with rfl | rfl | rfl
  · rw [if_pos (by simpa [eget] using hne)]; rfl
  · have h0 := h 0 (by omega)
    rw [if_neg (fun e => e (by simpa [eget] using h0)), if_pos (by simpa [eget] using hne)]; rfl
  · have h0 := h 0 (by omega)
    have h1 := h 1 (by omega)
    rw [if_neg (fun e => e (by simpa [eget] using h0)), if_neg (fun e => e (by simpa [eget] using h1))]; rfl
theorem lexM_eq {a b : Mon} (h : ∀ j, j < 3 → eget a j = eget b j) : lexM a b = 0 := by
  have h0 : a.x = b.x := by simpa [eget] using h 0 (by omega)
  have h1 : a.y = b.y := by simpa [eget] using h 1 (by omega)
  have h2 : a.z = b.z := by simpa [eget] using h 2 (by omega)
  unfold lexM cmpI
  rw [if_neg (fun e => e h0), if_neg (fun e => e h1), if_neg (by omega), if_pos h2]
theorem cmpM_eq (a b : Mon) : a.cmp b = (if cmpI a.deg b.deg ≠ 0 then cmpI a.deg b.deg else lexM a b) := by
  unfold Mon.cmp Mon.lt lexM cmpI
  by_cases h1 : a.deg < b.deg
  · simp [h1]
  · by_cases h2 : a.deg = b.deg
    · by_cases h3 : a.x = b.x
      · by_cases h4 : a.y = b.y
        · by_cases h5 : a.z = b.z
          · have : a = b := Mon.ext3 h3 h4 h5
            subst this
            simp
          · have : a ≠ b := fun e => h5 (by rw [e])
            simp [h2, h3, h4, h5, this]
        · have : a ≠ b := fun e => h4 (by rw [e])
          simp [h2, h3, h4, this]
      · have : a ≠ b := fun e => h3 (by rw [e])
        simp [h2, h3, this]
    · have : a ≠ b := fun e => h2 (by rw [e])
      simp [h1, h2, this]
theorem row_mon {W : PW} {t : TypeId} {s : Sl} {m : Mon} (h : Row W t 1 s [[.int .u8 m.x], [.int .u8 m.y], [.int .u8 m.z]]) {k : Nat} (hk : k < 3) : ElemAt W s 1 k 0 [.int .u8 (eget m k)] := by
  rcases (by omega : k = 0 ∨ k = 1 ∨ k = 2) with rfl | rfl | rfl
  · exact h.part (x := [.int .u8 m.x]) rfl 0 rfl
  · exact h.part (x := [.int .u8 m.y]) rfl 0 rfl
  · exact h.part (x := [.int .u8 m.z]) rfl 0 rfl
theorem cmpSl_ok {W0 : PW} {M : Nat → Prop} {s t : Sl} {a b : Mon} (h1 : RowA W0 1 s [[.int .u8 a.x], [.int .u8 a.y], [.int .u8 a.z]]) (h2 : RowA W0 1 t [[.int .u8 b.x], [.int .u8 b.y], [.int .u8 b.z]]) :
    PCallsM Go.Proofs.Tryz.prog 120 [s.v, t.v] W0 M fun v W' => v = .int .i64 (lexM a b) ∧ True := by
  apply callslices_Compare_uint8_uint8
  have hn1 : s.n = 3 := let ⟨_, h⟩ := h1; h.1
  have hn2 : t.n = 3 := let ⟨_, h⟩ := h2; h.1
  refine ⟨fun l W => match l with | [.val (.int .i64 i)] => Ext W0 W ∧ ∃ k : Nat, i = (k : Int) ∧ k ≤ 3 ∧ ∀ j, j < k → eget a j = eget b j | _ => False, fun l _ => match l with | [.val (.int .i64 i)] => 3 - i.toNat | _ => 0, ⟨Ext.refl _, 0, rfl, by omega, fun j hj => by omega⟩, ?_⟩
  rintro i3 W4 ⟨hE, k, rfl, hk, hj⟩
  refine ⟨fun hlt => ?_, fun hge => ⟨fun h => by omega, fun _ W13 _ => ⟨?_, trivial⟩⟩⟩
  · have hk3 : k < 3 := by omega
    obtain ⟨_, r1⟩ := h1.ext hE
    obtain ⟨_, r2⟩ := h2.ext hE
    refine ⟨r1.inB (by omega) (by simp; omega), _, row_mon (k := k) r1 hk3, fun h => by omega, fun _ => ⟨r2.inB (by omega) (by simp; omega), _, row_mon (k := k) r2 hk3, cmpU8_call fun W9 hE9 _ => ⟨_, rfl, fun hne W11 _ => ⟨?_, trivial⟩, fun heq => ⟨by unfold I64; omega, ⟨hE.trans hE9, k + 1, by push_cast; rfl, by omega, fun j h => ?_⟩, ?_⟩⟩⟩⟩
    · have : eget a k ≠ eget b k := fun e => hne (by rw [e]; unfold cmpI; simp)
      rw [lexM_at hk3 hj this]
    · by_cases e : j = k
      · subst e
        unfold cmpI at heq
        by_cases h1 : eget a j < eget b j
        · simp [h1] at heq
        · by_cases h2 : eget a j = eget b j
          · exact h2
          · simp [h1, h2] at heq
      · exact hj j (by omega)
    · show 3 - Int.toNat ((k : Int) + 1) < 3 - Int.toNat (k : Int)
      omega
  · have : k = 3 := by omega
    subst this
    rw [lexM_eq hj]
theorem cmpSl_call {W0 W : PW} {M : Nat → Prop} {s t : Sl} {a b : Mon} {K : Value → PW → Prop} (h1 : RowA W 1 s [[.int .u8 a.x], [.int .u8 a.y], [.int .u8 a.z]]) (h2 : RowA W 1 t [[.int .u8 b.x], [.int .u8 b.y], [.int .u8 b.z]]) (kont : ∀  (W' : PW), Ext W W' → (True) → K (.int .i64 (lexM a b)) W') :
    callN Go.Proofs.Tryz.prog W0 M 120 [s.v, t.v] W K :=
  callN_of (fun W' hE => cmpSl_ok (M := fun _ => False) (h1.ext hE) (h2.ext hE)) (fun W' v W'' hE hE' hP => by
    obtain ⟨rfl, h⟩ := hP
    exact kont  W'' (hE.trans hE') h)
theorem monoCmp_ok {W0 : PW} {M : Nat → Prop} {a b : Mon} (ha : a.ok) (hb : b.ok) :
    PCallsM Go.Proofs.Tryz.prog 72 [.agg ⟨[.int .u8 a.x, .int .u8 a.y, .int .u8 a.z]⟩, .agg ⟨[.int .u8 b.x, .int .u8 b.y, .int .u8 b.z]⟩] W0 M fun v W' => v = .int .i64 (a.cmp b) ∧ True := by
  apply callmono_Cmp
  refine monoDegree_call ha fun W2 _ _ => ⟨_, rfl, monoDegree_call hb fun W5 _ _ => ⟨_, rfl, cmpInt_call fun W8 _ _ => ⟨_, rfl, fun s10 W11 hE11 h11 _ s12 W13 hE13 h13 _ => cmpSl_call (h11.ext hE13) h13 fun W15 _ _ => ⟨_, rfl, fun s17 W18 _ hO _ => cmpOr_call ⟨_, hO.row⟩ fun W20 _ _ => ⟨_, rfl, fun W22 _ => ⟨?_, trivial⟩⟩⟩⟩⟩⟩
  rw [cmpM_eq]
theorem monoCmp_call {W0 W : PW} {M : Nat → Prop} {a b : Mon} {K : Value → PW → Prop} (ha : a.ok) (hb : b.ok) (kont : ∀  (W' : PW), Ext W W' → (True) → K (.int .i64 (a.cmp b)) W') :
    callN Go.Proofs.Tryz.prog W0 M 72 [.agg ⟨[.int .u8 a.x, .int .u8 a.y, .int .u8 a.z]⟩, .agg ⟨[.int .u8 b.x, .int .u8 b.y, .int .u8 b.z]⟩] W K :=
  callN_of (fun W' hE => monoCmp_ok (M := fun _ => False) ha hb) (fun W' v W'' hE hE' hP => by
    obtain ⟨rfl, h⟩ := hP
    exact kont  W'' (hE.trans hE') h)
theorem wrap8 {z : Int} (h0 : 0 ≤ z) (h : z ≤ 255) : IntKind.wrap .u8 z = z := by simp [IntKind.wrap, IntKind.bits, IntKind.signed]; omega
instance (m : Mon) : Decidable m.ok := by unfold Mon.ok; infer_instance
def mulMon (a b : Mon) : Mon := if (a.add b).ok then a.add b else ⟨0, 0, 0⟩
def mulMonI (a b : Mon) (l : List PL) : Prop := match l with
  | [.val (.int .i64 i), _, .cells [.int .u8 x, .int .u8 y, .int .u8 z]] => ∃ k : Nat, i = (k : Int) ∧ k ≤ 3 ∧ x = (if 0 < k then a.x + b.x else a.x) ∧ y = (if 1 < k then a.y + b.y else a.y) ∧ z = (if 2 < k then a.z + b.z else a.z) ∧ ∀ j, j < k → eget a j + eget b j ≤ 255
  | _ => False
theorem not_ok_add {a b : Mon} {k : Nat} (h : 255 < eget a k + eget b k) : ¬ (a.add b).ok := by
  unfold Mon.ok Mon.add
  unfold eget at h
  split at h
  · dsimp only; omega
  · split at h
    · dsimp only; omega
    · dsimp only; omega
theorem monoMul_ok {W0 : PW} {M : Nat → Prop} {a b : Mon} (ha : a.ok) (hb : b.ok) :
    PCallsM Go.Proofs.Tryz.prog 66 [.agg ⟨[.int .u8 a.x, .int .u8 a.y, .int .u8 a.z]⟩, .agg ⟨[.int .u8 b.x, .int .u8 b.y, .int .u8 b.z]⟩] W0 M fun v W' => v = .tuple ⟨[.agg ⟨[.int .u8 (mulMon a b).x, .int .u8 (mulMon a b).y, .int .u8 (mulMon a b).z]⟩, .bool (decide (a.add b).ok)]⟩ ∧ True := by
  apply callmono_Mul
  refine ⟨fun l W => Ext W0 W ∧ mulMonI a b l, fun l _ => match l with | [.val (.int .i64 i), _, _] => 3 - i.toNat | _ => 0, ⟨Ext.refl _, 0, rfl, by omega, rfl, rfl, rfl, fun j hj => by omega⟩, ?_⟩
  rintro i3 i4 i5 i6 i7 i8 i9 W10 ⟨hE, k, rfl, hk, hx, hy, hz, hj⟩
  refine ⟨fun hlt => ?_, fun hge W15 _ => ⟨?_, trivial⟩⟩
  · have hk3 : k < 3 := by omega
    have ea := eget_ok ha k
    have eb := eget_ok hb k
    have hbox : BoxAt [.int .u8 i6, .int .u8 i7, .int .u8 i8] (0 + Int.toNat (k : Int) * 1 + 0) [.int .u8 (eget a k)] := by
      rcases (by omega : k = 0 ∨ k = 1 ∨ k = 2) with rfl | rfl | rfl
      · simp at hx; subst hx; exact boxAt_mon ⟨a.x, i7, i8⟩ (k := 0) (by omega) _ _ _ rfl rfl rfl
      · simp at hy; subst hy; exact boxAt_mon ⟨i6, a.y, i8⟩ (k := 1) (by omega) _ _ _ rfl rfl rfl
      · simp at hz; subst hz; exact boxAt_mon ⟨i6, i7, a.z⟩ (k := 2) (by omega) _ _ _ rfl rfl rfl
    have hr : (0 : Int) ≤ (k : Int) ∧ (k : Int) < 3 := ⟨by omega, by omega⟩
    refine ⟨hr, _, take_mon b hk3, hr, _, hbox, by unfold I64; omega, by unfold I64; omega, by unfold I64; omega, fun h255 W13 _ => ⟨?_, trivial⟩, fun hle => ⟨hr, _, hbox, hr, by omega, ⟨⟨trivial, fun h0 => ?_⟩, fun h1 => ?_⟩, fun h2 => ?_⟩⟩
    · have := not_ok_add h255
      rw [decide_eq_false this]
      unfold mulMon
      rw [if_neg this]
    all_goals
      have hw : IntKind.wrap .u8 (eget a k + eget b k) = eget a k + eget b k := wrap8 (by omega) (by omega)
      rw [hw]
      have hkk : Int.toNat (k : Int) = k := by omega
      rw [hkk] at *
    · subst h0
      refine ⟨by unfold I64; omega, ⟨hE, 1, rfl, by omega, by simp [eget], by simpa using hy, by simpa using hz, fun j h => ?_⟩, by show 3 - Int.toNat (((0 : Nat) : Int) + 1) < 3 - Int.toNat ((0 : Nat) : Int); omega⟩
      have : j = 0 := by omega
      subst this; omega
    · subst h1
      refine ⟨by unfold I64; omega, ⟨hE, 2, rfl, by omega, by simpa using hx, by simp [eget], by simpa using hz, fun j h => ?_⟩, by show 3 - Int.toNat (((1 : Nat) : Int) + 1) < 3 - Int.toNat ((1 : Nat) : Int); omega⟩
      rcases (by omega : j = 0 ∨ j = 1) with rfl | rfl
      · exact hj 0 (by omega)
      · omega
    · subst h2
      refine ⟨by unfold I64; omega, ⟨hE, 3, rfl, by omega, by simpa using hx, by simpa using hy, by simp [eget], fun j h => ?_⟩, by show 3 - Int.toNat (((2 : Nat) : Int) + 1) < 3 - Int.toNat ((2 : Nat) : Int); omega⟩
      rcases (by omega : j < 2 ∨ j = 2) with h | rfl
      · exact hj j h
      · omega
  · have : k = 3 := by omega
    subst this
    have h0 := hj 0 (by omega)
    have h1 := hj 1 (by omega)
    have h2 := hj 2 (by omega)
    simp [eget] at h0 h1 h2 hx hy hz
    have hok : (a.add b).ok := by
      unfold Mon.ok at ha hb
      unfold Mon.ok Mon.add
      dsimp only
      omega
    rw [decide_eq_true hok]
    unfold mulMon
    rw [if_pos hok, hx, hy, hz]
    rfl
theorem monoMul_call {W0 W : PW} {M : Nat → Prop} {a b : Mon} {K : Value → PW → Prop} (ha : a.ok) (hb : b.ok) (kont : ∀  (W' : PW), Ext W W' → (True) → K (.tuple ⟨[.agg ⟨[.int .u8 (mulMon a b).x, .int .u8 (mulMon a b).y, .int .u8 (mulMon a b).z]⟩, .bool (decide (a.add b).ok)]⟩) W') :
    callN Go.Proofs.Tryz.prog W0 M 66 [.agg ⟨[.int .u8 a.x, .int .u8 a.y, .int .u8 a.z]⟩, .agg ⟨[.int .u8 b.x, .int .u8 b.y, .int .u8 b.z]⟩] W K :=
  callN_of (fun W' hE => monoMul_ok (M := fun _ => False) ha hb) (fun W' v W'' hE hE' hP => by
    obtain ⟨rfl, h⟩ := hP
    exact kont  W'' (hE.trans hE') h)
theorem polyCmp_ok {W0 : PW} {M : Nat → Prop} {a b : Mon} {s1 s2 s3 s4 : Sl} {b1 b2 : Bool} (ha : a.ok) (hb : b.ok) :
    PCallsM Go.Proofs.Tryz.prog 109 [.agg ⟨[.int .u8 a.x, .int .u8 a.y, .int .u8 a.z, s1.v, .bool b1, s2.v]⟩, .agg ⟨[.int .u8 b.x, .int .u8 b.y, .int .u8 b.z, s3.v, .bool b2, s4.v]⟩] W0 M fun v W' => v = .int .i64 (a.cmp b) ∧ True := by
  apply callpoly_sums_poly_1
  exact monoCmp_call ha hb fun W2 _ _ => ⟨_, rfl, fun W4 _ => ⟨rfl, trivial⟩⟩
end Go.Proofs.YtbingbjhgoanoaaGreat

/- Layings of the library's generic functions, as the kit's command says them. -/
set_option maxRecDepth 100000
namespace Go.Proofs.YtbingbjhgoanoaaGreat
open Go Go.Shelf Go.Proofs
def sortTm_ren : Go.Shelf.Ren := ⟨fun | 6 => 108 | 15 => 144 | 14 => 143 | 28 => 141 | 29 => 172 | 20 => 164 | 21 => 165 | 22 => 166 | 23 => 167 | 24 => 168 | 25 => 169 | 26 => 170 | 27 => 171 | 46 => 180 | 47 => 181 | 48 => 182 | 49 => 183 | 50 => 184 | 57 => 187 | n => n, fun | 22 => 24 | 24 => 45 | 25 => 160 | 3 => 3 | 39 => 189 | 0 => 0 | 53 => 183 | 55 => 148 | 4 => 4 | 46 => 217 | 45 => 216 | 50 => 221 | 5 => 5 | 9 => 9 | 66 => 229 | 70 => 232 | 76 => 236 | 77 => 237 | n => n, fun | n => n⟩
theorem sortTm : Go.Proofs.SlLaysF0.n6 Tryz.prog sortTm_ren where
  mixed := by kernel_rfl
  f6 := ⟨ "slices.SortFunc[[]cincture/poly.Term,cincture/poly.Term]", by decide, Tryz.func108.trans (congrArg some (by kernel_rfl))⟩
  f14 := ⟨ "slices.pdqsortCmpFunc[cincture/poly.Term]", by decide, Tryz.func143.trans (congrArg some (by kernel_rfl))⟩
  f15 := Tryz.func144.trans (congrArg some (by kernel_rfl))
  f20 := ⟨ "slices.insertionSortCmpFunc[cincture/poly.Term]", by decide, Tryz.func164.trans (congrArg some (by kernel_rfl))⟩
  f21 := ⟨ "slices.heapSortCmpFunc[cincture/poly.Term]", by decide, Tryz.func165.trans (congrArg some (by kernel_rfl))⟩
  f22 := ⟨ "slices.breakPatternsCmpFunc[cincture/poly.Term]", by decide, Tryz.func166.trans (congrArg some (by kernel_rfl))⟩
  f23 := ⟨ "slices.choosePivotCmpFunc[cincture/poly.Term]", by decide, Tryz.func167.trans (congrArg some (by kernel_rfl))⟩
  f24 := ⟨ "slices.reverseRangeCmpFunc[cincture/poly.Term]", by decide, Tryz.func168.trans (congrArg some (by kernel_rfl))⟩
  f25 := ⟨ "slices.partialInsertionSortCmpFunc[cincture/poly.Term]", by decide, Tryz.func169.trans (congrArg some (by kernel_rfl))⟩
  f26 := ⟨ "slices.partitionEqualCmpFunc[cincture/poly.Term]", by decide, Tryz.func170.trans (congrArg some (by kernel_rfl))⟩
  f27 := ⟨ "slices.partitionCmpFunc[cincture/poly.Term]", by decide, Tryz.func171.trans (congrArg some (by kernel_rfl))⟩
  f28 := Tryz.func141.trans (congrArg some (by kernel_rfl))
  f29 := Tryz.func172.trans (congrArg some (by kernel_rfl))
  f46 := ⟨ "slices.siftDownCmpFunc[cincture/poly.Term]", by decide, Tryz.func180.trans (congrArg some (by kernel_rfl))⟩
  f47 := Tryz.func181.trans (congrArg some (by kernel_rfl))
  f48 := Tryz.func182.trans (congrArg some (by kernel_rfl))
  f49 := ⟨ "slices.medianAdjacentCmpFunc[cincture/poly.Term]", by decide, Tryz.func183.trans (congrArg some (by kernel_rfl))⟩
  f50 := ⟨ "slices.medianCmpFunc[cincture/poly.Term]", by decide, Tryz.func184.trans (congrArg some (by kernel_rfl))⟩
  f57 := ⟨ "slices.order2CmpFunc[cincture/poly.Term]", by decide, Tryz.func187.trans (congrArg some (by kernel_rfl))⟩
  t0 := Tryz.underlying0
  a0 := Tryz.isAgg0
  z0 := Tryz.sizeOf0
  v0 := Tryz.zeroValue0
  t3 := Tryz.underlying3
  a3 := Tryz.isAgg3
  z3 := Tryz.sizeOf3
  v3 := Tryz.zeroValue3
  t4 := Tryz.underlying4
  a4 := Tryz.isAgg4
  z4 := Tryz.sizeOf4
  v4 := Tryz.zeroValue4
  t5 := Tryz.underlying5
  a5 := Tryz.isAgg5
  z5 := Tryz.sizeOf5
  v5 := Tryz.zeroValue5
  t9 := Tryz.underlying9
  a9 := Tryz.isAgg9
  z9 := Tryz.sizeOf9
  v9 := Tryz.zeroValue9
  t22 := Tryz.underlying24
  a22 := Tryz.isAgg24
  z22 := Tryz.sizeOf24
  v22 := Tryz.zeroValue24
  t25 := Tryz.underlying160
  a25 := Tryz.isAgg160
  z25 := Tryz.sizeOf160
  v25 := Tryz.zeroValue160
  t39 := Tryz.underlying189
  a39 := Tryz.isAgg189
  z39 := Tryz.sizeOf189
  v39 := Tryz.zeroValue189
  t45 := Tryz.underlying216
  a45 := Tryz.isAgg216
  z45 := Tryz.sizeOf216
  v45 := Tryz.zeroValue216
  t46 := Tryz.underlying217
  a46 := Tryz.isAgg217
  z46 := Tryz.sizeOf217
  v46 := Tryz.zeroValue217
  t50 := Tryz.underlying221
  a50 := Tryz.isAgg221
  z50 := Tryz.sizeOf221
  v50 := Tryz.zeroValue221
  t53 := Tryz.underlying183
  a53 := Tryz.isAgg183
  z53 := Tryz.sizeOf183
  v53 := Tryz.zeroValue183
  t55 := Tryz.underlying148
  a55 := Tryz.isAgg148
  z55 := Tryz.sizeOf148
  v55 := Tryz.zeroValue148
  t66 := Tryz.underlying229
  a66 := Tryz.isAgg229
  z66 := Tryz.sizeOf229
  v66 := Tryz.zeroValue229
  t70 := Tryz.underlying232
  a70 := Tryz.isAgg232
  z70 := Tryz.sizeOf232
  v70 := Tryz.zeroValue232
  t76 := Tryz.underlying236
  a76 := Tryz.isAgg236
  z76 := Tryz.sizeOf236
  v76 := Tryz.zeroValue236
  t77 := Tryz.underlying237
  a77 := Tryz.isAgg237
  z77 := Tryz.sizeOf237
  v77 := Tryz.zeroValue237
end Go.Proofs.YtbingbjhgoanoaaGreat
