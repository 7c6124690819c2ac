/- poly.Same. -/
import Derived.Test.YtbingbjhgoanoaaGreatW13
import Derived.Test.YtbingbjhgoanoaaGreatR16
import Derived.Test.YtbingbjhgoanoaaGreatW14
import Derived.Test.YtbingbjhgoanoaaGreatLib3
import Derived.Test.YtbingbjhgoanoaaGreatRows
import Derived.WalkKit
import Derived.ProofKit
import Derived.OpenShut
import Derived.JoinedCond
import Derived.Carry
import Derived.Deep.Slices
set_option linter.unusedVariables false
set_option linter.unusedSimpArgs false
set_option maxRecDepth 100000
set_option linter.unusedVariables false
set_option linter.unusedSimpArgs false
namespace Go.Proofs.YtbingbjhgoanoaaGreat
open Go Go.SX
theorem sameTm_ok {W0 : PW} {M : Nat → Prop} {a b : Mon} {s1 s2 s3 s4 : Sl} {b1 b2 : Bool} {q r : Rat} {k : Nat} (h1 : IsRat 183 W0 s1 b1 s2 q) (h2 : IsRat 183 W0 s3 b2 s4 r) (hq : Sz k q) (hr : Sz k r) (hk : k ≤ 34359738368) :
    PCallsM Go.Proofs.Tryz.prog 77 [.agg ⟨[.int .u8 a.x, .int .u8 a.y, .int .u8 a.z, s1.v, .bool b1, s2.v]⟩, .agg ⟨[.int .u8 b.x, .int .u8 b.y, .int .u8 b.z, s3.v, .bool b2, s4.v]⟩] W0 M fun v W' => v = .bool (decide (a = b ∧ q = r)) ∧ True := by
  apply callpoly_Same_1
  refine ⟨fun he => ratCmp_call h1 h2 hq hr hk hk fun W2 hE2 _ => ⟨_, rfl, fun W4 _ => ⟨?_, trivial⟩⟩, fun hne W5 _ => ⟨?_, trivial⟩⟩
  · have he := mon_cells.1 he
    congr 1
    rw [decide_eq_decide, cmpQ_zero]
    exact ⟨fun h => ⟨he, h⟩, fun h => h.2⟩
  · rw [decide_eq_false fun h => hne (mon_cells.2 h.1)]
theorem sameTm_call {W0 W : PW} {M : Nat → Prop} {a b : Mon} {s1 s2 s3 s4 : Sl} {b1 b2 : Bool} {q r : Rat} {k : Nat} {K : Value → PW → Prop} (h1 : IsRat 183 W s1 b1 s2 q) (h2 : IsRat 183 W s3 b2 s4 r) (hq : Sz k q) (hr : Sz k r) (hk : k ≤ 34359738368) (kont : ∀  (W' : PW), Ext W W' → (True) → K (.bool (decide (a = b ∧ q = r))) W') :
    callN Go.Proofs.Tryz.prog W0 M 77 [.agg ⟨[.int .u8 a.x, .int .u8 a.y, .int .u8 a.z, s1.v, .bool b1, s2.v]⟩, .agg ⟨[.int .u8 b.x, .int .u8 b.y, .int .u8 b.z, s3.v, .bool b2, s4.v]⟩] W K :=
  callN_of (fun W' hE => sameTm_ok (M := fun _ => False) (h1.ext hE) (h2.ext hE) hq hr hk) (fun W' v W'' hE hE' hP => by
    obtain ⟨rfl, h⟩ := hP
    exact kont  W'' (hE.trans hE') h)
theorem eqTms_ok {W0 : PW} {M : Nat → Prop} {s t : Sl} {p q : List Tm} {k : Nat} (h1 : IsPoly 183 45 W0 s p) (h2 : IsPoly 183 45 W0 t q) (hp : ∀ t ∈ p, Sz k t.2) (hq : ∀ t ∈ q, Sz k t.2) (hk : k ≤ 34359738368) (hl : p.length ≤ 1099511627776) :
    PCallsM Go.Proofs.Tryz.prog 76 [s.v, t.v, .func (.func 77) #[] #[]] W0 M fun v W' => v = .bool (decide (p = q)) ∧ True := by
  apply callslices_EqualFunc_poly_Term_poly_Term_poly_Term_poly_Term
  have n1 := h1.n
  have n2 := h2.n
  refine ⟨fun hne W1 _ => ⟨?_, trivial⟩, fun heq => ?_⟩
  · rw [decide_eq_false]
    rintro rfl
    omega
  have hlen : p.length = q.length := by omega
  refine ⟨fun L W => match L with | [.val (.int .i64 i)] => Ext W0 W ∧ ∃ j : Nat, i = (j : Int) ∧ j ≤ p.length ∧ p.take j = q.take j | _ => False, fun l _ => match l with | [.val (.int .i64 i)] => p.length - i.toNat | _ => 0, ⟨Ext.refl _, 0, rfl, by omega, rfl⟩, ?_⟩
  rintro i4 W5 ⟨hE, j, rfl, hj, ht⟩
  refine ⟨fun hlt => ?_, fun hge W22 _ => ⟨?_, trivial⟩⟩
  · have hjl : j < p.length := by omega
    have hjq : j < q.length := by omega
    have hP := h1.ext hE
    have hQ := h2.ext hE
    obtain ⟨o1, a1, b1, c1, e1, _, _, r1⟩ := hP.at (List.getElem?_eq_getElem hjl)
    obtain ⟨o2, a2, b2, c2, e2, _, _, r2⟩ := hQ.at (List.getElem?_eq_getElem hjq)
    refine ⟨hP.inB (by omega) (by omega), _, _, _, a1, b1, c1, e1, hQ.inB (by omega) (by omega), _, _, _, a2, b2, c2, e2, sameTm_call r1 r2 (hp _ (List.getElem_mem hjl)) (hq _ (List.getElem_mem hjq)) hk fun W19 hE19 _ => ⟨_, rfl, fun hno W21 _ => ⟨?_, trivial⟩, fun hyes => ⟨by unfold I64; omega, ⟨hE.trans hE19, j + 1, by push_cast; rfl, by omega, ?_⟩, ?_⟩⟩⟩
    · rw [decide_eq_false]
      rintro rfl
      simp at hno
    · rw [take_snocR hjl, take_snocR hjq, ht]
      have he : p[j].1 = q[j].1 ∧ p[j].2 = q[j].2 := by simpa using hyes
      rw [show p[j] = q[j] from Prod.ext he.1 he.2]
    · show p.length - Int.toNat ((j : Int) + 1) < p.length - Int.toNat (j : Int)
      omega
  · have : j = p.length := by omega
    subst this
    rw [List.take_length, hlen, List.take_length] at ht
    rw [decide_eq_true ht]
theorem eqTms_call {W0 W : PW} {M : Nat → Prop} {s t : Sl} {p q : List Tm} {k : Nat} {K : Value → PW → Prop} (h1 : IsPoly 183 45 W s p) (h2 : IsPoly 183 45 W t q) (hp : ∀ t ∈ p, Sz k t.2) (hq : ∀ t ∈ q, Sz k t.2) (hk : k ≤ 34359738368) (hl : p.length ≤ 1099511627776) (kont : ∀  (W' : PW), Ext W W' → (True) → K (.bool (decide (p = q))) W') :
    callN Go.Proofs.Tryz.prog W0 M 76 [s.v, t.v, .func (.func 77) #[] #[]] W K :=
  callN_of (fun W' hE => eqTms_ok (M := fun _ => False) (h1.ext hE) (h2.ext hE) hp hq hk hl) (fun W' v W'' hE hE' hP => by
    obtain ⟨rfl, h⟩ := hP
    exact kont  W'' (hE.trans hE') h)
theorem polySame_ok {W0 : PW} {M : Nat → Prop} {s t : Sl} {p q : List Tm} {k : Nat} (h1 : IsPoly 183 45 W0 s p) (h2 : IsPoly 183 45 W0 t q) (hp : ∀ t ∈ p, Sz k t.2) (hq : ∀ t ∈ q, Sz k t.2) (hk : k ≤ 34359738368) (hl : p.length ≤ 1099511627776) :
    PCallsM Go.Proofs.Tryz.prog 37 [.agg ⟨[s.v]⟩, .agg ⟨[t.v]⟩] W0 M fun v W' => v = .bool (decide (p = q)) ∧ True := by
  apply callpoly_Same
  exact eqTms_call h1 h2 hp hq hk hl fun W2 _ _ => ⟨_, rfl, fun W4 _ => ⟨rfl, trivial⟩⟩
theorem polySame_call {W0 W : PW} {M : Nat → Prop} {s t : Sl} {p q : List Tm} {k : Nat} {K : Value → PW → Prop} (h1 : IsPoly 183 45 W s p) (h2 : IsPoly 183 45 W t q) (hp : ∀ t ∈ p, Sz k t.2) (hq : ∀ t ∈ q, Sz k t.2) (hk : k ≤ 34359738368) (hl : p.length ≤ 1099511627776) (kont : ∀  (W' : PW), Ext W W' → (True) → K (.bool (decide (p = q))) W') :
    callN Go.Proofs.Tryz.prog W0 M 37 [.agg ⟨[s.v]⟩, .agg ⟨[t.v]⟩] W K :=
  callN_of (fun W' hE => polySame_ok (M := fun _ => False) (h1.ext hE) (h2.ext hE) hp hq hk hl) (fun W' v W'' hE hE' hP => by
    obtain ⟨rfl, h⟩ := hP
    exact kont  W'' (hE.trans hE') h)
end Go.Proofs.YtbingbjhgoanoaaGreat

/- cinctureref1: MonoVars, PolyDegree, PolyVars, Top; cincturelaw8.PolyTells. -/
set_option maxRecDepth 100000
set_option linter.unusedVariables false
set_option linter.unusedSimpArgs false
namespace Go.Proofs.YtbingbjhgoanoaaGreat
open Go Go.SX
def mvI (m : Mon) (L : List PL) : Prop := match L with
  | [.val (.int .i64 a), .val (.int .i64 i)] => ∃ k : Nat, i = (k : Int) ∧ k ≤ 3 ∧ a = (if 2 < k ∧ 0 < m.z then 3 else if 1 < k ∧ 0 < m.y then 2 else if 0 < k ∧ 0 < m.x then 1 else 0)
  | _ => False
theorem refMonoVars_ok {W0 : PW} {M : Nat → Prop} {m : Mon} (hm : m.ok) :
    PCallsM Go.Proofs.Tryz.prog 87 [.agg ⟨[.int .u8 m.x, .int .u8 m.y, .int .u8 m.z]⟩] W0 M fun v W' => v = .int .i64 (varsM m) ∧ True := by
  apply callref1_MonoVars
  refine ⟨fun L _ => mvI m L, fun L _ => match L with | [_, .val (.int .i64 i)] => 3 - i.toNat | _ => 0, ⟨0, rfl, by omega, rfl⟩, ?_⟩
  rintro i3 i4 W5 ⟨k, rfl, hk, rfl⟩
  refine ⟨fun hlt => ?_, fun hge W7 _ => ⟨?_, trivial⟩⟩
  · have hk3 : k < 3 := by omega
    have hmu : 3 - Int.toNat ((k : Int) + 1) < 3 - Int.toNat (k : Int) := by omega
    refine ⟨⟨by omega, by omega⟩, _, boxAt_mon m hk3 _ _ _ rfl rfl rfl, fun hp => ⟨by unfold I64; omega, by unfold I64; omega, ⟨k + 1, by push_cast; rfl, by omega, ?_⟩, hmu⟩, fun hp => ⟨by unfold I64; omega, ⟨k + 1, by push_cast; rfl, by omega, ?_⟩, hmu⟩⟩
    all_goals
      rcases (by omega : k = 0 ∨ k = 1 ∨ k = 2) with rfl | rfl | rfl <;> simp [eget] at hp ⊢ <;> (try simp [hp]) <;> (repeat' split) <;> first | rfl | omega
  · have : k = 3 := by omega
    subst this
    congr 1
    unfold varsM
    (repeat' split) <;> first | rfl | omega
theorem refMonoVars_call {W0 W : PW} {M : Nat → Prop} {m : Mon} {K : Value → PW → Prop} (hm : m.ok) (kont : ∀  (W' : PW), Ext W W' → (True) → K (.int .i64 (varsM m)) W') :
    callN Go.Proofs.Tryz.prog W0 M 87 [.agg ⟨[.int .u8 m.x, .int .u8 m.y, .int .u8 m.z]⟩] W K :=
  callN_of (fun W' hE => refMonoVars_ok (M := fun _ => False) hm) (fun W' v W'' hE hE' hP => by
    obtain ⟨rfl, h⟩ := hP
    exact kont  W'' (hE.trans hE') h)
def rdI (w : Mon → Int) (n : Int) (W0 : PW) (p : List Tm) (L : List PL) (W : PW) : Prop := match L with
  | [.val (.int .i64 a), .val (.int .i64 k)] => ∃ j : Nat, k = (j : Int) ∧ j ≤ p.length ∧ Ext W0 W ∧ a = maxf w n (p.take j)
  | _ => False
theorem refPolyDegree_ok {W0 : PW} {M : Nat → Prop} {s : Sl} {p : List Tm} (h : IsRPoly 183 47 W0 s p) (hl : p.length ≤ 1099511627776) :
    PCallsM Go.Proofs.Tryz.prog 28 [s.v] W0 M fun v W' => v = .int .i64 (maxf Mon.deg (-1) p) ∧ True := by
  apply callref1_PolyDegree
  have hn := h.n
  refine ⟨rdI Mon.deg (-1) W0 p, topM p, ⟨0, rfl, by omega, Ext.refl _, rfl⟩, ?_⟩
  rintro i3 i4 W5 ⟨j, rfl, hj, hE, rfl⟩
  refine ⟨fun hlt => ?_, fun hge W13 _ => ⟨?_, trivial⟩⟩
  · have hjl : j < p.length := by omega
    have hP := h.ext hE
    obtain ⟨k0, c1, d1, c2, _, e1, _, hr⟩ := hP.at (List.getElem?_eq_getElem hjl)
    have hmu : p.length - Int.toNat ((j : Int) + 1) < p.length - Int.toNat (j : Int) := by omega
    exact ⟨hP.inB (by omega) (by omega), _, _, _, e1, refDegree_call k0 fun W13 hE13 _ => ⟨_, rfl, by unfold I64; omega, ⟨j + 1, by push_cast; rfl, by omega, hE.trans hE13, by rw [take_snocR hjl, maxf_snoc]⟩, hmu⟩⟩
  · have : j = p.length := by omega
    subst this
    rw [List.take_length]
theorem refPolyDegree_call {W0 W : PW} {M : Nat → Prop} {s : Sl} {p : List Tm} {K : Value → PW → Prop} (h : IsRPoly 183 47 W s p) (hl : p.length ≤ 1099511627776) (kont : ∀  (W' : PW), Ext W W' → (True) → K (.int .i64 (maxf Mon.deg (-1) p)) W') :
    callN Go.Proofs.Tryz.prog W0 M 28 [s.v] W K :=
  callN_of (fun W' hE => refPolyDegree_ok (M := fun _ => False) (h.ext hE) hl) (fun W' v W'' hE hE' hP => by
    obtain ⟨rfl, h⟩ := hP
    exact kont  W'' (hE.trans hE') h)
theorem refPolyVars_ok {W0 : PW} {M : Nat → Prop} {s : Sl} {p : List Tm} (h : IsRPoly 183 47 W0 s p) (hl : p.length ≤ 1099511627776) :
    PCallsM Go.Proofs.Tryz.prog 54 [s.v] W0 M fun v W' => v = .int .i64 (maxf varsM 0 p) ∧ True := by
  apply callref1_PolyVars
  have hn := h.n
  refine ⟨rdI varsM 0 W0 p, topM p, ⟨0, rfl, by omega, Ext.refl _, rfl⟩, ?_⟩
  rintro i3 i4 W5 ⟨j, rfl, hj, hE, rfl⟩
  refine ⟨fun hlt => ?_, fun hge W13 _ => ⟨?_, trivial⟩⟩
  · have hjl : j < p.length := by omega
    have hP := h.ext hE
    obtain ⟨k0, c1, d1, c2, _, e1, _, hr⟩ := hP.at (List.getElem?_eq_getElem hjl)
    have hmu : p.length - Int.toNat ((j : Int) + 1) < p.length - Int.toNat (j : Int) := by omega
    exact ⟨hP.inB (by omega) (by omega), _, _, _, e1, refMonoVars_call k0 fun W13 hE13 _ => ⟨_, rfl, by unfold I64; omega, ⟨j + 1, by push_cast; rfl, by omega, hE.trans hE13, by rw [take_snocR hjl, maxf_snoc]⟩, hmu⟩⟩
  · have : j = p.length := by omega
    subst this
    rw [List.take_length]
theorem refPolyVars_call {W0 W : PW} {M : Nat → Prop} {s : Sl} {p : List Tm} {K : Value → PW → Prop} (h : IsRPoly 183 47 W s p) (hl : p.length ≤ 1099511627776) (kont : ∀  (W' : PW), Ext W W' → (True) → K (.int .i64 (maxf varsM 0 p)) W') :
    callN Go.Proofs.Tryz.prog W0 M 54 [s.v] W K :=
  callN_of (fun W' hE => refPolyVars_ok (M := fun _ => False) (h.ext hE) hl) (fun W' v W'' hE hE' hP => by
    obtain ⟨rfl, h⟩ := hP
    exact kont  W'' (hE.trans hE') h)
theorem maxf_zero {w : Mon → Int} (h : ∀ m, w m = 0) (p : List Tm) : maxf w 0 p = 0 := by
  have h1 := (le_maxf (w := w) (n := 0) (p := p)).1
  have h2 := maxf_le (w := w) (n := 0) (e := 0) (p := p) (Int.le_refl 0) fun t _ => by rw [h]; exact Int.le_refl 0
  omega
theorem topw_out {i : Int} (h : ¬ (0 ≤ i ∧ i < 3)) (m : Mon) : topw i m = 0 := by unfold topw; rw [if_neg h]
theorem rpolyCell {W : PW} {s : Sl} {p : List Tm} (h : IsRPoly 183 47 W s p) {j k : Nat} {t : Tm} (hj : p[j]? = some t) (hk : k < 3) : ElemAt W s 6 j (0 + Int.toNat (k : Int) * 1) [.int .u8 (eget t.1 k)] := by
  obtain ⟨xs, h1, h2⟩ := h
  obtain ⟨x, hx, h0, b, s1, s2, rfl, hq⟩ := h2.get hj
  refine h1.part hx _ ?_
  rcases (by omega : k = 0 ∨ k = 1 ∨ k = 2) with rfl | rfl | rfl <;> rfl
theorem refTop_ok {W0 : PW} {M : Nat → Prop} {s : Sl} {p : List Tm} {i : Int} (h : IsRPoly 183 47 W0 s p) (hl : p.length ≤ 1099511627776) :
    PCallsM Go.Proofs.Tryz.prog 53 [s.v, .int .i64 i] W0 M fun v W' => v = .int .i64 (maxf (topw i) 0 p) ∧ True := by
  apply callref1_Top
  have hn := h.n
  refine ⟨rdI (topw i) 0 W0 p, topM p, ⟨0, rfl, by omega, Ext.refl _, rfl⟩, ?_⟩
  rintro i3 i4 W5 ⟨j, rfl, hj, hE, rfl⟩
  refine ⟨fun hlt => ⟨fun h0 => ⟨fun h3 => ?_, fun h3 W7 _ => ⟨?_, trivial⟩⟩, fun h0 W8 _ => ⟨?_, trivial⟩⟩, fun hge W13 _ => ⟨?_, trivial⟩⟩
  · have hjl : j < p.length := by omega
    have hP := h.ext hE
    obtain ⟨k0, _⟩ := hP.at (List.getElem?_eq_getElem hjl)
    have hmu : p.length - Int.toNat ((j : Int) + 1) < p.length - Int.toNat (j : Int) := by omega
    obtain ⟨m, rfl⟩ := Int.eq_ofNat_of_zero_le h0
    have he := eget_ok k0 m
    refine ⟨hP.inB (by omega) (by omega), ⟨h0, h3⟩, _, rpolyCell hP (List.getElem?_eq_getElem hjl) (by omega), by unfold I64; omega, by unfold I64; omega, ⟨j + 1, by push_cast; rfl, by omega, hE, ?_⟩, hmu⟩
    rw [take_snocR hjl, maxf_snoc]
    congr 1
    unfold topw
    rw [if_pos ⟨h0, h3⟩, Int.toNat_natCast]
  · rw [maxf_zero (topw_out (by omega)), maxf_zero (topw_out (by omega))]
  · rw [maxf_zero (topw_out (by omega)), maxf_zero (topw_out (by omega))]
  · have : j = p.length := by omega
    subst this
    rw [List.take_length]
theorem refTop_call {W0 W : PW} {M : Nat → Prop} {s : Sl} {p : List Tm} {i : Int} {K : Value → PW → Prop} (h : IsRPoly 183 47 W s p) (hl : p.length ≤ 1099511627776) (kont : ∀  (W' : PW), Ext W W' → (True) → K (.int .i64 (maxf (topw i) 0 p)) W') :
    callN Go.Proofs.Tryz.prog W0 M 53 [s.v, .int .i64 i] W K :=
  callN_of (fun W' hE => refTop_ok (M := fun _ => False) (h.ext hE) hl) (fun W' v W'' hE hE' hP => by
    obtain ⟨rfl, h⟩ := hP
    exact kont  W'' (hE.trans hE') h)
theorem parseP_facts (L : List (Mon × ByteArray)) : PGood ((parseP L).getD []) ∧ ((parseP L).getD []).length ≤ L.length ∧ ∀ t ∈ (parseP L).getD [], Sz 4000 t.2 := by
  cases h : parseP L with
  | none => exact ⟨PGood.nil, Nat.zero_le _, fun t ht => by simp at ht⟩
  | some p =>
    have hp := parseP_is h
    exact ⟨hp.good, Nat.le_of_eq hp.len.symm, hp.sz⟩
def tlI (W0 : PW) (n : Nat) (L : List PL) (W : PW) : Prop := match L with
  | [.val (.int .i64 i)] => ∃ j : Nat, i = (j : Int) ∧ j ≤ n ∧ Ext W0 W
  | _ => False
theorem polyTells_ok {W0 : PW} {M : Nat → Prop} {s : Sl} {L : List (Mon × ByteArray)} {i : Int} (h1 : IsAPoly W0 s L) (l1 : L.length ≤ 1099511627776) (z1 : ∀ t ∈ L, t.2.size ≤ 1099511627776) :
    PCallsM Go.Proofs.Tryz.prog 13 [s.v, .int .i64 i] W0 M fun v W' => v = .bool true ∧ True := by
  apply calllaw8_PolyTells
  have hn := h1.n
  refine law8alive_call fun W2 hE2 _ => ⟨true, rfl, fun e => (by cases e), fun _ => ⟨fun _ W5 _ => ⟨rfl, trivial⟩, fun h30 => ⟨tlI W2 L.length, fun l _ => match l with | [.val (.int .i64 i)] => L.length - i.toNat | _ => 0, ⟨0, rfl, Nat.zero_le _, Ext.refl _⟩, ?_⟩⟩⟩
  rintro i8 W9 ⟨j, rfl, hj, hE9⟩
  have hL := h1.ext (hE2.trans hE9)
  refine ⟨fun hlt => ?_, fun hge => ?_⟩
  · have hjl : j < L.length := by omega
    obtain ⟨_, _, _, e3⟩ := hL.at (List.getElem?_eq_getElem hjl)
    refine ⟨hL.inB (by omega) (by omega), _, e3, fun _ W11 _ => ⟨rfl, trivial⟩, fun _ => ⟨by unfold I64; omega, ⟨j + 1, by push_cast; rfl, by omega, hE9⟩, ?_⟩⟩
    show L.length - Int.toNat ((j : Int) + 1) < L.length - Int.toNat (j : Int)
    omega
  · have hL' := hL
    obtain ⟨xs, hx1, hx2⟩ := hL'
    have hxl := hx2.len
    refine ⟨xs, hx1, by omega, fun s13 W14 hE14 hO _ => ?_⟩
    have hin : IsAPoly W14 s13 L := ⟨xs, ⟨_, hO.row⟩, hx2⟩
    have hlL : L.length ≤ 1099511627776 := l1
    refine polyParse_call hin hlL z1 fun s17 W16 hE16 hp => ⟨s17, _, rfl, ?_⟩
    refine refPolyParse_call (hL.ext (hE14.trans hE16)) hlL z1 fun s21 W20 hE20 hq => ⟨s21, _, rfl, ?_⟩
    have hin := hin.ext (hE16.trans hE20)
    have hl20 := hL.ext (hE14.trans (hE16.trans hE20))
    have hp := hp.ext hE20
    obtain ⟨fg, fl, fs⟩ := parseP_facts L
    have fb : Bd 200000 ((parseP L).getD []) := by
      refine (Bd.of_sz fs).mono ?_
      have : (parseP L |>.getD []).length ≤ 30 := by omega
      omega
    refine ⟨fun hne => ?_, fun _ => ⟨fun hno => ⟨fun hc => ?_, fun _ => ?_⟩, fun hyes => ?_⟩⟩
    · refine absurd ?_ hne
      unfold erP
      cases parseP L <;> simp
    · refine absurd ?_ hc
      unfold erP
      cases hh : parseP L with
      | none => simp
      | some p => rw [hh] at hno; simp at hno
    · refine sameTerms_call hin hl20 hlL fun W26 hE26 _ => ⟨true, rfl, fun e => (by cases e), fun _ => ?_⟩
      refine law8Is_call (hp.ext hE26) (hq.ext hE26) fs (by omega) (by omega) fun W30 hE30 _ => ⟨true, rfl, fun _ => ?_, fun e => (by cases e)⟩
      have hE := hE26.trans hE30
      refine polyDegree_call (hp.ext hE) (by omega) fun W33 hE33 _ => ⟨_, rfl, refPolyDegree_call (hq.ext (hE.trans hE33)) (by omega) fun W36 hE36 _ => ⟨_, rfl, fun _ => ?_, fun e => absurd (lastDeg_max fg hp.ok) e⟩⟩
      have hE := hE.trans (hE33.trans hE36)
      refine polyTop_call (hp.ext hE) (by omega) fun W39 hE39 _ => ⟨_, rfl, refTop_call (hq.ext (hE.trans hE39)) (by omega) fun W42 hE42 _ => ⟨_, rfl, fun _ => ?_, fun e => absurd rfl e⟩⟩
      have hE := hE.trans (hE39.trans hE42)
      refine polyVars_call (hp.ext hE) (by omega) fun W45 hE45 _ => ⟨_, rfl, refPolyVars_call (hq.ext (hE.trans hE45)) (by omega) fun W48 hE48 _ => ⟨_, rfl, fun _ => ?_, fun e => absurd rfl e⟩⟩
      have hE := hE.trans (hE45.trans hE48)
      have hp48 := hp.ext hE
      obtain ⟨xs, x1, x2⟩ := hp48
      have xl := x2.len
      refine polyTerms_call x1 (by omega) fun s52 W51 hE51 ⟨_, hO51⟩ => ⟨s52, rfl, fun _ => ?_, fun e => absurd (by rw [hO51.row.1, xl, hq.n]) e⟩
      refine polyTerms_call (x1.ext hE51) (by omega) fun s55 W54 hE54 ⟨_, hO54⟩ => ⟨s55, rfl, ?_⟩
      refine polyNew_call (isPoly_of hO54.row (x2.mono fun _ _ h => h.ext (hE51.trans hE54))) fb (by omega) (by omega) fun s58 W57 hE57 h58 => ⟨s58, rfl, ?_⟩
      rw [pnorm_of fg] at h58
      exact polySame_call (((hp.ext hE).ext (hE51.trans hE54)).ext hE57) h58 fs fs (by omega) (by omega) fun W60 hE60 _ => ⟨_, rfl, fun W62 _ => ⟨by rw [decide_eq_true rfl], trivial⟩⟩
    · refine sameTerms_call hin hl20 hlL fun W26 hE26 _ => ⟨true, rfl, fun e => (by cases e), fun _ => ?_⟩
      refine law8Is_call (hp.ext hE26) (hq.ext hE26) fs (by omega) (by omega) fun W30 hE30 _ => ⟨true, rfl, fun _ => ?_, fun e => (by cases e)⟩
      have hE := hE26.trans hE30
      refine polyDegree_call (hp.ext hE) (by omega) fun W33 hE33 _ => ⟨_, rfl, refPolyDegree_call (hq.ext (hE.trans hE33)) (by omega) fun W36 hE36 _ => ⟨_, rfl, fun _ => ?_, fun e => absurd (lastDeg_max fg hp.ok) e⟩⟩
      have hE := hE.trans (hE33.trans hE36)
      refine polyTop_call (hp.ext hE) (by omega) fun W39 hE39 _ => ⟨_, rfl, refTop_call (hq.ext (hE.trans hE39)) (by omega) fun W42 hE42 _ => ⟨_, rfl, fun _ => ?_, fun e => absurd rfl e⟩⟩
      have hE := hE.trans (hE39.trans hE42)
      refine polyVars_call (hp.ext hE) (by omega) fun W45 hE45 _ => ⟨_, rfl, refPolyVars_call (hq.ext (hE.trans hE45)) (by omega) fun W48 hE48 _ => ⟨_, rfl, fun _ => ?_, fun e => absurd rfl e⟩⟩
      have hE := hE.trans (hE45.trans hE48)
      have hp48 := hp.ext hE
      obtain ⟨xs, x1, x2⟩ := hp48
      have xl := x2.len
      refine polyTerms_call x1 (by omega) fun s52 W51 hE51 ⟨_, hO51⟩ => ⟨s52, rfl, fun _ => ?_, fun e => absurd (by rw [hO51.row.1, xl, hq.n]) e⟩
      refine polyTerms_call (x1.ext hE51) (by omega) fun s55 W54 hE54 ⟨_, hO54⟩ => ⟨s55, rfl, ?_⟩
      refine polyNew_call (isPoly_of hO54.row (x2.mono fun _ _ h => h.ext (hE51.trans hE54))) fb (by omega) (by omega) fun s58 W57 hE57 h58 => ⟨s58, rfl, ?_⟩
      rw [pnorm_of fg] at h58
      exact polySame_call (((hp.ext hE).ext (hE51.trans hE54)).ext hE57) h58 fs fs (by omega) (by omega) fun W60 hE60 _ => ⟨_, rfl, fun W62 _ => ⟨by rw [decide_eq_true rfl], trivial⟩⟩
theorem polyTells_call {W0 W : PW} {M : Nat → Prop} {s : Sl} {L : List (Mon × ByteArray)} {i : Int} {K : Value → PW → Prop} (h1 : IsAPoly W s L) (l1 : L.length ≤ 1099511627776) (z1 : ∀ t ∈ L, t.2.size ≤ 1099511627776) (kont : ∀  (W' : PW), Ext W W' → (True) → K (.bool true) W') :
    callN Go.Proofs.Tryz.prog W0 M 13 [s.v, .int .i64 i] W K :=
  callN_of (fun W' hE => polyTells_ok (M := fun _ => False) (h1.ext hE) l1 z1) (fun W' v W'' hE hE' hP => by
    obtain ⟨rfl, h⟩ := hP
    exact kont  W'' (hE.trans hE') h)
end Go.Proofs.YtbingbjhgoanoaaGreat

/- An argument that is a slice of terms with texts, opened. -/
set_option maxRecDepth 100000
set_option linter.unusedVariables false
set_option linter.unusedSimpArgs false
namespace Go.Proofs.YtbingbjhgoanoaaGreat
open Go Go.SX Go.ChangeShapes Go.WideShapes Go.ChangeAt Go.RowKit Go.Deep
instance : Inhabited (Mon × ByteArray) := ⟨(⟨0, 0, 0⟩, ⟨#[]⟩)⟩
theorem ownKnob_none : ownKnob Go.Proofs.Tryz.prog.godebug = none := by kernel_rfl
theorem laidOut : laidOutB Go.Proofs.Tryz.prog = true := by kernel_rfl
theorem cells_term : Go.Proofs.Tryz.prog.cellsOf 43 = 4 := by kernel_rfl
theorem cells_mono : Go.Proofs.Tryz.prog.cellsOf 41 = 3 := by kernel_rfl
theorem cells_str : Go.Proofs.Tryz.prog.cellsOf 9 = 1 := by kernel_rfl
theorem cells_u8 : Go.Proofs.Tryz.prog.cellsOf 5 = 1 := by kernel_rfl
theorem cell_block {W : World} {b o : Nat} {v : Value} (h : W.cell? ⟨b, o, none⟩ = some v) : ∃ cs t fz, W.heap[b]? = some (.cells cs t fz) ∧ cs[o]? = some v := by
  unfold World.cell? at h
  cases e : W.heap[b]? with
  | none => simp [e] at h
  | some ob =>
    cases ob with
    | cells cs t fz => exact ⟨cs, t, fz, rfl, by simpa [e] using h⟩
    | _ => simp [e] at h
theorem bulk_one {H : Type} (d : DataW H) : 1 ≤ Rows.uptoBulk d := by
  cases d with
  | lit l => cases l <;> simp [Rows.uptoBulk]
  | nil => simp [Rows.uptoBulk]
  | ptr d => simp [Rows.uptoBulk]
  | slice elems spare => simp [Rows.uptoBulk]
  | agg parts => simp [Rows.uptoBulk]
  | iface t d => simp [Rows.uptoBulk]
  | map entries => simp [Rows.uptoBulk]
  | held h => simp [Rows.uptoBulk]
theorem bulk_part {H : Type} {d : DataW H} {l : List (DataW H)} (h : d ∈ l) : Rows.uptoBulk d ≤ Rows.uptoBulkAll l := by
  induction l with
  | nil => cases h
  | cons x r ih =>
    simp only [Rows.uptoBulkAll]
    cases List.mem_cons.1 h with
    | inl e => subst e; omega
    | inr e => have := ih e; omega
theorem bulk_length {H : Type} (l : List (DataW H)) : l.length ≤ Rows.uptoBulkAll l := by
  induction l with
  | nil => simp [Rows.uptoBulkAll]
  | cons x r ih => have := bulk_one x; simp only [Rows.uptoBulkAll, List.length_cons]; omega
/-- Rows of sz cells each. -/
theorem rowA_of_cellsN {W : World} {a : Addr} {n c sz : Nat} {V : Nat → List Value} (h : ∀ j, j < n → ∀ i v, (V j)[i]? = some v → W.cell? (a.add (j * sz + i)) = some v) (hV : ∀ j, j < n → (V j).length = sz) (hsz : 0 < sz) (hn : n ≤ c) (hc : c ≤ maxLen) (h1 : ∀ j, j < n → ∀ u ∈ V j, u.oneCell' = true) :
    RowA ⟨W, fun _ => False⟩ sz ⟨some a, n, c⟩ ((List.range n).map V) := by
  have hel : ∀ x ∈ (List.range n).map V, x.length = sz ∧ ∀ u ∈ x, u.oneCell' = true := by
    intro x hx
    obtain ⟨j, hj, rfl⟩ := List.mem_map.1 hx
    exact ⟨hV j (List.mem_range.1 hj), h1 j (List.mem_range.1 hj)⟩
  by_cases h0 : n = 0
  · subst h0
    exact ⟨0, rfl, Nat.zero_le _, hc, hel, .inl rfl⟩
  · obtain ⟨b, off, sp⟩ := a
    have hlen0 := hV 0 (by omega)
    obtain ⟨v0, hv0⟩ : ∃ v, (V 0)[0]? = some v := ⟨_, List.getElem?_eq_getElem (by omega)⟩
    have hc0 := h 0 (by omega) 0 v0 hv0
    have hsp : sp = none := by simpa [Addr.add] using World.cell?_spot hc0
    subst hsp
    obtain ⟨cs, t, fz, hh, _⟩ := cell_block (by rw [← add_plain]; exact hc0)
    refine ⟨t, by simp, hn, hc, hel, .inr ⟨b, off, cs, fz, rfl, id, hh, fun j v hj => ?_⟩⟩
    have hjl := (List.getElem?_eq_some_iff.1 hj).1
    rw [flatten_length (sz := sz) (fun x hx => (hel x hx).1)] at hjl
    simp only [List.length_map, List.length_range] at hjl
    have hi : j / sz < n := (Nat.div_lt_iff_lt_mul hsz).2 hjl
    have hm : j % sz < sz := Nat.mod_lt _ hsz
    have e : j / sz * sz + j % sz = j := by rw [Nat.mul_comm]; exact Nat.div_add_mod j sz
    have hx : ((List.range n).map V)[j / sz]? = some (V (j / sz)) := by simp [hi]
    have hl := hV _ hi
    have hf := flatten_at (sz := sz) (fun x hx => (hel x hx).1) hx (j := j % sz) (v := (V (j / sz))[j % sz]'(by omega)) (List.getElem?_eq_getElem (by omega))
    rw [e, hj] at hf
    have hcell := h _ hi (j % sz) v (by rw [hf]; exact List.getElem?_eq_getElem (by omega))
    rw [e, add_plain] at hcell
    obtain ⟨cs', t', fz', hh', hv⟩ := cell_block hcell
    rw [hh] at hh'
    cases hh'
    exact hv
theorem u8_ok {n : Int} (h : (Lit.int .u8 n).wf = true) : 0 ≤ n ∧ n ≤ 255 := by
  simp [Lit.wf, IntKind.min, IntKind.max, IntKind.bits, IntKind.signed] at h
  omega
/-- An element. -/
theorem open_term {H : Type} {enc : TypeId × Value → H} {W : World} {fuel : Nat} {cs : List Value} {x : DataW H × List MemPlace} (h : DataW.trod enc Go.Proofs.Tryz.prog W 0 (fun _ => true) true fuel 43 cs = some x) :
    ∃ t : Mon × ByteArray, AT cs t ∧ t.2.size ≤ Rows.uptoBulk x.1 := by
  obtain ⟨xs, k, rfl, rfl, hl, hxl, hf⟩ := DataW.trod_struct Go.Proofs.Tryz.underlying43 h
  rw [cells_term] at hl
  have g0 : DataW.trod enc Go.Proofs.Tryz.prog W 0 (fun _ => true) true k 41 ((cs.drop 0).take (Go.Proofs.Tryz.prog.cellsOf 41)) = xs[0]? := hf 0 _ rfl
  have g1 : DataW.trod enc Go.Proofs.Tryz.prog W 0 (fun _ => true) true k 9 ((cs.drop 3).take (Go.Proofs.Tryz.prog.cellsOf 9)) = xs[1]? := hf 1 _ rfl
  rw [cells_mono] at g0
  rw [cells_str] at g1
  match cs, hl, xs, hxl with
  | [v0, v1, v2, v3], _, [y0, y1], _ =>
    have g0 : DataW.trod enc Go.Proofs.Tryz.prog W 0 (fun _ => true) true k 41 [v0, v1, v2] = some y0 := g0
    have g1 : DataW.trod enc Go.Proofs.Tryz.prog W 0 (fun _ => true) true k 9 [v3] = some y1 := g1
    obtain ⟨zs, m, rfl, rfl, _, hzl, hz⟩ := DataW.trod_array Go.Proofs.Tryz.underlying41 g0
    obtain ⟨s, hs, rfl, hsz⟩ := DataW.trod_string Go.Proofs.Tryz.underlying9 g1
    have e0 := hz 0 (by omega)
    have e1 := hz 1 (by omega)
    have e2 := hz 2 (by omega)
    rw [cells_u8] at e0 e1 e2
    match zs, hzl with
    | [w0, w1, w2], _ =>
      have e0 : DataW.trod enc Go.Proofs.Tryz.prog W 0 (fun _ => true) true m 5 [v0] = some w0 := e0
      have e1 : DataW.trod enc Go.Proofs.Tryz.prog W 0 (fun _ => true) true m 5 [v1] = some w1 := e1
      have e2 : DataW.trod enc Go.Proofs.Tryz.prog W 0 (fun _ => true) true m 5 [v2] = some w2 := e2
      obtain ⟨n0, h0, _, k0⟩ := DataW.trod_int Go.Proofs.Tryz.underlying5 e0
      obtain ⟨n1, h1, _, k1⟩ := DataW.trod_int Go.Proofs.Tryz.underlying5 e1
      obtain ⟨n2, h2, _, k2⟩ := DataW.trod_int Go.Proofs.Tryz.underlying5 e2
      have hs : [v3] = [Value.string s] := hs
      have h0 : [v0] = [Value.int .u8 n0] := h0
      have h1 : [v1] = [Value.int .u8 n1] := h1
      have h2 : [v2] = [Value.int .u8 n2] := h2
      simp only [List.cons.injEq, and_true] at hs h0 h1 h2
      subst hs h0 h1 h2
      refine ⟨(⟨n0, n1, n2⟩, s), ⟨⟨u8_ok k0, u8_ok k1, u8_ok k2⟩, rfl⟩, ?_⟩
      have e : s.data.toList.length = s.size := by rw [Array.length_toList]; rfl
      simp only [List.map_cons, List.map_nil, Rows.uptoBulk, Rows.uptoBulkAll]
      omega
theorem all2_map {n : Nat} {V : Nat → List Value} {y : Nat → Mon × ByteArray} (h : ∀ i, i < n → AT (V i) (y i)) : All2 AT ((List.range n).map V) ((List.range n).map y) := by
  induction n with
  | zero => trivial
  | succ n ih =>
    rw [List.range_succ, List.map_append, List.map_append]
    exact (ih fun i hi => h i (by omega)).append ⟨h n (by omega), trivial⟩
theorem open_terms {H : Type} {enc : TypeId × Value → H} {W : World} {fuel : Nat} {v : Value} {d : DataW H} {p : List MemPlace} (h : DataW.trod enc Go.Proofs.Tryz.prog W 0 (fun _ => true) true fuel 22 [v] = some (d, p)) :
    ∃ (s : Sl) (L : List (Mon × ByteArray)), v = s.v ∧ IsAPoly ⟨W, fun _ => False⟩ s L ∧ L.length ≤ Rows.uptoBulk d ∧ ∀ t ∈ L, t.2.size ≤ Rows.uptoBulk d := by
  rcases open_slice Go.Proofs.Tryz.underlying22 h with ⟨hcs, hx⟩ | ⟨a, len, cap, m, n, D, Pl, hcs, _, hl, hm, hmm, hx, hcell⟩
  · have hv : v = .slice none 0 0 := by simpa using hcs
    subst hv
    exact ⟨⟨none, 0, 0⟩, [], rfl, ⟨[], ⟨0, rfl, Nat.le_refl _, Nat.zero_le _, fun x h => by simp at h, .inl rfl⟩, trivial⟩, Nat.zero_le _, fun l h => by simp at h⟩
  · have hv : v = .slice (some a) len cap := by simpa using hcs
    subst hv
    simp only [if_true] at hmm
    subst hmm
    simp only [Prod.mk.injEq] at hx
    obtain ⟨rfl, _⟩ := hx
    rw [cells_term] at hcell
    obtain ⟨q, hq⟩ : ∃ q : Nat → List Value × (Mon × ByteArray), ∀ i, i < m → W.cells? 0 (a.add (i * 4)) 4 = some (q i).1 ∧ AT (q i).1 (q i).2 ∧ (q i).2.2.size ≤ Rows.uptoBulk (D i) := choose_lt (α := List Value × (Mon × ByteArray)) (p := fun i q => W.cells? 0 (a.add (i * 4)) 4 = some q.1 ∧ AT q.1 q.2 ∧ q.2.2.size ≤ Rows.uptoBulk (D i)) fun i hi => by
      obtain ⟨cs', h1, h2⟩ := hcell i hi
      obtain ⟨t, h3, h4⟩ := open_term h2
      exact ⟨(cs', t), h1, h3, h4⟩
    have hr := rowA_of_cellsN (W := W) (a := a) (n := len) (c := m) (sz := 4) (V := fun i => (q i).1) (fun j hj i v hv => by
      obtain ⟨_, hlen, hc⟩ := World.cells?_some (hq j (by omega)).1
      have hi : i < 4 := by have := (List.getElem?_eq_some_iff.1 hv).1; omega
      have := hc i hi
      rw [add_add] at this
      rw [this]; exact hv) (fun j hj => (World.cells?_some (hq j (by omega)).1).2.1) (by omega) hl hm (fun j hj u hu => by
      rw [(hq j (by omega)).2.1.2] at hu
      simp only [List.mem_cons, List.not_mem_nil, or_false] at hu
      rcases hu with rfl | rfl | rfl | rfl <;> rfl)
    have hbulk : ∀ i, i < len → Rows.uptoBulk (D i) ≤ Rows.uptoBulkAll ((List.range len).map D) := fun i hi => bulk_part (List.mem_map.2 ⟨i, List.mem_range.2 hi, rfl⟩)
    have hlen := bulk_length ((List.range len).map D)
    simp only [List.length_map, List.length_range] at hlen
    refine ⟨⟨some a, len, m⟩, (List.range len).map fun i => (q i).2, rfl, ⟨_, hr, all2_map fun i hi => (hq i (by omega)).2.1⟩, ?_, fun t ht => ?_⟩
    · simp only [List.length_map, List.length_range, Rows.uptoBulk]
      omega
    · obtain ⟨j, hj, rfl⟩ := List.mem_map.1 ht
      have hj' := List.mem_range.1 hj
      have h1 := hbulk j hj'
      have h2 := (hq j (by omega)).2.2
      simp only [Rows.uptoBulk]
      omega
end Go.Proofs.YtbingbjhgoanoaaGreat

/- cincturelaw8.PolyTells answers true for every input whose bulk is at most 1048576 (the second form), and its arguments read behind the call as they did ahead of it. -/
set_option maxRecDepth 100000
set_option linter.unusedVariables false
set_option linter.unusedSimpArgs false
namespace Go.Proofs.YtbingbjhgoanoaaGreat
open Go Go.SX Go.ChangeShapes Go.WideShapes Go.ChangeAt Go.RowKit Go.Deep
/-- What the walk gives, for every argument within the bound. -/
theorem contract (H : Type) (enc : TypeId × Value → H) (W : World) (base : Nat) (args : Array Value) (ds gs : List (DataW H)) (before : List MemPlace)
    (hval : ∀ (j : Nat) t v, Go.Proofs.Tryz.f13.params[j]? = some t → args[j]? = some v → Value.okWide Go.Proofs.Tryz.prog W .any base t v)
    (hW : DataW.Whole enc Go.Proofs.Tryz.prog Go.Proofs.Tryz.f13.params.toList Rows.polyTellsSpec.vars false W args.toList ds gs before) (hk : Rows.uptoSmall H (ds ++ gs) = true) :
    Calls Go.Proofs.Tryz.prog 13 args W fun e W' => ∃ v, e = .returned v ∧ Rows.polyTellsSpec.post enc Go.Proofs.Tryz.prog Go.Proofs.Tryz.f13 false true false false W args v W' := by
  have hW' := hW
  obtain ⟨p, q, hA0, hV, rfl, hfz, hnd⟩ := hW
  have hA : DataW.TrodAll enc Go.Proofs.Tryz.prog W 0 (fun _ => true) true Go.Proofs.Tryz.f13.params.toList args.toList ds p := hA0
  rw [Go.Proofs.Tryz.params13] at hA hval
  obtain ⟨v0, vs0, d0, ds0, p0, q0, hargs, rfl, rfl, h0, r0⟩ := trodAll_cons hA
  obtain ⟨v1, vs1, d1, ds1, p1, q1, rfl, rfl, rfl, h1, r1⟩ := trodAll_cons r0
  obtain ⟨rfl, rfl, rfl⟩ := trodAll_nil r1
  obtain rfl : args = #[v0, v1] := by cases args; simp_all
  obtain ⟨rfl, rfl⟩ := trodVars_none hV
  obtain ⟨a0, n0, c0, rfl⟩ := okWide_slice Go.Proofs.Tryz.underlying22 (hval 0 22 v0 rfl rfl)
  obtain ⟨z1, rfl⟩ := okWide_int Go.Proofs.Tryz.underlying3 (hval 1 3 v1 rfl rfl)
  clear hA0
  simp only [List.append_nil] at hW' hk
  have hlt : ∀ x ∈ p0 ++ p1, x.block < W.heap.size := fun x hx => by simpa using hW'.lt x (by simpa using hx)
  have hbulk : Rows.uptoBulkAll [d0, d1] ≤ 1048576 := of_decide_eq_true hk
  simp only [Rows.uptoBulkAll] at hbulk
  have h0k := h0
  obtain ⟨fuel0, hf0⟩ := h0
  have hf0' : DataW.trod enc Go.Proofs.Tryz.prog W 0 (fun _ => true) true fuel0 22 [.slice a0 n0 c0] = some (d0, p0) := by simpa [Value.cells] using hf0
  obtain ⟨s0, L0, hs0, hL0, hb0, hc0⟩ := open_terms hf0'
  have h1k := h1
  have hc := polyTells_ok (M := fun _ => False) (i := z1) hL0 (by omega) (fun t ht => by have := hc0 t ht; omega)
  have hcall := hc.2 (fun b h => h.elim)
  rw [hs0]
  refine hcall.mono fun e W' ⟨v, he, hkeep, hv, _⟩ => ⟨v, he, ?_⟩
  subst hv
  have hbel := hkeep.below
  refine ⟨[d0, d1], [], _, [], p0 ++ p1, [], (by rw [← hs0]; simpa using hW'), trodAll_mk1 (shut_bool Go.Proofs.Tryz.underlying4 _), (by rw [← hs0]; exact trodAll_mk2 (Below.trod laidOut (by kernel_rfl) (of_decide_eq_true (by kernel_rfl)) h0k hbel fun x hx => hlt x (by simp [hx])) (Below.trod laidOut (by kernel_rfl) (of_decide_eq_true (by kernel_rfl)) h1k hbel fun x hx => hlt x (by simp [hx]))), rfl, hbel.frame _, fun h => by cases h⟩
theorem lifted (os : Os) (started : os.Started) (H : Type) (enc : TypeId × Value → H) (F : Stop.Interp) :
    ReturnsInHanded {} Go.Proofs.Tryz.checked os 13 .any ((Rows.OpenSpec.upto Rows.polyTellsSpec).pre6 enc Go.Proofs.Tryz.prog Go.Proofs.Tryz.f13 Rows.polyTellsUptoRow.domain false) (((Rows.OpenSpec.upto Rows.polyTellsSpec).at F).post enc Go.Proofs.Tryz.prog Go.Proofs.Tryz.f13 false true false false) := by
  refine returnsInHanded_of_cond (C := Go.Proofs.Tryz.checked) (s := Rows.OpenSpec.upto Rows.polyTellsSpec) (k := Rows.uptoSmall) rfl ownKnob_none started (by kernel_rfl) Go.Proofs.Tryz.func13
    (OpenSpec.witness (enc := enc) (C := Go.Proofs.Tryz.checked) (s := Rows.OpenSpec.upto Rows.polyTellsSpec) (k := Rows.uptoSmall) rfl false ⟨#[], #[.slice none 0 0, .int .i64 0], []⟩ 8 (by kernel_rfl) (by kernel_rfl) (by kernel_rfl)
      (x := ([.nil, .lit (.int .i64 0)], [], [])) (by kernel_rfl) rfl (by kernel_rfl)) ?_
  intro W base args ds gs before hval hW _ hk _
  exact contract H enc W base args ds gs before hval hW hk
theorem polyTells_holds : Rows.PolyTellsUptoSaid :=
  OpenClaim.holds_of_cond 13 Go.Proofs.Tryz.f13 rfl rfl rfl rfl rfl rfl rfl ⟨rfl, rfl, rfl, rfl, rfl⟩ rfl rfl rfl rfl rfl (by kernel_rfl) Go.Proofs.Tryz.func13 (by kernel_rfl)
    (of_decide_eq_true (by kernel_rfl)) (by unfold Func.isWrapper; first | (rw [if_pos (by decide +kernel)]; kernel_rfl) | (rw [if_neg (by decide +kernel)]; exact ⟨rfl, rfl⟩))
    (fun os started H enc _ F => lifted os started H enc F)
#print axioms polyTells_holds
end Go.Proofs.YtbingbjhgoanoaaGreat
