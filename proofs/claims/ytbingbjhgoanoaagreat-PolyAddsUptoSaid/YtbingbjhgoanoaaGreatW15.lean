/- poly.Same. -/
import Derived.Test.YtbingbjhgoanoaaGreatW14
import Derived.Test.YtbingbjhgoanoaaGreatR15
import Derived.Test.YtbingbjhgoanoaaGreatR16
import Derived.Test.YtbingbjhgoanoaaGreatLib3
import Derived.Test.YtbingbjhgoanoaaGreatRows
import Derived.WalkKit
import Derived.ProofKit
import Derived.OpenShut
import Derived.JoinedCond
import Derived.Carry
import Derived.Deep.Slices
set_option linter.unusedVariables false
set_option linter.unusedSimpArgs false
set_option maxRecDepth 100000
set_option linter.unusedVariables false
set_option linter.unusedSimpArgs false
namespace Go.Proofs.YtbingbjhgoanoaaGreat
open Go Go.SX
theorem sameTm_ok {W0 : PW} {M : Nat → Prop} {a b : Mon} {s1 s2 s3 s4 : Sl} {b1 b2 : Bool} {q r : Rat} {k : Nat} (h1 : IsRat 183 W0 s1 b1 s2 q) (h2 : IsRat 183 W0 s3 b2 s4 r) (hq : Sz k q) (hr : Sz k r) (hk : k ≤ 34359738368) :
    PCallsM Go.Proofs.Tryz.prog 77 [.agg ⟨[.int .u8 a.x, .int .u8 a.y, .int .u8 a.z, s1.v, .bool b1, s2.v]⟩, .agg ⟨[.int .u8 b.x, .int .u8 b.y, .int .u8 b.z, s3.v, .bool b2, s4.v]⟩] W0 M fun v W' => v = .bool (decide (a = b ∧ q = r)) ∧ True := by
  apply callpoly_Same_1
  refine ⟨fun he => ratCmp_call h1 h2 hq hr hk hk fun W2 hE2 _ => ⟨_, rfl, fun W4 _ => ⟨?_, trivial⟩⟩, fun hne W5 _ => ⟨?_, trivial⟩⟩
  · have he := mon_cells.1 he
    congr 1
    rw [decide_eq_decide, cmpQ_zero]
    exact ⟨fun h => ⟨he, h⟩, fun h => h.2⟩
  · rw [decide_eq_false fun h => hne (mon_cells.2 h.1)]
theorem sameTm_call {W0 W : PW} {M : Nat → Prop} {a b : Mon} {s1 s2 s3 s4 : Sl} {b1 b2 : Bool} {q r : Rat} {k : Nat} {K : Value → PW → Prop} (h1 : IsRat 183 W s1 b1 s2 q) (h2 : IsRat 183 W s3 b2 s4 r) (hq : Sz k q) (hr : Sz k r) (hk : k ≤ 34359738368) (kont : ∀  (W' : PW), Ext W W' → (True) → K (.bool (decide (a = b ∧ q = r))) W') :
    callN Go.Proofs.Tryz.prog W0 M 77 [.agg ⟨[.int .u8 a.x, .int .u8 a.y, .int .u8 a.z, s1.v, .bool b1, s2.v]⟩, .agg ⟨[.int .u8 b.x, .int .u8 b.y, .int .u8 b.z, s3.v, .bool b2, s4.v]⟩] W K :=
  callN_of (fun W' hE => sameTm_ok (M := fun _ => False) (h1.ext hE) (h2.ext hE) hq hr hk) (fun W' v W'' hE hE' hP => by
    obtain ⟨rfl, h⟩ := hP
    exact kont  W'' (hE.trans hE') h)
theorem eqTms_ok {W0 : PW} {M : Nat → Prop} {s t : Sl} {p q : List Tm} {k : Nat} (h1 : IsPoly 183 45 W0 s p) (h2 : IsPoly 183 45 W0 t q) (hp : ∀ t ∈ p, Sz k t.2) (hq : ∀ t ∈ q, Sz k t.2) (hk : k ≤ 34359738368) (hl : p.length ≤ 1099511627776) :
    PCallsM Go.Proofs.Tryz.prog 76 [s.v, t.v, .func (.func 77) #[] #[]] W0 M fun v W' => v = .bool (decide (p = q)) ∧ True := by
  apply callslices_EqualFunc_poly_Term_poly_Term_poly_Term_poly_Term
  have n1 := h1.n
  have n2 := h2.n
  refine ⟨fun hne W1 _ => ⟨?_, trivial⟩, fun heq => ?_⟩
  · rw [decide_eq_false]
    rintro rfl
    omega
  have hlen : p.length = q.length := by omega
  refine ⟨fun L W => match L with | [.val (.int .i64 i)] => Ext W0 W ∧ ∃ j : Nat, i = (j : Int) ∧ j ≤ p.length ∧ p.take j = q.take j | _ => False, fun l _ => match l with | [.val (.int .i64 i)] => p.length - i.toNat | _ => 0, ⟨Ext.refl _, 0, rfl, by omega, rfl⟩, ?_⟩
  rintro i4 W5 ⟨hE, j, rfl, hj, ht⟩
  refine ⟨fun hlt => ?_, fun hge W22 _ => ⟨?_, trivial⟩⟩
  · have hjl : j < p.length := by omega
    have hjq : j < q.length := by omega
    have hP := h1.ext hE
    have hQ := h2.ext hE
    obtain ⟨o1, a1, b1, c1, e1, _, _, r1⟩ := hP.at (List.getElem?_eq_getElem hjl)
    obtain ⟨o2, a2, b2, c2, e2, _, _, r2⟩ := hQ.at (List.getElem?_eq_getElem hjq)
    refine ⟨hP.inB (by omega) (by omega), _, _, _, a1, b1, c1, e1, hQ.inB (by omega) (by omega), _, _, _, a2, b2, c2, e2, sameTm_call r1 r2 (hp _ (List.getElem_mem hjl)) (hq _ (List.getElem_mem hjq)) hk fun W19 hE19 _ => ⟨_, rfl, fun hno W21 _ => ⟨?_, trivial⟩, fun hyes => ⟨by unfold I64; omega, ⟨hE.trans hE19, j + 1, by push_cast; rfl, by omega, ?_⟩, ?_⟩⟩⟩
    · rw [decide_eq_false]
      rintro rfl
      simp at hno
    · rw [take_snocR hjl, take_snocR hjq, ht]
      have he : p[j].1 = q[j].1 ∧ p[j].2 = q[j].2 := by simpa using hyes
      rw [show p[j] = q[j] from Prod.ext he.1 he.2]
    · show p.length - Int.toNat ((j : Int) + 1) < p.length - Int.toNat (j : Int)
      omega
  · have : j = p.length := by omega
    subst this
    rw [List.take_length, hlen, List.take_length] at ht
    rw [decide_eq_true ht]
theorem eqTms_call {W0 W : PW} {M : Nat → Prop} {s t : Sl} {p q : List Tm} {k : Nat} {K : Value → PW → Prop} (h1 : IsPoly 183 45 W s p) (h2 : IsPoly 183 45 W t q) (hp : ∀ t ∈ p, Sz k t.2) (hq : ∀ t ∈ q, Sz k t.2) (hk : k ≤ 34359738368) (hl : p.length ≤ 1099511627776) (kont : ∀  (W' : PW), Ext W W' → (True) → K (.bool (decide (p = q))) W') :
    callN Go.Proofs.Tryz.prog W0 M 76 [s.v, t.v, .func (.func 77) #[] #[]] W K :=
  callN_of (fun W' hE => eqTms_ok (M := fun _ => False) (h1.ext hE) (h2.ext hE) hp hq hk hl) (fun W' v W'' hE hE' hP => by
    obtain ⟨rfl, h⟩ := hP
    exact kont  W'' (hE.trans hE') h)
theorem polySame_ok {W0 : PW} {M : Nat → Prop} {s t : Sl} {p q : List Tm} {k : Nat} (h1 : IsPoly 183 45 W0 s p) (h2 : IsPoly 183 45 W0 t q) (hp : ∀ t ∈ p, Sz k t.2) (hq : ∀ t ∈ q, Sz k t.2) (hk : k ≤ 34359738368) (hl : p.length ≤ 1099511627776) :
    PCallsM Go.Proofs.Tryz.prog 37 [.agg ⟨[s.v]⟩, .agg ⟨[t.v]⟩] W0 M fun v W' => v = .bool (decide (p = q)) ∧ True := by
  apply callpoly_Same
  exact eqTms_call h1 h2 hp hq hk hl fun W2 _ _ => ⟨_, rfl, fun W4 _ => ⟨rfl, trivial⟩⟩
theorem polySame_call {W0 W : PW} {M : Nat → Prop} {s t : Sl} {p q : List Tm} {k : Nat} {K : Value → PW → Prop} (h1 : IsPoly 183 45 W s p) (h2 : IsPoly 183 45 W t q) (hp : ∀ t ∈ p, Sz k t.2) (hq : ∀ t ∈ q, Sz k t.2) (hk : k ≤ 34359738368) (hl : p.length ≤ 1099511627776) (kont : ∀  (W' : PW), Ext W W' → (True) → K (.bool (decide (p = q))) W') :
    callN Go.Proofs.Tryz.prog W0 M 37 [.agg ⟨[s.v]⟩, .agg ⟨[t.v]⟩] W K :=
  callN_of (fun W' hE => polySame_ok (M := fun _ => False) (h1.ext hE) (h2.ext hE) hp hq hk hl) (fun W' v W'' hE hE' hP => by
    obtain ⟨rfl, h⟩ := hP
    exact kont  W'' (hE.trans hE') h)
end Go.Proofs.YtbingbjhgoanoaaGreat

/- cinctureref1: PolyAdd, PolyScale, PolySub, Var, Const, PolySame; cincturelaw8.PolyAdds. -/
set_option maxRecDepth 100000
set_option linter.unusedVariables false
set_option linter.unusedSimpArgs false
namespace Go.Proofs.YtbingbjhgoanoaaGreat
open Go Go.SX
theorem refPolyAdd_ok {W0 : PW} {M : Nat → Prop} {sp sq : Sl} {p q : List Tm} {k : Nat} (h1 : IsRPoly 183 47 W0 sp p) (h2 : IsRPoly 183 47 W0 sq q) (g1 : PGood p) (b1 : Bd k p) (b2 : Bd k q) (hk : k ≤ 40000000) (hp : p.length ≤ 536870912) (hq : q.length ≤ 536870912) :
    PCallsM Go.Proofs.Tryz.prog 32 [sp.v, sq.v] W0 M fun v W' => ∃ (s' : Sl), v = Sl.v s' ∧ IsRPoly 183 47 W' s' (pnorm (p ++ q)) := by
  apply callref1_PolyAdd
  have n2 := h2.n
  refine ⟨fun L W => match L with
    | [.val (.slice A n c), .val (.int .i64 i)] => ∃ j : Nat, i = (j : Int) ∧ j ≤ q.length ∧ Ext W0 W ∧ IsRPoly 183 47 W ⟨A, n, c⟩ (pnorm (p ++ q.take j))
    | _ => False, cnL q.length, ⟨0, rfl, by omega, Ext.refl _, by rw [List.take_zero, List.append_nil, pnorm_of g1]; exact h1⟩, ?_⟩
  rintro s3 i4 W5 ⟨j, rfl, hj, hE5, hp5⟩
  have hp5 : IsRPoly 183 47 W5 s3 (pnorm (p ++ q.take j)) := hp5
  refine ⟨fun hlt => ?_, fun hge W15 hE15 => ⟨s3, rfl, ?_⟩⟩
  · have hjl : j < q.length := by omega
    obtain ⟨h0, c1, s1, s2, e1, _, _, hr⟩ := (h2.ext hE5).at (List.getElem?_eq_getElem hjl)
    have hlen := pnorm_len (p ++ q.take j)
    rw [List.length_append, List.length_take] at hlen
    refine ⟨(h2.ext hE5).inB (by omega) (by omega), _, _, _, c1, s1, s2, e1, refPut_call (m := q[j].1) hp5 hr h0 ((b1.append (b2.take j)).norm.sz) ((b2.sz _ (List.getElem_mem hjl)).mono (by omega)) (by omega) (by omega) fun s' W13 hE13 h13 => ⟨s', rfl, by unfold I64; omega, ⟨j + 1, by push_cast; rfl, by omega, hE5.trans hE13, ?_⟩, ?_⟩⟩
    · rw [take_snocR hjl, ← List.append_assoc, pnorm_snoc]
      exact h13
    · show q.length - Int.toNat ((j : Int) + 1) < q.length - Int.toNat (j : Int)
      omega
  · have : j = q.length := by omega
    subst this
    rw [List.take_length] at hp5
    exact hp5.ext hE15
theorem refPolyAdd_call {W0 W : PW} {M : Nat → Prop} {sp sq : Sl} {p q : List Tm} {k : Nat} {K : Value → PW → Prop} (h1 : IsRPoly 183 47 W sp p) (h2 : IsRPoly 183 47 W sq q) (g1 : PGood p) (b1 : Bd k p) (b2 : Bd k q) (hk : k ≤ 40000000) (hp : p.length ≤ 536870912) (hq : q.length ≤ 536870912) (kont : ∀ (s' : Sl) (W' : PW), Ext W W' → (IsRPoly 183 47 W' s' (pnorm (p ++ q))) → K (Sl.v s') W') :
    callN Go.Proofs.Tryz.prog W0 M 32 [sp.v, sq.v] W K :=
  callN_of (fun W' hE => refPolyAdd_ok (M := fun _ => False) (h1.ext hE) (h2.ext hE) g1 b1 b2 hk hp hq) (fun W' v W'' hE hE' hP => by
    obtain ⟨s', rfl, h⟩ := hP
    exact kont s' W'' (hE.trans hE') h)
theorem refPolyScale_ok {W0 : PW} {M : Nat → Prop} {sp s t : Sl} {p : List Tm} {b : Bool} {r : Rat} {k l : Nat} (h1 : IsRPoly 183 47 W0 sp p) (h2 : IsRefQ 183 W0 b s t r) (b1 : Bd k p) (b2 : Sz l r) (hk : k ≤ 40000000) (hl : l ≤ 40000000) (hp : p.length ≤ 1073741824) :
    PCallsM Go.Proofs.Tryz.prog 36 [sp.v, .agg ⟨[.bool b, s.v, t.v]⟩] W0 M fun v W' => ∃ (s' : Sl), v = Sl.v s' ∧ IsRPoly 183 47 W' s' (pnorm (pmap p r)) := by
  apply callref1_PolyScale
  have n1 := h1.n
  have hB := Bd.pmap b1 b2
  refine ⟨fun L W => match L with
    | [.val (.slice A n c), .val (.int .i64 i)] => ∃ j : Nat, i = (j : Int) ∧ j ≤ p.length ∧ Ext W0 W ∧ IsRPoly 183 47 W ⟨A, n, c⟩ (pnorm (pmap (p.take j) r))
    | _ => False, cnL p.length, ⟨0, rfl, by omega, Ext.refl _, IsRPoly.nil W0⟩, ?_⟩
  rintro s3 i4 W5 ⟨j, rfl, hj, hE5, hp5⟩
  have hp5 : IsRPoly 183 47 W5 s3 (pnorm (pmap (p.take j) r)) := hp5
  refine ⟨fun hlt => ?_, fun hge W20 hE20 => ⟨s3, rfl, ?_⟩⟩
  · have hjl : j < p.length := by omega
    have hP := h1.ext hE5
    have hib := hP.inB (i := (j : Int)) (by omega) (by omega)
    obtain ⟨h0, c1, s1, s2, _, e2, e3, hr⟩ := hP.at (List.getElem?_eq_getElem hjl)
    have hlen := pnorm_len (pmap (p.take j) r)
    rw [pmap_len, List.length_take] at hlen
    refine ⟨hib, _, _, _, e2, hib, c1, s1, s2, e3, refQMul_call hr (h2.ext hE5) (b1.sz _ (List.getElem_mem hjl)) b2 (by omega) (by omega) fun c3 t3 u3 W13 hE13 h13 => ⟨c3, t3, u3, rfl, hE13, ?_⟩⟩
    refine refPut_call (m := p[j].1) (hp5.ext hE13) h13 h0 ((Bd.pmap (b1.take j) b2).norm.sz) (hB.sz (p[j].1, p[j].2 * r) (List.mem_map.2 ⟨p[j], List.getElem_mem hjl, rfl⟩)) (by omega) (by omega) fun s' W18 hE18 h18 => ⟨s', rfl, hE18, by unfold I64; omega, ⟨j + 1, by push_cast; rfl, by omega, hE5.trans (hE13.trans hE18), ?_⟩, ?_⟩
    · rw [take_snocR hjl, show pmap (p.take j ++ [p[j]]) r = pmap (p.take j) r ++ [(p[j].1, p[j].2 * r)] from List.map_append, pnorm_snoc]
      exact h18
    · show p.length - Int.toNat ((j : Int) + 1) < p.length - Int.toNat (j : Int)
      omega
  · have : j = p.length := by omega
    subst this
    rw [List.take_length] at hp5
    exact hp5.ext hE20
theorem refPolyScale_call {W0 W : PW} {M : Nat → Prop} {sp s t : Sl} {p : List Tm} {b : Bool} {r : Rat} {k l : Nat} {K : Value → PW → Prop} (h1 : IsRPoly 183 47 W sp p) (h2 : IsRefQ 183 W b s t r) (b1 : Bd k p) (b2 : Sz l r) (hk : k ≤ 40000000) (hl : l ≤ 40000000) (hp : p.length ≤ 1073741824) (kont : ∀ (s' : Sl) (W' : PW), Ext W W' → (IsRPoly 183 47 W' s' (pnorm (pmap p r))) → K (Sl.v s') W') :
    callN Go.Proofs.Tryz.prog W0 M 36 [sp.v, .agg ⟨[.bool b, s.v, t.v]⟩] W K :=
  callN_of (fun W' hE => refPolyScale_ok (M := fun _ => False) (h1.ext hE) (h2.ext hE) b1 b2 hk hl hp) (fun W' v W'' hE hE' hP => by
    obtain ⟨s', rfl, h⟩ := hP
    exact kont s' W'' (hE.trans hE') h)
theorem ref_m1 : Sz 1 ((-1 : Int) : Rat) := by
  rw [show ((-1 : Int) : Rat) = -1 from rfl]
  exact (Sz.one (Nat.le_refl 1)).neg
theorem refPolySub_ok {W0 : PW} {M : Nat → Prop} {sp sq : Sl} {p q : List Tm} {k : Nat} (h1 : IsRPoly 183 47 W0 sp p) (h2 : IsRPoly 183 47 W0 sq q) (g1 : PGood p) (b1 : Bd k p) (b2 : Bd k q) (hk : k ≤ 30000000) (hp : p.length ≤ 536870912) (hq : q.length ≤ 536870912) :
    PCallsM Go.Proofs.Tryz.prog 34 [sp.v, sq.v] W0 M fun v W' => ∃ (s' : Sl), v = Sl.v s' ∧ IsRPoly 183 47 W' s' (pnorm (p ++ pmap q (-1))) := by
  apply callref1_PolySub
  refine refRatOf_call (z := -1) (by unfold I64; omega) fun b3 s4 s5 W2 hE2 h2' => ⟨b3, s4, s5, rfl, ?_⟩
  refine refPolyScale_call (h2.ext hE2) h2' b2 ref_m1 (by omega) (by omega) (by omega) fun s8 W7 hE7 h8 => ⟨s8, rfl, ?_⟩
  have hlen := pnorm_len (pmap q ((-1 : Int) : Rat))
  rw [pmap_len] at hlen
  refine refPolyAdd_call (h1.ext (hE2.trans hE7)) h8 g1 (b1.mono (by omega : k ≤ k + 1)) (Bd.norm (Bd.pmap b2 ref_m1)) (by omega) (by omega) (by omega) fun s11 W10 hE10 h11 => ⟨s11, rfl, fun W12 hE12 => ⟨s11, rfl, ?_⟩⟩
  have e : pnorm (p ++ pnorm (pmap q ((-1 : Int) : Rat))) = pnorm (p ++ pmap q (-1)) := pnorm_congr fun m => by rw [ptot_append, ptot_append, ptot_pnorm, show ((-1 : Int) : Rat) = -1 from rfl]
  rw [← e]
  exact h11.ext hE12
theorem refPolySub_call {W0 W : PW} {M : Nat → Prop} {sp sq : Sl} {p q : List Tm} {k : Nat} {K : Value → PW → Prop} (h1 : IsRPoly 183 47 W sp p) (h2 : IsRPoly 183 47 W sq q) (g1 : PGood p) (b1 : Bd k p) (b2 : Bd k q) (hk : k ≤ 30000000) (hp : p.length ≤ 536870912) (hq : q.length ≤ 536870912) (kont : ∀ (s' : Sl) (W' : PW), Ext W W' → (IsRPoly 183 47 W' s' (pnorm (p ++ pmap q (-1)))) → K (Sl.v s') W') :
    callN Go.Proofs.Tryz.prog W0 M 34 [sp.v, sq.v] W K :=
  callN_of (fun W' hE => refPolySub_ok (M := fun _ => False) (h1.ext hE) (h2.ext hE) g1 b1 b2 hk hp hq) (fun W' v W'' hE hE' hP => by
    obtain ⟨s', rfl, h⟩ := hP
    exact kont s' W'' (hE.trans hE') h)
theorem refVar_ok {W0 : PW} {M : Nat → Prop} {i : Int}  :
    PCallsM Go.Proofs.Tryz.prog 40 [.int .i64 i] W0 M fun v W' => ∃ (s' : Sl), v = Sl.v s' ∧ IsRPoly 183 47 W' s' (varP i) := by
  apply callref1_Var
  refine ⟨fun h W1 hE => ⟨⟨none, 0, 0⟩, rfl, ?_⟩, fun h => ⟨fun h' W2 hE => ⟨⟨none, 0, 0⟩, rfl, ?_⟩, fun h' => ⟨⟨by omega, by omega⟩, by omega, ⟨⟨trivial, fun e => ?_⟩, fun e => ?_⟩, fun e => ?_⟩⟩⟩
  · unfold varP; rw [if_neg (by omega)]; exact IsRPoly.nil W1
  · unfold varP; rw [if_neg (by omega)]; exact IsRPoly.nil W2
  · have hv : varP i = [(unitM 0, ((1 : Int) : Rat))] := by unfold varP; rw [if_pos (by omega), e]; rfl
    rw [hv]
    exact refRatOf_call (z := 1) (by unfold I64; omega) fun b5 s6 s7 W4 hE4 h4 => ⟨b5, s6, s7, rfl, fun s8 W9 hE9 hO _ W10 hE10 => ⟨s8, rfl, _, (hO.ext hE10).row, ⟨(by decide : (unitM 0).ok), b5, s6, s7, rfl, h4.ext (hE9.trans hE10)⟩, trivial⟩⟩
  · have hv : varP i = [(unitM 1, ((1 : Int) : Rat))] := by unfold varP; rw [if_pos (by omega), e]; rfl
    rw [hv]
    exact refRatOf_call (z := 1) (by unfold I64; omega) fun b5 s6 s7 W4 hE4 h4 => ⟨b5, s6, s7, rfl, fun s8 W9 hE9 hO _ W10 hE10 => ⟨s8, rfl, _, (hO.ext hE10).row, ⟨(by decide : (unitM 1).ok), b5, s6, s7, rfl, h4.ext (hE9.trans hE10)⟩, trivial⟩⟩
  · have hv : varP i = [(unitM 2, ((1 : Int) : Rat))] := by unfold varP; rw [if_pos (by omega), e]; rfl
    rw [hv]
    exact refRatOf_call (z := 1) (by unfold I64; omega) fun b5 s6 s7 W4 hE4 h4 => ⟨b5, s6, s7, rfl, fun s8 W9 hE9 hO _ W10 hE10 => ⟨s8, rfl, _, (hO.ext hE10).row, ⟨(by decide : (unitM 2).ok), b5, s6, s7, rfl, h4.ext (hE9.trans hE10)⟩, trivial⟩⟩
theorem refVar_call {W0 W : PW} {M : Nat → Prop} {i : Int} {K : Value → PW → Prop}  (kont : ∀ (s' : Sl) (W' : PW), Ext W W' → (IsRPoly 183 47 W' s' (varP i)) → K (Sl.v s') W') :
    callN Go.Proofs.Tryz.prog W0 M 40 [.int .i64 i] W K :=
  callN_of (fun W' hE => refVar_ok (M := fun _ => False) ) (fun W' v W'' hE hE' hP => by
    obtain ⟨s', rfl, h⟩ := hP
    exact kont s' W'' (hE.trans hE') h)
theorem refConst_ok {W0 : PW} {M : Nat → Prop} {s t : Sl} {b : Bool} {q : Rat} {k : Nat} (h : IsRefQ 183 W0 b s t q) (hq : Sz k q) (hk : k ≤ 100000000) :
    PCallsM Go.Proofs.Tryz.prog 42 [.agg ⟨[.bool b, s.v, t.v]⟩] W0 M fun v W' => ∃ (s' : Sl), v = Sl.v s' ∧ IsRPoly 183 47 W' s' (pnorm [(⟨0, 0, 0⟩, q)]) := by
  apply callref1_Const
  exact refPut_call (sp := ⟨none, 0, 0⟩) (m := ⟨0, 0, 0⟩) (IsRPoly.nil W0) h (by decide) (fun t ht => by simp at ht) hq hk (by simp) fun s' W2 hE2 h2 => ⟨s', rfl, fun W4 hE4 => ⟨s', rfl, h2.ext hE4⟩⟩
theorem refConst_call {W0 W : PW} {M : Nat → Prop} {s t : Sl} {b : Bool} {q : Rat} {k : Nat} {K : Value → PW → Prop} (h : IsRefQ 183 W b s t q) (hq : Sz k q) (hk : k ≤ 100000000) (kont : ∀ (s' : Sl) (W' : PW), Ext W W' → (IsRPoly 183 47 W' s' (pnorm [(⟨0, 0, 0⟩, q)])) → K (Sl.v s') W') :
    callN Go.Proofs.Tryz.prog W0 M 42 [.agg ⟨[.bool b, s.v, t.v]⟩] W K :=
  callN_of (fun W' hE => refConst_ok (M := fun _ => False) (h.ext hE) hq hk) (fun W' v W'' hE hE' hP => by
    obtain ⟨s', rfl, h⟩ := hP
    exact kont s' W'' (hE.trans hE') h)
theorem refPolySame_ok {W0 : PW} {M : Nat → Prop} {s t : Sl} {p q : List Tm} {k : Nat} (h1 : IsRPoly 183 47 W0 s p) (h2 : IsRPoly 183 47 W0 t q) (hp : ∀ t ∈ p, Sz k t.2) (hq : ∀ t ∈ q, Sz k t.2) (hk : k ≤ 500000000) (hl : p.length ≤ 1099511627776) :
    PCallsM Go.Proofs.Tryz.prog 38 [s.v, t.v] W0 M fun v W' => v = .bool (decide (p = q)) ∧ True := by
  apply callref1_PolySame
  have n1 := h1.n
  have n2 := h2.n
  refine ⟨fun hne W1 _ => ⟨?_, trivial⟩, fun heq => ?_⟩
  · rw [decide_eq_false]
    rintro rfl
    omega
  have hlen : p.length = q.length := by omega
  refine ⟨fun L W => match L with | [.val (.int .i64 i)] => Ext W0 W ∧ ∃ j : Nat, i = (j : Int) ∧ j ≤ p.length ∧ p.take j = q.take j | _ => False, fun l _ => match l with | [.val (.int .i64 i)] => p.length - i.toNat | _ => 0, ⟨Ext.refl _, 0, rfl, by omega, rfl⟩, ?_⟩
  rintro i4 W5 ⟨hE, j, rfl, hj, ht⟩
  refine ⟨fun hlt => ?_, fun hge W23 _ => ⟨?_, trivial⟩⟩
  · have hjl : j < p.length := by omega
    have hjq : j < q.length := by omega
    have hP := h1.ext hE
    have hQ := h2.ext hE
    obtain ⟨o1, a1, b1, c1, _, e1, f1, r1⟩ := hP.at (List.getElem?_eq_getElem hjl)
    obtain ⟨o2, a2, b2, c2, _, e2, f2, r2⟩ := hQ.at (List.getElem?_eq_getElem hjq)
    have i1 := hP.inB (i := (j : Int)) (by omega) (by omega)
    have i2 := hQ.inB (i := (j : Int)) (by omega) (by omega)
    have no : p[j] ≠ q[j] → decide (p = q) = false := fun h => decide_eq_false fun e => by subst e; exact h rfl
    refine ⟨i1, _, _, _, e1, i2, _, _, _, e2, fun hne => ⟨Ext.refl _, fun W12 _ => ⟨?_, trivial⟩⟩, fun he => ⟨i1, a1, b1, c1, f1, i2, a2, b2, c2, f2, refQCmp_call r1 r2 (hp _ (List.getElem_mem hjl)) (hq _ (List.getElem_mem hjq)) (by omega) (by omega) fun W20 hE20 _ => ⟨_, rfl, hE20, fun hno W22 _ => ⟨?_, trivial⟩, fun hyes => ⟨by unfold I64; omega, ⟨hE.trans hE20, j + 1, by push_cast; rfl, by omega, ?_⟩, ?_⟩⟩⟩⟩
    · rw [no fun e => hne (by rw [e])]
    · rw [no fun e => hno (by rw [e]; exact (cmpQ_zero _ _).2 rfl)]
    · have he := mon_cells.1 (Classical.not_not.1 he)
      have hc := (cmpQ_zero _ _).1 (Classical.not_not.1 hyes)
      rw [take_snocR hjl, take_snocR hjq, ht, show p[j] = q[j] from Prod.ext he hc]
    · show p.length - Int.toNat ((j : Int) + 1) < p.length - Int.toNat (j : Int)
      omega
  · have : j = p.length := by omega
    subst this
    rw [List.take_length, hlen, List.take_length] at ht
    rw [decide_eq_true ht]
theorem refPolySame_call {W0 W : PW} {M : Nat → Prop} {s t : Sl} {p q : List Tm} {k : Nat} {K : Value → PW → Prop} (h1 : IsRPoly 183 47 W s p) (h2 : IsRPoly 183 47 W t q) (hp : ∀ t ∈ p, Sz k t.2) (hq : ∀ t ∈ q, Sz k t.2) (hk : k ≤ 500000000) (hl : p.length ≤ 1099511627776) (kont : ∀  (W' : PW), Ext W W' → (True) → K (.bool (decide (p = q))) W') :
    callN Go.Proofs.Tryz.prog W0 M 38 [s.v, t.v] W K :=
  callN_of (fun W' hE => refPolySame_ok (M := fun _ => False) (h1.ext hE) (h2.ext hE) hp hq hk hl) (fun W' v W'' hE hE' hP => by
    obtain ⟨rfl, h⟩ := hP
    exact kont  W'' (hE.trans hE') h)
theorem numQ_size {a : ByteArray} {q : Rat} (h : numQ a = some q) : Sz 4000 q := by
  unfold numQ at h
  split at h
  · exact (parseQ_sz h).1
  · cases h
theorem varP_sz (i : Int) : ∀ t ∈ varP i, Sz 1 t.2 := fun t ht => by
  unfold varP at ht
  split at ht
  · simp at ht; subst ht; exact Sz.one (Nat.le_refl 1)
  · simp at ht
theorem varP_len (i : Int) : (varP i).length ≤ 1 := by unfold varP; split <;> simp
theorem polyAdds_ok {W0 : PW} {M : Nat → Prop} {s t : Sl} {L L2 : List (Mon × ByteArray)} {a : ByteArray} {i : Int} (h1 : IsAPoly W0 s L) (h2 : IsAPoly W0 t L2) (l1 : L.length ≤ 1099511627776) (z1 : ∀ t ∈ L, t.2.size ≤ 1099511627776) (l2 : L2.length ≤ 1099511627776) (z2 : ∀ t ∈ L2, t.2.size ≤ 1099511627776) (za : a.size ≤ 1099511627776) :
    PCallsM Go.Proofs.Tryz.prog 8 [s.v, t.v, .string a, .int .i64 i] W0 M fun v W' => v = .bool true ∧ True := by
  apply calllaw8_PolyAdds
  have alv : ∀ W, callN Go.Proofs.Tryz.prog W0 M 15 [] W fun v11 W12 => ∃ b13 : Bool, v11 = .bool b13 ∧ ∀ (W14 : PW), Ext W12 W14 → Value.bool b13 = .bool true ∧ True := fun W => law8alive_call fun W12 _ _ => ⟨true, rfl, fun W14 _ => ⟨rfl, trivial⟩⟩
  refine law8Of_call h1 l1 z1 fun s3 s4 b5 W2 hE2 g1 => ⟨s3, s4, b5, rfl, law8Of_call (h2.ext hE2) l2 z2 fun s8 s9 b10 W7 hE7 g2 => ⟨s8, s9, b10, rfl, law3Num_call za fun s13 b14 s15 b16 s17 s18 W12 hE12 hq => ⟨s13, b14, s15, b16, s17, s18, _, rfl, fun _ => alv _, fun hb5 => ⟨fun _ => alv _, fun hb10 => ⟨fun _ => alv _, fun hb19 => law8alive_call fun W33 hE33 _ => ⟨true, rfl, fun e => (by cases e), fun _ => ?_⟩⟩⟩⟩⟩⟩
  obtain ⟨p, op, p1, p2⟩ := g1 (by simpa using hb5)
  obtain ⟨q, oq, q1, q2⟩ := g2 (by simpa using hb10)
  obtain ⟨r, hr⟩ := Option.isSome_iff_exists.1 (show (numQ a).isSome = true by simpa using hb19)
  rw [hr] at hq
  obtain ⟨r1, r2⟩ := hq
  have rz := numQ_size hr
  have lp := op.len
  have lq := oq.len
  have gp := op.1.good
  have nx : ∀ {W W' : PW}, (IsPoly 183 45 W s3 p ∧ IsRPoly 183 47 W s4 p ∧ IsPoly 183 45 W s8 q ∧ IsRPoly 183 47 W s9 q ∧ IsRat 183 W s13 b14 s15 r ∧ IsRefQ 183 W b16 s17 s18 r) → Ext W W' → (IsPoly 183 45 W' s3 p ∧ IsRPoly 183 47 W' s4 p ∧ IsPoly 183 45 W' s8 q ∧ IsRPoly 183 47 W' s9 q ∧ IsRat 183 W' s13 b14 s15 r ∧ IsRefQ 183 W' b16 s17 s18 r) := fun h hE => ⟨h.1.ext hE, h.2.1.ext hE, h.2.2.1.ext hE, h.2.2.2.1.ext hE, h.2.2.2.2.1.ext hE, h.2.2.2.2.2.ext hE⟩
  have H := nx ⟨p1.ext (hE7.trans hE12), p2.ext (hE7.trans hE12), q1.ext hE12, q2.ext hE12, r1, r2⟩ hE33
  have l1 := pnorm_len (p ++ q)
  rw [List.length_append] at l1
  have l2 := pnorm_len (p ++ pmap q (-1))
  rw [List.length_append, pmap_len] at l2
  have l3 := pnorm_len (pmap p r)
  rw [pmap_len] at l3
  have m1 : Sz 1 (-1 : Rat) := ref_m1
  refine polyAdd_call H.1 H.2.2.1 op.bd oq.bd (by omega) (by omega) (by omega) fun s41 W40 hE40 h41 => ⟨s41, rfl, ?_⟩
  have H := nx H hE40
  refine refPolyAdd_call H.2.1 H.2.2.2.1 gp op.bd oq.bd (by omega) (by omega) (by omega) fun s44 W43 hE43 h44 => ⟨s44, rfl, ?_⟩
  have H := nx H hE43
  refine law8Is_call (h41.ext hE43) h44 ((op.bd.append oq.bd).norm.sz) (by omega) (by omega) fun W46 hE46 _ => ⟨true, rfl, fun _ => ?_, fun e => by cases e⟩
  have H := nx H hE46
  refine polySub_call H.1 H.2.2.1 op.bd oq.bd (by omega) (by omega) (by omega) fun s50 W49 hE49 h50 => ⟨s50, rfl, ?_⟩
  have H := nx H hE49
  refine refPolySub_call H.2.1 H.2.2.2.1 gp op.bd oq.bd (by omega) (by omega) (by omega) fun s53 W52 hE52 h53 => ⟨s53, rfl, ?_⟩
  have H := nx H hE52
  refine law8Is_call (h50.ext hE52) h53 ((op.bd.append (Bd.pmap oq.bd m1)).norm.sz) (by omega) (by omega) fun W55 hE55 _ => ⟨true, rfl, fun _ => ?_, fun e => by cases e⟩
  have H := nx H hE55
  refine polyScale_call H.1 H.2.2.2.2.1 op.bd rz (by omega) (by omega) (by omega) fun s59 W58 hE58 h59 => ⟨s59, rfl, ?_⟩
  have H := nx H hE58
  refine refPolyScale_call H.2.1 H.2.2.2.2.2 op.bd rz (by omega) (by omega) (by omega) fun s62 W61 hE61 h62 => ⟨s62, rfl, ?_⟩
  have H := nx H hE61
  refine law8Is_call (h59.ext hE61) h62 ((Bd.pmap op.bd rz).norm.sz) (by omega) (by omega) fun W64 hE64 _ => ⟨true, rfl, fun _ => ?_, fun e => by cases e⟩
  have H := nx H hE64
  refine polySame_call H.1 H.2.2.1 op.bd.sz oq.bd.sz (by omega) (by omega) fun W67 hE67 _ => ⟨_, rfl, ?_⟩
  have H := nx H hE67
  refine refPolySame_call H.2.1 H.2.2.2.1 op.bd.sz oq.bd.sz (by omega) (by omega) fun W70 hE70 _ => ⟨_, rfl, fun _ => ?_, fun e => absurd rfl e⟩
  have H := nx H hE70
  have hv := varP_len i
  refine polyVar_call fun s74 W73 hE73 h74 => ⟨s74, rfl, refVar_call fun s77 W76 hE76 h77 => ⟨s77, rfl, law8Is_call (h74.ext hE76) h77 (varP_sz i) (by omega) (by omega) fun W79 hE79 _ => ⟨true, rfl, fun _ => ?_, fun e => by cases e⟩⟩⟩
  have H := nx H (hE73.trans (hE76.trans hE79))
  refine polyConst_call H.2.2.2.2.1 rz (by omega) fun s83 W82 hE82 h83 => ⟨s83, rfl, ?_⟩
  have H := nx H hE82
  have l4 := pnorm_len [((⟨0, 0, 0⟩ : Mon), r)]
  simp only [List.length_cons, List.length_nil] at l4
  exact refConst_call H.2.2.2.2.2 rz (by omega) fun s86 W85 hE85 h86 => ⟨s86, rfl, law8Is_call (h83.ext hE85) h86 ((bd_one rz).norm.sz) (by omega) (by omega) fun W88 hE88 _ => ⟨true, rfl, fun W90 _ => ⟨rfl, trivial⟩⟩⟩
theorem polyAdds_call {W0 W : PW} {M : Nat → Prop} {s t : Sl} {L L2 : List (Mon × ByteArray)} {a : ByteArray} {i : Int} {K : Value → PW → Prop} (h1 : IsAPoly W s L) (h2 : IsAPoly W t L2) (l1 : L.length ≤ 1099511627776) (z1 : ∀ t ∈ L, t.2.size ≤ 1099511627776) (l2 : L2.length ≤ 1099511627776) (z2 : ∀ t ∈ L2, t.2.size ≤ 1099511627776) (za : a.size ≤ 1099511627776) (kont : ∀  (W' : PW), Ext W W' → (True) → K (.bool true) W') :
    callN Go.Proofs.Tryz.prog W0 M 8 [s.v, t.v, .string a, .int .i64 i] W K :=
  callN_of (fun W' hE => polyAdds_ok (M := fun _ => False) (h1.ext hE) (h2.ext hE) l1 z1 l2 z2 za) (fun W' v W'' hE hE' hP => by
    obtain ⟨rfl, h⟩ := hP
    exact kont  W'' (hE.trans hE') h)
end Go.Proofs.YtbingbjhgoanoaaGreat

/- An argument that is a slice of terms with texts, opened. -/
set_option maxRecDepth 100000
set_option linter.unusedVariables false
set_option linter.unusedSimpArgs false
namespace Go.Proofs.YtbingbjhgoanoaaGreat
open Go Go.SX Go.ChangeShapes Go.WideShapes Go.ChangeAt Go.RowKit Go.Deep
instance : Inhabited (Mon × ByteArray) := ⟨(⟨0, 0, 0⟩, ⟨#[]⟩)⟩
theorem ownKnob_none : ownKnob Go.Proofs.Tryz.prog.godebug = none := by kernel_rfl
theorem laidOut : laidOutB Go.Proofs.Tryz.prog = true := by kernel_rfl
theorem cells_term : Go.Proofs.Tryz.prog.cellsOf 43 = 4 := by kernel_rfl
theorem cells_mono : Go.Proofs.Tryz.prog.cellsOf 41 = 3 := by kernel_rfl
theorem cells_str : Go.Proofs.Tryz.prog.cellsOf 9 = 1 := by kernel_rfl
theorem cells_u8 : Go.Proofs.Tryz.prog.cellsOf 5 = 1 := by kernel_rfl
theorem cell_block {W : World} {b o : Nat} {v : Value} (h : W.cell? ⟨b, o, none⟩ = some v) : ∃ cs t fz, W.heap[b]? = some (.cells cs t fz) ∧ cs[o]? = some v := by
  unfold World.cell? at h
  cases e : W.heap[b]? with
  | none => simp [e] at h
  | some ob =>
    cases ob with
    | cells cs t fz => exact ⟨cs, t, fz, rfl, by simpa [e] using h⟩
    | _ => simp [e] at h
theorem bulk_one {H : Type} (d : DataW H) : 1 ≤ Rows.uptoBulk d := by
  cases d with
  | lit l => cases l <;> simp [Rows.uptoBulk]
  | nil => simp [Rows.uptoBulk]
  | ptr d => simp [Rows.uptoBulk]
  | slice elems spare => simp [Rows.uptoBulk]
  | agg parts => simp [Rows.uptoBulk]
  | iface t d => simp [Rows.uptoBulk]
  | map entries => simp [Rows.uptoBulk]
  | held h => simp [Rows.uptoBulk]
theorem bulk_part {H : Type} {d : DataW H} {l : List (DataW H)} (h : d ∈ l) : Rows.uptoBulk d ≤ Rows.uptoBulkAll l := by
  induction l with
  | nil => cases h
  | cons x r ih =>
    simp only [Rows.uptoBulkAll]
    cases List.mem_cons.1 h with
    | inl e => subst e; omega
    | inr e => have := ih e; omega
theorem bulk_length {H : Type} (l : List (DataW H)) : l.length ≤ Rows.uptoBulkAll l := by
  induction l with
  | nil => simp [Rows.uptoBulkAll]
  | cons x r ih => have := bulk_one x; simp only [Rows.uptoBulkAll, List.length_cons]; omega
/-- Rows of sz cells each. -/
theorem rowA_of_cellsN {W : World} {a : Addr} {n c sz : Nat} {V : Nat → List Value} (h : ∀ j, j < n → ∀ i v, (V j)[i]? = some v → W.cell? (a.add (j * sz + i)) = some v) (hV : ∀ j, j < n → (V j).length = sz) (hsz : 0 < sz) (hn : n ≤ c) (hc : c ≤ maxLen) (h1 : ∀ j, j < n → ∀ u ∈ V j, u.oneCell' = true) :
    RowA ⟨W, fun _ => False⟩ sz ⟨some a, n, c⟩ ((List.range n).map V) := by
  have hel : ∀ x ∈ (List.range n).map V, x.length = sz ∧ ∀ u ∈ x, u.oneCell' = true := by
    intro x hx
    obtain ⟨j, hj, rfl⟩ := List.mem_map.1 hx
    exact ⟨hV j (List.mem_range.1 hj), h1 j (List.mem_range.1 hj)⟩
  by_cases h0 : n = 0
  · subst h0
    exact ⟨0, rfl, Nat.zero_le _, hc, hel, .inl rfl⟩
  · obtain ⟨b, off, sp⟩ := a
    have hlen0 := hV 0 (by omega)
    obtain ⟨v0, hv0⟩ : ∃ v, (V 0)[0]? = some v := ⟨_, List.getElem?_eq_getElem (by omega)⟩
    have hc0 := h 0 (by omega) 0 v0 hv0
    have hsp : sp = none := by simpa [Addr.add] using World.cell?_spot hc0
    subst hsp
    obtain ⟨cs, t, fz, hh, _⟩ := cell_block (by rw [← add_plain]; exact hc0)
    refine ⟨t, by simp, hn, hc, hel, .inr ⟨b, off, cs, fz, rfl, id, hh, fun j v hj => ?_⟩⟩
    have hjl := (List.getElem?_eq_some_iff.1 hj).1
    rw [flatten_length (sz := sz) (fun x hx => (hel x hx).1)] at hjl
    simp only [List.length_map, List.length_range] at hjl
    have hi : j / sz < n := (Nat.div_lt_iff_lt_mul hsz).2 hjl
    have hm : j % sz < sz := Nat.mod_lt _ hsz
    have e : j / sz * sz + j % sz = j := by rw [Nat.mul_comm]; exact Nat.div_add_mod j sz
    have hx : ((List.range n).map V)[j / sz]? = some (V (j / sz)) := by simp [hi]
    have hl := hV _ hi
    have hf := flatten_at (sz := sz) (fun x hx => (hel x hx).1) hx (j := j % sz) (v := (V (j / sz))[j % sz]'(by omega)) (List.getElem?_eq_getElem (by omega))
    rw [e, hj] at hf
    have hcell := h _ hi (j % sz) v (by rw [hf]; exact List.getElem?_eq_getElem (by omega))
    rw [e, add_plain] at hcell
    obtain ⟨cs', t', fz', hh', hv⟩ := cell_block hcell
    rw [hh] at hh'
    cases hh'
    exact hv
theorem u8_ok {n : Int} (h : (Lit.int .u8 n).wf = true) : 0 ≤ n ∧ n ≤ 255 := by
  simp [Lit.wf, IntKind.min, IntKind.max, IntKind.bits, IntKind.signed] at h
  omega
/-- An element. -/
theorem open_term {H : Type} {enc : TypeId × Value → H} {W : World} {fuel : Nat} {cs : List Value} {x : DataW H × List MemPlace} (h : DataW.trod enc Go.Proofs.Tryz.prog W 0 (fun _ => true) true fuel 43 cs = some x) :
    ∃ t : Mon × ByteArray, AT cs t ∧ t.2.size ≤ Rows.uptoBulk x.1 := by
  obtain ⟨xs, k, rfl, rfl, hl, hxl, hf⟩ := DataW.trod_struct Go.Proofs.Tryz.underlying43 h
  rw [cells_term] at hl
  have g0 : DataW.trod enc Go.Proofs.Tryz.prog W 0 (fun _ => true) true k 41 ((cs.drop 0).take (Go.Proofs.Tryz.prog.cellsOf 41)) = xs[0]? := hf 0 _ rfl
  have g1 : DataW.trod enc Go.Proofs.Tryz.prog W 0 (fun _ => true) true k 9 ((cs.drop 3).take (Go.Proofs.Tryz.prog.cellsOf 9)) = xs[1]? := hf 1 _ rfl
  rw [cells_mono] at g0
  rw [cells_str] at g1
  match cs, hl, xs, hxl with
  | [v0, v1, v2, v3], _, [y0, y1], _ =>
    have g0 : DataW.trod enc Go.Proofs.Tryz.prog W 0 (fun _ => true) true k 41 [v0, v1, v2] = some y0 := g0
    have g1 : DataW.trod enc Go.Proofs.Tryz.prog W 0 (fun _ => true) true k 9 [v3] = some y1 := g1
    obtain ⟨zs, m, rfl, rfl, _, hzl, hz⟩ := DataW.trod_array Go.Proofs.Tryz.underlying41 g0
    obtain ⟨s, hs, rfl, hsz⟩ := DataW.trod_string Go.Proofs.Tryz.underlying9 g1
    have e0 := hz 0 (by omega)
    have e1 := hz 1 (by omega)
    have e2 := hz 2 (by omega)
    rw [cells_u8] at e0 e1 e2
    match zs, hzl with
    | [w0, w1, w2], _ =>
      have e0 : DataW.trod enc Go.Proofs.Tryz.prog W 0 (fun _ => true) true m 5 [v0] = some w0 := e0
      have e1 : DataW.trod enc Go.Proofs.Tryz.prog W 0 (fun _ => true) true m 5 [v1] = some w1 := e1
      have e2 : DataW.trod enc Go.Proofs.Tryz.prog W 0 (fun _ => true) true m 5 [v2] = some w2 := e2
      obtain ⟨n0, h0, _, k0⟩ := DataW.trod_int Go.Proofs.Tryz.underlying5 e0
      obtain ⟨n1, h1, _, k1⟩ := DataW.trod_int Go.Proofs.Tryz.underlying5 e1
      obtain ⟨n2, h2, _, k2⟩ := DataW.trod_int Go.Proofs.Tryz.underlying5 e2
      have hs : [v3] = [Value.string s] := hs
      have h0 : [v0] = [Value.int .u8 n0] := h0
      have h1 : [v1] = [Value.int .u8 n1] := h1
      have h2 : [v2] = [Value.int .u8 n2] := h2
      simp only [List.cons.injEq, and_true] at hs h0 h1 h2
      subst hs h0 h1 h2
      refine ⟨(⟨n0, n1, n2⟩, s), ⟨⟨u8_ok k0, u8_ok k1, u8_ok k2⟩, rfl⟩, ?_⟩
      have e : s.data.toList.length = s.size := by rw [Array.length_toList]; rfl
      simp only [List.map_cons, List.map_nil, Rows.uptoBulk, Rows.uptoBulkAll]
      omega
theorem all2_map {n : Nat} {V : Nat → List Value} {y : Nat → Mon × ByteArray} (h : ∀ i, i < n → AT (V i) (y i)) : All2 AT ((List.range n).map V) ((List.range n).map y) := by
  induction n with
  | zero => trivial
  | succ n ih =>
    rw [List.range_succ, List.map_append, List.map_append]
    exact (ih fun i hi => h i (by omega)).append ⟨h n (by omega), trivial⟩
theorem open_terms {H : Type} {enc : TypeId × Value → H} {W : World} {fuel : Nat} {v : Value} {d : DataW H} {p : List MemPlace} (h : DataW.trod enc Go.Proofs.Tryz.prog W 0 (fun _ => true) true fuel 22 [v] = some (d, p)) :
    ∃ (s : Sl) (L : List (Mon × ByteArray)), v = s.v ∧ IsAPoly ⟨W, fun _ => False⟩ s L ∧ L.length ≤ Rows.uptoBulk d ∧ ∀ t ∈ L, t.2.size ≤ Rows.uptoBulk d := by
  rcases open_slice Go.Proofs.Tryz.underlying22 h with ⟨hcs, hx⟩ | ⟨a, len, cap, m, n, D, Pl, hcs, _, hl, hm, hmm, hx, hcell⟩
  · have hv : v = .slice none 0 0 := by simpa using hcs
    subst hv
    exact ⟨⟨none, 0, 0⟩, [], rfl, ⟨[], ⟨0, rfl, Nat.le_refl _, Nat.zero_le _, fun x h => by simp at h, .inl rfl⟩, trivial⟩, Nat.zero_le _, fun l h => by simp at h⟩
  · have hv : v = .slice (some a) len cap := by simpa using hcs
    subst hv
    simp only [if_true] at hmm
    subst hmm
    simp only [Prod.mk.injEq] at hx
    obtain ⟨rfl, _⟩ := hx
    rw [cells_term] at hcell
    obtain ⟨q, hq⟩ : ∃ q : Nat → List Value × (Mon × ByteArray), ∀ i, i < m → W.cells? 0 (a.add (i * 4)) 4 = some (q i).1 ∧ AT (q i).1 (q i).2 ∧ (q i).2.2.size ≤ Rows.uptoBulk (D i) := choose_lt (α := List Value × (Mon × ByteArray)) (p := fun i q => W.cells? 0 (a.add (i * 4)) 4 = some q.1 ∧ AT q.1 q.2 ∧ q.2.2.size ≤ Rows.uptoBulk (D i)) fun i hi => by
      obtain ⟨cs', h1, h2⟩ := hcell i hi
      obtain ⟨t, h3, h4⟩ := open_term h2
      exact ⟨(cs', t), h1, h3, h4⟩
    have hr := rowA_of_cellsN (W := W) (a := a) (n := len) (c := m) (sz := 4) (V := fun i => (q i).1) (fun j hj i v hv => by
      obtain ⟨_, hlen, hc⟩ := World.cells?_some (hq j (by omega)).1
      have hi : i < 4 := by have := (List.getElem?_eq_some_iff.1 hv).1; omega
      have := hc i hi
      rw [add_add] at this
      rw [this]; exact hv) (fun j hj => (World.cells?_some (hq j (by omega)).1).2.1) (by omega) hl hm (fun j hj u hu => by
      rw [(hq j (by omega)).2.1.2] at hu
      simp only [List.mem_cons, List.not_mem_nil, or_false] at hu
      rcases hu with rfl | rfl | rfl | rfl <;> rfl)
    have hbulk : ∀ i, i < len → Rows.uptoBulk (D i) ≤ Rows.uptoBulkAll ((List.range len).map D) := fun i hi => bulk_part (List.mem_map.2 ⟨i, List.mem_range.2 hi, rfl⟩)
    have hlen := bulk_length ((List.range len).map D)
    simp only [List.length_map, List.length_range] at hlen
    refine ⟨⟨some a, len, m⟩, (List.range len).map fun i => (q i).2, rfl, ⟨_, hr, all2_map fun i hi => (hq i (by omega)).2.1⟩, ?_, fun t ht => ?_⟩
    · simp only [List.length_map, List.length_range, Rows.uptoBulk]
      omega
    · obtain ⟨j, hj, rfl⟩ := List.mem_map.1 ht
      have hj' := List.mem_range.1 hj
      have h1 := hbulk j hj'
      have h2 := (hq j (by omega)).2.2
      simp only [Rows.uptoBulk]
      omega
end Go.Proofs.YtbingbjhgoanoaaGreat

/- cincturelaw8.PolyAdds answers true for every input whose bulk is at most 1048576 (the second form), and its arguments read behind the call as they did ahead of it. -/
set_option maxRecDepth 100000
set_option linter.unusedVariables false
set_option linter.unusedSimpArgs false
namespace Go.Proofs.YtbingbjhgoanoaaGreat
open Go Go.SX Go.ChangeShapes Go.WideShapes Go.ChangeAt Go.RowKit Go.Deep
/-- What the walk gives, for every argument within the bound. -/
theorem contract (H : Type) (enc : TypeId × Value → H) (W : World) (base : Nat) (args : Array Value) (ds gs : List (DataW H)) (before : List MemPlace)
    (hval : ∀ (j : Nat) t v, Go.Proofs.Tryz.f8.params[j]? = some t → args[j]? = some v → Value.okWide Go.Proofs.Tryz.prog W .any base t v)
    (hW : DataW.Whole enc Go.Proofs.Tryz.prog Go.Proofs.Tryz.f8.params.toList Rows.polyAddsSpec.vars false W args.toList ds gs before) (hk : Rows.uptoSmall H (ds ++ gs) = true) :
    Calls Go.Proofs.Tryz.prog 8 args W fun e W' => ∃ v, e = .returned v ∧ Rows.polyAddsSpec.post enc Go.Proofs.Tryz.prog Go.Proofs.Tryz.f8 false true false false W args v W' := by
  have hW' := hW
  obtain ⟨p, q, hA0, hV, rfl, hfz, hnd⟩ := hW
  have hA : DataW.TrodAll enc Go.Proofs.Tryz.prog W 0 (fun _ => true) true Go.Proofs.Tryz.f8.params.toList args.toList ds p := hA0
  rw [Go.Proofs.Tryz.params8] at hA hval
  obtain ⟨v0, vs0, d0, ds0, p0, q0, hargs, rfl, rfl, h0, r0⟩ := trodAll_cons hA
  obtain ⟨v1, vs1, d1, ds1, p1, q1, rfl, rfl, rfl, h1, r1⟩ := trodAll_cons r0
  obtain ⟨v2, vs2, d2, ds2, p2, q2, rfl, rfl, rfl, h2, r2⟩ := trodAll_cons r1
  obtain ⟨v3, vs3, d3, ds3, p3, q3, rfl, rfl, rfl, h3, r3⟩ := trodAll_cons r2
  obtain ⟨rfl, rfl, rfl⟩ := trodAll_nil r3
  obtain rfl : args = #[v0, v1, v2, v3] := by cases args; simp_all
  obtain ⟨rfl, rfl⟩ := trodVars_none hV
  obtain ⟨a0, n0, c0, rfl⟩ := okWide_slice Go.Proofs.Tryz.underlying22 (hval 0 22 v0 rfl rfl)
  obtain ⟨a1, n1, c1, rfl⟩ := okWide_slice Go.Proofs.Tryz.underlying22 (hval 1 22 v1 rfl rfl)
  obtain ⟨t2, rfl⟩ := okWide_string Go.Proofs.Tryz.underlying9 (hval 2 9 v2 rfl rfl)
  obtain ⟨z3, rfl⟩ := okWide_int Go.Proofs.Tryz.underlying3 (hval 3 3 v3 rfl rfl)
  clear hA0
  simp only [List.append_nil] at hW' hk
  have hlt : ∀ x ∈ p0 ++ (p1 ++ (p2 ++ p3)), x.block < W.heap.size := fun x hx => by simpa using hW'.lt x (by simpa using hx)
  have hbulk : Rows.uptoBulkAll [d0, d1, d2, d3] ≤ 1048576 := of_decide_eq_true hk
  simp only [Rows.uptoBulkAll] at hbulk
  have h0k := h0
  obtain ⟨fuel0, hf0⟩ := h0
  have hf0' : DataW.trod enc Go.Proofs.Tryz.prog W 0 (fun _ => true) true fuel0 22 [.slice a0 n0 c0] = some (d0, p0) := by simpa [Value.cells] using hf0
  obtain ⟨s0, L0, hs0, hL0, hb0, hc0⟩ := open_terms hf0'
  have h1k := h1
  obtain ⟨fuel1, hf1⟩ := h1
  have hf1' : DataW.trod enc Go.Proofs.Tryz.prog W 0 (fun _ => true) true fuel1 22 [.slice a1 n1 c1] = some (d1, p1) := by simpa [Value.cells] using hf1
  obtain ⟨s1, L1, hs1, hL1, hb1, hc1⟩ := open_terms hf1'
  have h2k := h2
  obtain ⟨fuel2, hf2⟩ := h2
  have hf2' : DataW.trod enc Go.Proofs.Tryz.prog W 0 (fun _ => true) true fuel2 9 [.string t2] = some (d2, p2) := by simpa [Value.cells] using hf2
  have hb2 : t2.size ≤ Rows.uptoBulk d2 := by
    obtain ⟨s, hs, hx, _⟩ := DataW.trod_string Go.Proofs.Tryz.underlying9 hf2'
    simp only [List.cons.injEq, Value.string.injEq, and_true] at hs
    simp only [Prod.mk.injEq] at hx
    rw [hx.1, hs]
    have e : s.data.toList.length = s.size := by rw [Array.length_toList]; rfl
    simp only [Rows.uptoBulk]
    omega
  have h3k := h3
  have hc := polyAdds_ok (M := fun _ => False) (a := t2) (i := z3) hL0 hL1 (by omega) (fun t ht => by have := hc0 t ht; omega) (by omega) (fun t ht => by have := hc1 t ht; omega) (by omega)
  have hcall := hc.2 (fun b h => h.elim)
  rw [hs0, hs1]
  refine hcall.mono fun e W' ⟨v, he, hkeep, hv, _⟩ => ⟨v, he, ?_⟩
  subst hv
  have hbel := hkeep.below
  refine ⟨[d0, d1, d2, d3], [], _, [], p0 ++ (p1 ++ (p2 ++ p3)), [], (by rw [← hs0, ← hs1]; simpa using hW'), trodAll_mk1 (shut_bool Go.Proofs.Tryz.underlying4 _), (by rw [← hs0, ← hs1]; exact trodAll_mk4 (Below.trod laidOut (by kernel_rfl) (of_decide_eq_true (by kernel_rfl)) h0k hbel fun x hx => hlt x (by simp [hx])) (Below.trod laidOut (by kernel_rfl) (of_decide_eq_true (by kernel_rfl)) h1k hbel fun x hx => hlt x (by simp [hx])) (Below.trod laidOut (by kernel_rfl) (of_decide_eq_true (by kernel_rfl)) h2k hbel fun x hx => hlt x (by simp [hx])) (Below.trod laidOut (by kernel_rfl) (of_decide_eq_true (by kernel_rfl)) h3k hbel fun x hx => hlt x (by simp [hx]))), rfl, hbel.frame _, fun h => by cases h⟩
theorem lifted (os : Os) (started : os.Started) (H : Type) (enc : TypeId × Value → H) (F : Stop.Interp) :
    ReturnsInHanded {} Go.Proofs.Tryz.checked os 8 .any ((Rows.OpenSpec.upto Rows.polyAddsSpec).pre6 enc Go.Proofs.Tryz.prog Go.Proofs.Tryz.f8 Rows.polyAddsUptoRow.domain false) (((Rows.OpenSpec.upto Rows.polyAddsSpec).at F).post enc Go.Proofs.Tryz.prog Go.Proofs.Tryz.f8 false true false false) := by
  refine returnsInHanded_of_cond (C := Go.Proofs.Tryz.checked) (s := Rows.OpenSpec.upto Rows.polyAddsSpec) (k := Rows.uptoSmall) rfl ownKnob_none started (by kernel_rfl) Go.Proofs.Tryz.func8
    (OpenSpec.witness (enc := enc) (C := Go.Proofs.Tryz.checked) (s := Rows.OpenSpec.upto Rows.polyAddsSpec) (k := Rows.uptoSmall) rfl false ⟨#[], #[.slice none 0 0, .slice none 0 0, .string ⟨#[]⟩, .int .i64 0], []⟩ 8 (by kernel_rfl) (by kernel_rfl) (by kernel_rfl)
      (x := ([.nil, .nil, .lit (.string []), .lit (.int .i64 0)], [], [])) (by kernel_rfl) rfl (by kernel_rfl)) ?_
  intro W base args ds gs before hval hW _ hk _
  exact contract H enc W base args ds gs before hval hW hk
theorem polyAdds_holds : Rows.PolyAddsUptoSaid :=
  OpenClaim.holds_of_cond 8 Go.Proofs.Tryz.f8 rfl rfl rfl rfl rfl rfl rfl ⟨rfl, rfl, rfl, rfl, rfl⟩ rfl rfl rfl rfl rfl (by kernel_rfl) Go.Proofs.Tryz.func8 (by kernel_rfl)
    (of_decide_eq_true (by kernel_rfl)) (by unfold Func.isWrapper; first | (rw [if_pos (by decide +kernel)]; kernel_rfl) | (rw [if_neg (by decide +kernel)]; exact ⟨rfl, rfl⟩))
    (fun os started H enc _ F => lifted os started H enc F)
#print axioms polyAdds_holds
end Go.Proofs.YtbingbjhgoanoaaGreat
