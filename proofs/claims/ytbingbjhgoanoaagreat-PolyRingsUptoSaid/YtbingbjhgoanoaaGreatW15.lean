/- poly.Same. -/
import Derived.Test.YtbingbjhgoanoaaGreatW14
import Derived.Test.YtbingbjhgoanoaaGreatR15
import Derived.Test.YtbingbjhgoanoaaGreatLib4
import Derived.Test.YtbingbjhgoanoaaGreatRows
import Derived.WalkKit
import Derived.ProofKit
import Derived.OpenShut
import Derived.JoinedCond
import Derived.Carry
import Derived.Deep.Slices
set_option linter.unusedVariables false
set_option linter.unusedSimpArgs false
set_option maxRecDepth 100000
set_option linter.unusedVariables false
set_option linter.unusedSimpArgs false
namespace Go.Proofs.YtbingbjhgoanoaaGreat
open Go Go.SX
theorem sameTm_ok {W0 : PW} {M : Nat → Prop} {a b : Mon} {s1 s2 s3 s4 : Sl} {b1 b2 : Bool} {q r : Rat} {k : Nat} (h1 : IsRat 183 W0 s1 b1 s2 q) (h2 : IsRat 183 W0 s3 b2 s4 r) (hq : Sz k q) (hr : Sz k r) (hk : k ≤ 34359738368) :
    PCallsM Go.Proofs.Tryz.prog 77 [.agg ⟨[.int .u8 a.x, .int .u8 a.y, .int .u8 a.z, s1.v, .bool b1, s2.v]⟩, .agg ⟨[.int .u8 b.x, .int .u8 b.y, .int .u8 b.z, s3.v, .bool b2, s4.v]⟩] W0 M fun v W' => v = .bool (decide (a = b ∧ q = r)) ∧ True := by
  apply callpoly_Same_1
  refine ⟨fun he => ratCmp_call h1 h2 hq hr hk hk fun W2 hE2 _ => ⟨_, rfl, fun W4 _ => ⟨?_, trivial⟩⟩, fun hne W5 _ => ⟨?_, trivial⟩⟩
  · have he := mon_cells.1 he
    congr 1
    rw [decide_eq_decide, cmpQ_zero]
    exact ⟨fun h => ⟨he, h⟩, fun h => h.2⟩
  · rw [decide_eq_false fun h => hne (mon_cells.2 h.1)]
theorem sameTm_call {W0 W : PW} {M : Nat → Prop} {a b : Mon} {s1 s2 s3 s4 : Sl} {b1 b2 : Bool} {q r : Rat} {k : Nat} {K : Value → PW → Prop} (h1 : IsRat 183 W s1 b1 s2 q) (h2 : IsRat 183 W s3 b2 s4 r) (hq : Sz k q) (hr : Sz k r) (hk : k ≤ 34359738368) (kont : ∀  (W' : PW), Ext W W' → (True) → K (.bool (decide (a = b ∧ q = r))) W') :
    callN Go.Proofs.Tryz.prog W0 M 77 [.agg ⟨[.int .u8 a.x, .int .u8 a.y, .int .u8 a.z, s1.v, .bool b1, s2.v]⟩, .agg ⟨[.int .u8 b.x, .int .u8 b.y, .int .u8 b.z, s3.v, .bool b2, s4.v]⟩] W K :=
  callN_of (fun W' hE => sameTm_ok (M := fun _ => False) (h1.ext hE) (h2.ext hE) hq hr hk) (fun W' v W'' hE hE' hP => by
    obtain ⟨rfl, h⟩ := hP
    exact kont  W'' (hE.trans hE') h)
theorem eqTms_ok {W0 : PW} {M : Nat → Prop} {s t : Sl} {p q : List Tm} {k : Nat} (h1 : IsPoly 183 45 W0 s p) (h2 : IsPoly 183 45 W0 t q) (hp : ∀ t ∈ p, Sz k t.2) (hq : ∀ t ∈ q, Sz k t.2) (hk : k ≤ 34359738368) (hl : p.length ≤ 1099511627776) :
    PCallsM Go.Proofs.Tryz.prog 76 [s.v, t.v, .func (.func 77) #[] #[]] W0 M fun v W' => v = .bool (decide (p = q)) ∧ True := by
  apply callslices_EqualFunc_poly_Term_poly_Term_poly_Term_poly_Term
  have n1 := h1.n
  have n2 := h2.n
  refine ⟨fun hne W1 _ => ⟨?_, trivial⟩, fun heq => ?_⟩
  · rw [decide_eq_false]
    rintro rfl
    omega
  have hlen : p.length = q.length := by omega
  refine ⟨fun L W => match L with | [.val (.int .i64 i)] => Ext W0 W ∧ ∃ j : Nat, i = (j : Int) ∧ j ≤ p.length ∧ p.take j = q.take j | _ => False, fun l _ => match l with | [.val (.int .i64 i)] => p.length - i.toNat | _ => 0, ⟨Ext.refl _, 0, rfl, by omega, rfl⟩, ?_⟩
  rintro i4 W5 ⟨hE, j, rfl, hj, ht⟩
  refine ⟨fun hlt => ?_, fun hge W22 _ => ⟨?_, trivial⟩⟩
  · have hjl : j < p.length := by omega
    have hjq : j < q.length := by omega
    have hP := h1.ext hE
    have hQ := h2.ext hE
    obtain ⟨o1, a1, b1, c1, e1, _, _, r1⟩ := hP.at (List.getElem?_eq_getElem hjl)
    obtain ⟨o2, a2, b2, c2, e2, _, _, r2⟩ := hQ.at (List.getElem?_eq_getElem hjq)
    refine ⟨hP.inB (by omega) (by omega), _, _, _, a1, b1, c1, e1, hQ.inB (by omega) (by omega), _, _, _, a2, b2, c2, e2, sameTm_call r1 r2 (hp _ (List.getElem_mem hjl)) (hq _ (List.getElem_mem hjq)) hk fun W19 hE19 _ => ⟨_, rfl, fun hno W21 _ => ⟨?_, trivial⟩, fun hyes => ⟨by unfold I64; omega, ⟨hE.trans hE19, j + 1, by push_cast; rfl, by omega, ?_⟩, ?_⟩⟩⟩
    · rw [decide_eq_false]
      rintro rfl
      simp at hno
    · rw [take_snocR hjl, take_snocR hjq, ht]
      have he : p[j].1 = q[j].1 ∧ p[j].2 = q[j].2 := by simpa using hyes
      rw [show p[j] = q[j] from Prod.ext he.1 he.2]
    · show p.length - Int.toNat ((j : Int) + 1) < p.length - Int.toNat (j : Int)
      omega
  · have : j = p.length := by omega
    subst this
    rw [List.take_length, hlen, List.take_length] at ht
    rw [decide_eq_true ht]
theorem eqTms_call {W0 W : PW} {M : Nat → Prop} {s t : Sl} {p q : List Tm} {k : Nat} {K : Value → PW → Prop} (h1 : IsPoly 183 45 W s p) (h2 : IsPoly 183 45 W t q) (hp : ∀ t ∈ p, Sz k t.2) (hq : ∀ t ∈ q, Sz k t.2) (hk : k ≤ 34359738368) (hl : p.length ≤ 1099511627776) (kont : ∀  (W' : PW), Ext W W' → (True) → K (.bool (decide (p = q))) W') :
    callN Go.Proofs.Tryz.prog W0 M 76 [s.v, t.v, .func (.func 77) #[] #[]] W K :=
  callN_of (fun W' hE => eqTms_ok (M := fun _ => False) (h1.ext hE) (h2.ext hE) hp hq hk hl) (fun W' v W'' hE hE' hP => by
    obtain ⟨rfl, h⟩ := hP
    exact kont  W'' (hE.trans hE') h)
theorem polySame_ok {W0 : PW} {M : Nat → Prop} {s t : Sl} {p q : List Tm} {k : Nat} (h1 : IsPoly 183 45 W0 s p) (h2 : IsPoly 183 45 W0 t q) (hp : ∀ t ∈ p, Sz k t.2) (hq : ∀ t ∈ q, Sz k t.2) (hk : k ≤ 34359738368) (hl : p.length ≤ 1099511627776) :
    PCallsM Go.Proofs.Tryz.prog 37 [.agg ⟨[s.v]⟩, .agg ⟨[t.v]⟩] W0 M fun v W' => v = .bool (decide (p = q)) ∧ True := by
  apply callpoly_Same
  exact eqTms_call h1 h2 hp hq hk hl fun W2 _ _ => ⟨_, rfl, fun W4 _ => ⟨rfl, trivial⟩⟩
theorem polySame_call {W0 W : PW} {M : Nat → Prop} {s t : Sl} {p q : List Tm} {k : Nat} {K : Value → PW → Prop} (h1 : IsPoly 183 45 W s p) (h2 : IsPoly 183 45 W t q) (hp : ∀ t ∈ p, Sz k t.2) (hq : ∀ t ∈ q, Sz k t.2) (hk : k ≤ 34359738368) (hl : p.length ≤ 1099511627776) (kont : ∀  (W' : PW), Ext W W' → (True) → K (.bool (decide (p = q))) W') :
    callN Go.Proofs.Tryz.prog W0 M 37 [.agg ⟨[s.v]⟩, .agg ⟨[t.v]⟩] W K :=
  callN_of (fun W' hE => polySame_ok (M := fun _ => False) (h1.ext hE) (h2.ext hE) hp hq hk hl) (fun W' v W'' hE hE' hP => by
    obtain ⟨rfl, h⟩ := hP
    exact kont  W'' (hE.trans hE') h)
end Go.Proofs.YtbingbjhgoanoaaGreat

/- cincturelaw8.PolyRings. -/
set_option maxRecDepth 100000
set_option linter.unusedVariables false
set_option linter.unusedSimpArgs false
namespace Go.Proofs.YtbingbjhgoanoaaGreat
open Go Go.SX
theorem TermsOK.exp {L : List (Mon × ByteArray)} {p : List Tm} {most e : Int} (h : TermsOK L most e) (hp : PParse L p) : ∀ t ∈ p, t.1.x ≤ e ∧ t.1.y ≤ e ∧ t.1.z ≤ e := fun t ht => by
  obtain ⟨u, hu, h1, _⟩ := all2_mem hp.1 ht
  have := (h.2 u hu).2
  rw [h1]
  exact this
/-- Exponents up to e. -/
def PExp (e : Int) (p : List Tm) : Prop := ∀ t ∈ p, t.1.ok ∧ t.1.x ≤ e ∧ t.1.y ≤ e ∧ t.1.z ≤ e
theorem OfOK.exp {L : List (Mon × ByteArray)} {p : List Tm} {e : Int} (h : OfOK L e p) (ho : POk p) : PExp e p := fun t ht => ⟨ho t ht, h.2.exp h.1 t ht⟩
theorem PExp.norm {e : Int} {p : List Tm} (h : PExp e p) : PExp e (pnorm p) := fun t ht => by
  obtain ⟨u, hu, h1⟩ := mem_pnorm ht
  rw [h1]
  exact h u hu
theorem PExp.append {e : Int} {p q : List Tm} (h : PExp e p) (k : PExp e q) : PExp e (p ++ q) := fun t ht => by
  rcases List.mem_append.1 ht with ht | ht
  · exact h t ht
  · exact k t ht
theorem mulOK_of {e f : Int} {p q : List Tm} (h : PExp e p) (k : PExp f q) (hef : e + f ≤ 255) : MulOK p q := fun a ha b hb => by
  have h1 := h a ha
  have h2 := k b hb
  unfold Mon.ok at *
  unfold Mon.add
  dsimp only
  omega
theorem mulP_of {p q : List Tm} (h : MulOK p q) : mulP p q = pnorm (ppairs p q) := by unfold mulP; rw [if_pos h]
theorem sub_self (p : List Tm) : pnorm (p ++ pmap p (-1)) = [] := by
  have h1 : ∀ m, ptot (pmap p (-1)) m = - ptot p m := by
    intro m
    induction p with
    | nil => rfl
    | cons t r ih =>
      have e : pmap (t :: r) (-1) = (t.1, t.2 * -1) :: pmap r (-1) := rfl
      rw [e, ptot, ptot, ih]
      dsimp only
      split <;> grind
  refine (pnorm_congr (b := []) fun m => ?_).trans rfl
  rw [ptot_append, h1]
  simp only [ptot]
  grind
theorem bd_norm_app {k : Nat} {p q : List Tm} (h : Bd k p) (g : Bd k q) : Bd (k + k + 1) (pnorm (p ++ q)) := (h.append g).norm
theorem OfOK.bd' {L : List (Mon × ByteArray)} {exp : Int} {p : List Tm} (h : OfOK L exp p) : Bd 200000 p := h.bd.mono (by omega)
theorem polyRings_ok {W0 : PW} {M : Nat → Prop} {s t u : Sl} {L L2 L3 : List (Mon × ByteArray)} (h1 : IsAPoly W0 s L) (h2 : IsAPoly W0 t L2) (h3 : IsAPoly W0 u L3) (l1 : L.length ≤ 1099511627776) (z1 : ∀ t ∈ L, t.2.size ≤ 1099511627776) (l2 : L2.length ≤ 1099511627776) (z2 : ∀ t ∈ L2, t.2.size ≤ 1099511627776) (l3 : L3.length ≤ 1099511627776) (z3 : ∀ t ∈ L3, t.2.size ≤ 1099511627776) :
    PCallsM Go.Proofs.Tryz.prog 9 [s.v, t.v, u.v] W0 M fun v W' => v = .bool true ∧ True := by
  apply calllaw8_PolyRings
  have alv : ∀ W, callN Go.Proofs.Tryz.prog W0 M 15 [] W fun v11 W12 => ∃ b13 : Bool, v11 = .bool b13 ∧ ∀ (W14 : PW), Ext W12 W14 → Value.bool b13 = .bool true ∧ True := fun W => law8alive_call fun W12 _ _ => ⟨true, rfl, fun W14 _ => ⟨rfl, trivial⟩⟩
  refine law8Of_call h1 l1 z1 fun s3 s4 b5 W2 hE2 g1 => ⟨s3, s4, b5, rfl, law8Of_call (h2.ext hE2) l2 z2 fun s8 s9 b10 W7 hE7 g2 => ⟨s8, s9, b10, rfl, law8Of_call (h3.ext (hE2.trans hE7)) l3 z3 fun s13 s14 b15 W12 hE12 g3 => ⟨s13, s14, b15, rfl, fun _ => alv _, fun hb5 => ⟨fun _ => alv _, fun hb10 => ⟨fun _ => alv _, fun hb15 => law8alive_call fun W29 hE29 _ => ⟨true, rfl, fun e => (by cases e), fun _ => ?_⟩⟩⟩⟩⟩⟩
  obtain ⟨p, op, p1, _⟩ := g1 (by simpa using hb5)
  obtain ⟨q, oq, q1, _⟩ := g2 (by simpa using hb10)
  obtain ⟨r, or, r1, _⟩ := g3 (by simpa using hb15)
  have p1 := p1.ext (hE7.trans (hE12.trans hE29))
  have q1 := q1.ext (hE12.trans hE29)
  have r1 := r1.ext hE29
  have lp := op.len
  have lq := oq.len
  have lr := or.len
  have ep := op.exp p1.ok
  have eq := oq.exp q1.ok
  have er' := or.exp r1.ok
  have okP : MulOK r p := mulOK_of er' ep (by omega)
  have okQ : MulOK r q := mulOK_of er' eq (by omega)
  have okS : MulOK (pnorm (p ++ q)) r := mulOK_of (ep.append eq).norm er' (by omega)
  have hlS : (pnorm (p ++ q)).length ≤ 28 := by
    have := pnorm_len (p ++ q)
    rw [List.length_append] at this
    omega
  have hbS : Bd 200000 (pnorm (p ++ q)) := (bd_norm_app op.bd oq.bd).mono (by omega)
  refine ⟨polyAdd_call p1 q1 op.bd oq.bd (by omega) (by omega) (by omega) fun s37 W36 hES hS => ⟨s37, rfl, ?_⟩, polyAdd_call p1 q1 op.bd oq.bd (by omega) (by omega) (by omega) fun s37 W36 hES hS => ⟨s37, rfl, ?_⟩⟩
  · refine dup_of ?_ 1
    refine polyMul_call hS (r1.ext hES) hbS or.bd' (by omega) (by omega) (by omega) (by have := Nat.mul_le_mul hlS lr; omega) fun s40 W39 hE39 h40 => ⟨s40, _, rfl, ?_⟩
    refine polyMul_call (r1.ext (hES.trans hE39)) (p1.ext (hES.trans hE39)) or.bd op.bd (by omega) (by omega) (by omega) (by have := Nat.mul_le_mul lr lp; omega) fun s44 W43 hE43 h44 => ⟨s44, _, rfl, ?_⟩
    have hE43' := (hES.trans hE39).trans hE43
    refine polyMul_call (r1.ext hE43') (q1.ext hE43') or.bd oq.bd (by omega) (by omega) (by omega) (by have := Nat.mul_le_mul lr lq; omega) fun s48 W47 hE47 h48 => ⟨s48, _, rfl, ?_⟩
    have hE47' := hE43'.trans hE47
    rw [mulP_of okS] at h40
    rw [mulP_of okP] at h44
    rw [mulP_of okQ] at h48
    refine ⟨fun _ => ⟨fun _ => ⟨fun _ => ?_, fun e => ?_⟩, fun e => ?_⟩, fun e => ?_⟩
    · have l1 := pnorm_len (ppairs r p)
      have l2 := pnorm_len (ppairs r q)
      rw [ppairs_len] at l1 l2
      have m1 := Nat.mul_le_mul lr lp
      have m2 := Nat.mul_le_mul lr lq
      refine polyAdd_call (h44.ext hE47) h48 ((or.bd.pairs op.bd).norm) ((or.bd.pairs oq.bd).norm) (by omega) (by omega) (by omega) fun s52 W51 hE51 h52 => ⟨s52, rfl, ?_⟩
      have l3 := pnorm_len (ppairs (pnorm (p ++ q)) r)
      rw [ppairs_len] at l3
      have m3 := Nat.mul_le_mul hlS lr
      refine polySame_call ((h40.ext (hE43.trans hE47)).ext hE51) h52 (k := 1000000) (fun t ht => ((hbS.pairs or.bd).norm.sz t ht).mono (by omega)) (fun t ht => ((((or.bd.pairs op.bd).norm.append (or.bd.pairs oq.bd).norm).norm).sz t ht).mono (by omega)) (by omega) (by omega) fun W54 hE54 _ => ⟨_, rfl, fun _ => ?_, fun e => ?_⟩
      · have hEf := (hE47'.trans hE51).trans hE54
        refine polyAdd_call (p1.ext hEf) (q1.ext hEf) op.bd oq.bd (by omega) (by omega) (by omega) fun s58 W57 hE57 h58 => ⟨s58, rfl, ?_⟩
        refine polyAdd_call (q1.ext (hEf.trans hE57)) (p1.ext (hEf.trans hE57)) oq.bd op.bd (by omega) (by omega) (by omega) fun s61 W60 hE60 h61 => ⟨s61, rfl, ?_⟩
        have l4 := pnorm_len (p ++ q)
        rw [List.length_append] at l4
        refine polySame_call (h58.ext hE60) h61 (k := 1000000) (fun t ht => ((op.bd.append oq.bd).norm.sz t ht).mono (by omega)) (fun t ht => ((oq.bd.append op.bd).norm.sz t ht).mono (by omega)) (by omega) (by omega) fun W63 hE63 _ => ⟨_, rfl, fun _ => ?_, fun e => ?_⟩
        · have hEg := ((hEf.trans hE57).trans hE60).trans hE63
          refine polySub_call (p1.ext hEg) (p1.ext hEg) op.bd op.bd (by omega) (by omega) (by omega) fun s67 W66 hE66 h67 => ⟨s67, rfl, ?_⟩
          rw [sub_self] at h67
          obtain ⟨xs, hx1, hx2⟩ := h67
          have hxl := hx2.len
          refine polyTerms_call hx1 (by simp at hxl; rw [hxl]; simp) fun s70 W69 hE69 ⟨_, hO70⟩ => ⟨s70, rfl, fun W71 _ => ⟨?_, trivial⟩⟩
          have : s70.n = 0 := by rw [hO70.row.1]; simpa using hxl
          rw [this]
          rfl
        · rw [add_comm' p q] at e
          simp at e
      · rw [mul_sum p q r] at e
        simp at e
    · rw [decide_eq_true okQ] at e; cases e
    · rw [decide_eq_true okP] at e; cases e
    · rw [decide_eq_true okS] at e; cases e
  · refine polyMul_call hS (r1.ext hES) hbS or.bd' (by omega) (by omega) (by omega) (by have := Nat.mul_le_mul hlS lr; omega) fun s40 W39 hE39 h40 => ⟨s40, _, rfl, ?_⟩
    refine polyMul_call (r1.ext (hES.trans hE39)) (p1.ext (hES.trans hE39)) or.bd op.bd (by omega) (by omega) (by omega) (by have := Nat.mul_le_mul lr lp; omega) fun s44 W43 hE43 h44 => ⟨s44, _, rfl, ?_⟩
    have hE43' := (hES.trans hE39).trans hE43
    refine polyMul_call (r1.ext hE43') (q1.ext hE43') or.bd oq.bd (by omega) (by omega) (by omega) (by have := Nat.mul_le_mul lr lq; omega) fun s48 W47 hE47 h48 => ⟨s48, _, rfl, ?_⟩
    have hE47' := hE43'.trans hE47
    rw [mulP_of okS] at h40
    rw [mulP_of okP] at h44
    rw [mulP_of okQ] at h48
    refine ⟨fun _ => ⟨fun _ => ⟨fun _ => ?_, fun e => ?_⟩, fun e => ?_⟩, fun e => ?_⟩
    · have l1 := pnorm_len (ppairs r p)
      have l2 := pnorm_len (ppairs r q)
      rw [ppairs_len] at l1 l2
      have m1 := Nat.mul_le_mul lr lp
      have m2 := Nat.mul_le_mul lr lq
      refine polyAdd_call (h44.ext hE47) h48 ((or.bd.pairs op.bd).norm) ((or.bd.pairs oq.bd).norm) (by omega) (by omega) (by omega) fun s52 W51 hE51 h52 => ⟨s52, rfl, ?_⟩
      have l3 := pnorm_len (ppairs (pnorm (p ++ q)) r)
      rw [ppairs_len] at l3
      have m3 := Nat.mul_le_mul hlS lr
      refine polySame_call ((h40.ext (hE43.trans hE47)).ext hE51) h52 (k := 1000000) (fun t ht => ((hbS.pairs or.bd).norm.sz t ht).mono (by omega)) (fun t ht => ((((or.bd.pairs op.bd).norm.append (or.bd.pairs oq.bd).norm).norm).sz t ht).mono (by omega)) (by omega) (by omega) fun W54 hE54 _ => ⟨_, rfl, fun _ => ?_, fun e => ?_⟩
      · have hEf := (hE47'.trans hE51).trans hE54
        refine polyAdd_call (p1.ext hEf) (q1.ext hEf) op.bd oq.bd (by omega) (by omega) (by omega) fun s58 W57 hE57 h58 => ⟨s58, rfl, ?_⟩
        refine polyAdd_call (q1.ext (hEf.trans hE57)) (p1.ext (hEf.trans hE57)) oq.bd op.bd (by omega) (by omega) (by omega) fun s61 W60 hE60 h61 => ⟨s61, rfl, ?_⟩
        have l4 := pnorm_len (p ++ q)
        rw [List.length_append] at l4
        refine polySame_call (h58.ext hE60) h61 (k := 1000000) (fun t ht => ((op.bd.append oq.bd).norm.sz t ht).mono (by omega)) (fun t ht => ((oq.bd.append op.bd).norm.sz t ht).mono (by omega)) (by omega) (by omega) fun W63 hE63 _ => ⟨_, rfl, fun _ => ?_, fun e => ?_⟩
        · have hEg := ((hEf.trans hE57).trans hE60).trans hE63
          refine polySub_call (p1.ext hEg) (p1.ext hEg) op.bd op.bd (by omega) (by omega) (by omega) fun s67 W66 hE66 h67 => ⟨s67, rfl, ?_⟩
          rw [sub_self] at h67
          obtain ⟨xs, hx1, hx2⟩ := h67
          have hxl := hx2.len
          refine polyTerms_call hx1 (by simp at hxl; rw [hxl]; simp) fun s70 W69 hE69 ⟨_, hO70⟩ => ⟨s70, rfl, fun W71 _ => ⟨?_, trivial⟩⟩
          have : s70.n = 0 := by rw [hO70.row.1]; simpa using hxl
          rw [this]
          rfl
        · rw [add_comm' p q] at e
          simp at e
      · rw [mul_sum p q r] at e
        simp at e
    · rw [decide_eq_true okQ] at e; cases e
    · rw [decide_eq_true okP] at e; cases e
    · rw [decide_eq_true okS] at e; cases e
theorem polyRings_call {W0 W : PW} {M : Nat → Prop} {s t u : Sl} {L L2 L3 : List (Mon × ByteArray)} {K : Value → PW → Prop} (h1 : IsAPoly W s L) (h2 : IsAPoly W t L2) (h3 : IsAPoly W u L3) (l1 : L.length ≤ 1099511627776) (z1 : ∀ t ∈ L, t.2.size ≤ 1099511627776) (l2 : L2.length ≤ 1099511627776) (z2 : ∀ t ∈ L2, t.2.size ≤ 1099511627776) (l3 : L3.length ≤ 1099511627776) (z3 : ∀ t ∈ L3, t.2.size ≤ 1099511627776) (kont : ∀  (W' : PW), Ext W W' → (True) → K (.bool true) W') :
    callN Go.Proofs.Tryz.prog W0 M 9 [s.v, t.v, u.v] W K :=
  callN_of (fun W' hE => polyRings_ok (M := fun _ => False) (h1.ext hE) (h2.ext hE) (h3.ext hE) l1 z1 l2 z2 l3 z3) (fun W' v W'' hE hE' hP => by
    obtain ⟨rfl, h⟩ := hP
    exact kont  W'' (hE.trans hE') h)
end Go.Proofs.YtbingbjhgoanoaaGreat

/- An argument that is a slice of terms with texts, opened. -/
set_option maxRecDepth 100000
set_option linter.unusedVariables false
set_option linter.unusedSimpArgs false
namespace Go.Proofs.YtbingbjhgoanoaaGreat
open Go Go.SX Go.ChangeShapes Go.WideShapes Go.ChangeAt Go.RowKit Go.Deep
instance : Inhabited (Mon × ByteArray) := ⟨(⟨0, 0, 0⟩, ⟨#[]⟩)⟩
theorem ownKnob_none : ownKnob Go.Proofs.Tryz.prog.godebug = none := by kernel_rfl
theorem laidOut : laidOutB Go.Proofs.Tryz.prog = true := by kernel_rfl
theorem cells_term : Go.Proofs.Tryz.prog.cellsOf 43 = 4 := by kernel_rfl
theorem cells_mono : Go.Proofs.Tryz.prog.cellsOf 41 = 3 := by kernel_rfl
theorem cells_str : Go.Proofs.Tryz.prog.cellsOf 9 = 1 := by kernel_rfl
theorem cells_u8 : Go.Proofs.Tryz.prog.cellsOf 5 = 1 := by kernel_rfl
theorem cell_block {W : World} {b o : Nat} {v : Value} (h : W.cell? ⟨b, o, none⟩ = some v) : ∃ cs t fz, W.heap[b]? = some (.cells cs t fz) ∧ cs[o]? = some v := by
  unfold World.cell? at h
  cases e : W.heap[b]? with
  | none => simp [e] at h
  | some ob =>
    cases ob with
    | cells cs t fz => exact ⟨cs, t, fz, rfl, by simpa [e] using h⟩
    | _ => simp [e] at h
theorem bulk_one {H : Type} (d : DataW H) : 1 ≤ Rows.uptoBulk d := by
  cases d with
  | lit l => cases l <;> simp [Rows.uptoBulk]
  | nil => simp [Rows.uptoBulk]
  | ptr d => simp [Rows.uptoBulk]
  | slice elems spare => simp [Rows.uptoBulk]
  | agg parts => simp [Rows.uptoBulk]
  | iface t d => simp [Rows.uptoBulk]
  | map entries => simp [Rows.uptoBulk]
  | held h => simp [Rows.uptoBulk]
theorem bulk_part {H : Type} {d : DataW H} {l : List (DataW H)} (h : d ∈ l) : Rows.uptoBulk d ≤ Rows.uptoBulkAll l := by
  induction l with
  | nil => cases h
  | cons x r ih =>
    simp only [Rows.uptoBulkAll]
    cases List.mem_cons.1 h with
    | inl e => subst e; omega
    | inr e => have := ih e; omega
theorem bulk_length {H : Type} (l : List (DataW H)) : l.length ≤ Rows.uptoBulkAll l := by
  induction l with
  | nil => simp [Rows.uptoBulkAll]
  | cons x r ih => have := bulk_one x; simp only [Rows.uptoBulkAll, List.length_cons]; omega
/-- Rows of sz cells each. -/
theorem rowA_of_cellsN {W : World} {a : Addr} {n c sz : Nat} {V : Nat → List Value} (h : ∀ j, j < n → ∀ i v, (V j)[i]? = some v → W.cell? (a.add (j * sz + i)) = some v) (hV : ∀ j, j < n → (V j).length = sz) (hsz : 0 < sz) (hn : n ≤ c) (hc : c ≤ maxLen) (h1 : ∀ j, j < n → ∀ u ∈ V j, u.oneCell' = true) :
    RowA ⟨W, fun _ => False⟩ sz ⟨some a, n, c⟩ ((List.range n).map V) := by
  have hel : ∀ x ∈ (List.range n).map V, x.length = sz ∧ ∀ u ∈ x, u.oneCell' = true := by
    intro x hx
    obtain ⟨j, hj, rfl⟩ := List.mem_map.1 hx
    exact ⟨hV j (List.mem_range.1 hj), h1 j (List.mem_range.1 hj)⟩
  by_cases h0 : n = 0
  · subst h0
    exact ⟨0, rfl, Nat.zero_le _, hc, hel, .inl rfl⟩
  · obtain ⟨b, off, sp⟩ := a
    have hlen0 := hV 0 (by omega)
    obtain ⟨v0, hv0⟩ : ∃ v, (V 0)[0]? = some v := ⟨_, List.getElem?_eq_getElem (by omega)⟩
    have hc0 := h 0 (by omega) 0 v0 hv0
    have hsp : sp = none := by simpa [Addr.add] using World.cell?_spot hc0
    subst hsp
    obtain ⟨cs, t, fz, hh, _⟩ := cell_block (by rw [← add_plain]; exact hc0)
    refine ⟨t, by simp, hn, hc, hel, .inr ⟨b, off, cs, fz, rfl, id, hh, fun j v hj => ?_⟩⟩
    have hjl := (List.getElem?_eq_some_iff.1 hj).1
    rw [flatten_length (sz := sz) (fun x hx => (hel x hx).1)] at hjl
    simp only [List.length_map, List.length_range] at hjl
    have hi : j / sz < n := (Nat.div_lt_iff_lt_mul hsz).2 hjl
    have hm : j % sz < sz := Nat.mod_lt _ hsz
    have e : j / sz * sz + j % sz = j := by rw [Nat.mul_comm]; exact Nat.div_add_mod j sz
    have hx : ((List.range n).map V)[j / sz]? = some (V (j / sz)) := by simp [hi]
    have hl := hV _ hi
    have hf := flatten_at (sz := sz) (fun x hx => (hel x hx).1) hx (j := j % sz) (v := (V (j / sz))[j % sz]'(by omega)) (List.getElem?_eq_getElem (by omega))
    rw [e, hj] at hf
    have hcell := h _ hi (j % sz) v (by rw [hf]; exact List.getElem?_eq_getElem (by omega))
    rw [e, add_plain] at hcell
    obtain ⟨cs', t', fz', hh', hv⟩ := cell_block hcell
    rw [hh] at hh'
    cases hh'
    exact hv
theorem u8_ok {n : Int} (h : (Lit.int .u8 n).wf = true) : 0 ≤ n ∧ n ≤ 255 := by
  simp [Lit.wf, IntKind.min, IntKind.max, IntKind.bits, IntKind.signed] at h
  omega
/-- An element. -/
theorem open_term {H : Type} {enc : TypeId × Value → H} {W : World} {fuel : Nat} {cs : List Value} {x : DataW H × List MemPlace} (h : DataW.trod enc Go.Proofs.Tryz.prog W 0 (fun _ => true) true fuel 43 cs = some x) :
    ∃ t : Mon × ByteArray, AT cs t ∧ t.2.size ≤ Rows.uptoBulk x.1 := by
  obtain ⟨xs, k, rfl, rfl, hl, hxl, hf⟩ := DataW.trod_struct Go.Proofs.Tryz.underlying43 h
  rw [cells_term] at hl
  have g0 : DataW.trod enc Go.Proofs.Tryz.prog W 0 (fun _ => true) true k 41 ((cs.drop 0).take (Go.Proofs.Tryz.prog.cellsOf 41)) = xs[0]? := hf 0 _ rfl
  have g1 : DataW.trod enc Go.Proofs.Tryz.prog W 0 (fun _ => true) true k 9 ((cs.drop 3).take (Go.Proofs.Tryz.prog.cellsOf 9)) = xs[1]? := hf 1 _ rfl
  rw [cells_mono] at g0
  rw [cells_str] at g1
  match cs, hl, xs, hxl with
  | [v0, v1, v2, v3], _, [y0, y1], _ =>
    have g0 : DataW.trod enc Go.Proofs.Tryz.prog W 0 (fun _ => true) true k 41 [v0, v1, v2] = some y0 := g0
    have g1 : DataW.trod enc Go.Proofs.Tryz.prog W 0 (fun _ => true) true k 9 [v3] = some y1 := g1
    obtain ⟨zs, m, rfl, rfl, _, hzl, hz⟩ := DataW.trod_array Go.Proofs.Tryz.underlying41 g0
    obtain ⟨s, hs, rfl, hsz⟩ := DataW.trod_string Go.Proofs.Tryz.underlying9 g1
    have e0 := hz 0 (by omega)
    have e1 := hz 1 (by omega)
    have e2 := hz 2 (by omega)
    rw [cells_u8] at e0 e1 e2
    match zs, hzl with
    | [w0, w1, w2], _ =>
      have e0 : DataW.trod enc Go.Proofs.Tryz.prog W 0 (fun _ => true) true m 5 [v0] = some w0 := e0
      have e1 : DataW.trod enc Go.Proofs.Tryz.prog W 0 (fun _ => true) true m 5 [v1] = some w1 := e1
      have e2 : DataW.trod enc Go.Proofs.Tryz.prog W 0 (fun _ => true) true m 5 [v2] = some w2 := e2
      obtain ⟨n0, h0, _, k0⟩ := DataW.trod_int Go.Proofs.Tryz.underlying5 e0
      obtain ⟨n1, h1, _, k1⟩ := DataW.trod_int Go.Proofs.Tryz.underlying5 e1
      obtain ⟨n2, h2, _, k2⟩ := DataW.trod_int Go.Proofs.Tryz.underlying5 e2
      have hs : [v3] = [Value.string s] := hs
      have h0 : [v0] = [Value.int .u8 n0] := h0
      have h1 : [v1] = [Value.int .u8 n1] := h1
      have h2 : [v2] = [Value.int .u8 n2] := h2
      simp only [List.cons.injEq, and_true] at hs h0 h1 h2
      subst hs h0 h1 h2
      refine ⟨(⟨n0, n1, n2⟩, s), ⟨⟨u8_ok k0, u8_ok k1, u8_ok k2⟩, rfl⟩, ?_⟩
      have e : s.data.toList.length = s.size := by rw [Array.length_toList]; rfl
      simp only [List.map_cons, List.map_nil, Rows.uptoBulk, Rows.uptoBulkAll]
      omega
theorem all2_map {n : Nat} {V : Nat → List Value} {y : Nat → Mon × ByteArray} (h : ∀ i, i < n → AT (V i) (y i)) : All2 AT ((List.range n).map V) ((List.range n).map y) := by
  induction n with
  | zero => trivial
  | succ n ih =>
    rw [List.range_succ, List.map_append, List.map_append]
    exact (ih fun i hi => h i (by omega)).append ⟨h n (by omega), trivial⟩
theorem open_terms {H : Type} {enc : TypeId × Value → H} {W : World} {fuel : Nat} {v : Value} {d : DataW H} {p : List MemPlace} (h : DataW.trod enc Go.Proofs.Tryz.prog W 0 (fun _ => true) true fuel 22 [v] = some (d, p)) :
    ∃ (s : Sl) (L : List (Mon × ByteArray)), v = s.v ∧ IsAPoly ⟨W, fun _ => False⟩ s L ∧ L.length ≤ Rows.uptoBulk d ∧ ∀ t ∈ L, t.2.size ≤ Rows.uptoBulk d := by
  rcases open_slice Go.Proofs.Tryz.underlying22 h with ⟨hcs, hx⟩ | ⟨a, len, cap, m, n, D, Pl, hcs, _, hl, hm, hmm, hx, hcell⟩
  · have hv : v = .slice none 0 0 := by simpa using hcs
    subst hv
    exact ⟨⟨none, 0, 0⟩, [], rfl, ⟨[], ⟨0, rfl, Nat.le_refl _, Nat.zero_le _, fun x h => by simp at h, .inl rfl⟩, trivial⟩, Nat.zero_le _, fun l h => by simp at h⟩
  · have hv : v = .slice (some a) len cap := by simpa using hcs
    subst hv
    simp only [if_true] at hmm
    subst hmm
    simp only [Prod.mk.injEq] at hx
    obtain ⟨rfl, _⟩ := hx
    rw [cells_term] at hcell
    obtain ⟨q, hq⟩ : ∃ q : Nat → List Value × (Mon × ByteArray), ∀ i, i < m → W.cells? 0 (a.add (i * 4)) 4 = some (q i).1 ∧ AT (q i).1 (q i).2 ∧ (q i).2.2.size ≤ Rows.uptoBulk (D i) := choose_lt (α := List Value × (Mon × ByteArray)) (p := fun i q => W.cells? 0 (a.add (i * 4)) 4 = some q.1 ∧ AT q.1 q.2 ∧ q.2.2.size ≤ Rows.uptoBulk (D i)) fun i hi => by
      obtain ⟨cs', h1, h2⟩ := hcell i hi
      obtain ⟨t, h3, h4⟩ := open_term h2
      exact ⟨(cs', t), h1, h3, h4⟩
    have hr := rowA_of_cellsN (W := W) (a := a) (n := len) (c := m) (sz := 4) (V := fun i => (q i).1) (fun j hj i v hv => by
      obtain ⟨_, hlen, hc⟩ := World.cells?_some (hq j (by omega)).1
      have hi : i < 4 := by have := (List.getElem?_eq_some_iff.1 hv).1; omega
      have := hc i hi
      rw [add_add] at this
      rw [this]; exact hv) (fun j hj => (World.cells?_some (hq j (by omega)).1).2.1) (by omega) hl hm (fun j hj u hu => by
      rw [(hq j (by omega)).2.1.2] at hu
      simp only [List.mem_cons, List.not_mem_nil, or_false] at hu
      rcases hu with rfl | rfl | rfl | rfl <;> rfl)
    have hbulk : ∀ i, i < len → Rows.uptoBulk (D i) ≤ Rows.uptoBulkAll ((List.range len).map D) := fun i hi => bulk_part (List.mem_map.2 ⟨i, List.mem_range.2 hi, rfl⟩)
    have hlen := bulk_length ((List.range len).map D)
    simp only [List.length_map, List.length_range] at hlen
    refine ⟨⟨some a, len, m⟩, (List.range len).map fun i => (q i).2, rfl, ⟨_, hr, all2_map fun i hi => (hq i (by omega)).2.1⟩, ?_, fun t ht => ?_⟩
    · simp only [List.length_map, List.length_range, Rows.uptoBulk]
      omega
    · obtain ⟨j, hj, rfl⟩ := List.mem_map.1 ht
      have hj' := List.mem_range.1 hj
      have h1 := hbulk j hj'
      have h2 := (hq j (by omega)).2.2
      simp only [Rows.uptoBulk]
      omega
end Go.Proofs.YtbingbjhgoanoaaGreat

/- cincturelaw8.PolyRings answers true for every input whose bulk is at most 1048576 (the second form), and its arguments read behind the call as they did ahead of it. -/
set_option maxRecDepth 100000
set_option linter.unusedVariables false
set_option linter.unusedSimpArgs false
namespace Go.Proofs.YtbingbjhgoanoaaGreat
open Go Go.SX Go.ChangeShapes Go.WideShapes Go.ChangeAt Go.RowKit Go.Deep
/-- What the walk gives, for every argument within the bound. -/
theorem contract (H : Type) (enc : TypeId × Value → H) (W : World) (base : Nat) (args : Array Value) (ds gs : List (DataW H)) (before : List MemPlace)
    (hval : ∀ (j : Nat) t v, Go.Proofs.Tryz.f9.params[j]? = some t → args[j]? = some v → Value.okWide Go.Proofs.Tryz.prog W .any base t v)
    (hW : DataW.Whole enc Go.Proofs.Tryz.prog Go.Proofs.Tryz.f9.params.toList Rows.polyRingsSpec.vars false W args.toList ds gs before) (hk : Rows.uptoSmall H (ds ++ gs) = true) :
    Calls Go.Proofs.Tryz.prog 9 args W fun e W' => ∃ v, e = .returned v ∧ Rows.polyRingsSpec.post enc Go.Proofs.Tryz.prog Go.Proofs.Tryz.f9 false true false false W args v W' := by
  have hW' := hW
  obtain ⟨p, q, hA0, hV, rfl, hfz, hnd⟩ := hW
  have hA : DataW.TrodAll enc Go.Proofs.Tryz.prog W 0 (fun _ => true) true Go.Proofs.Tryz.f9.params.toList args.toList ds p := hA0
  rw [Go.Proofs.Tryz.params9] at hA hval
  obtain ⟨v0, vs0, d0, ds0, p0, q0, hargs, rfl, rfl, h0, r0⟩ := trodAll_cons hA
  obtain ⟨v1, vs1, d1, ds1, p1, q1, rfl, rfl, rfl, h1, r1⟩ := trodAll_cons r0
  obtain ⟨v2, vs2, d2, ds2, p2, q2, rfl, rfl, rfl, h2, r2⟩ := trodAll_cons r1
  obtain ⟨rfl, rfl, rfl⟩ := trodAll_nil r2
  obtain rfl : args = #[v0, v1, v2] := by cases args; simp_all
  obtain ⟨rfl, rfl⟩ := trodVars_none hV
  obtain ⟨a0, n0, c0, rfl⟩ := okWide_slice Go.Proofs.Tryz.underlying22 (hval 0 22 v0 rfl rfl)
  obtain ⟨a1, n1, c1, rfl⟩ := okWide_slice Go.Proofs.Tryz.underlying22 (hval 1 22 v1 rfl rfl)
  obtain ⟨a2, n2, c2, rfl⟩ := okWide_slice Go.Proofs.Tryz.underlying22 (hval 2 22 v2 rfl rfl)
  clear hA0
  simp only [List.append_nil] at hW' hk
  have hlt : ∀ x ∈ p0 ++ (p1 ++ p2), x.block < W.heap.size := fun x hx => by simpa using hW'.lt x (by simpa using hx)
  have hbulk : Rows.uptoBulkAll [d0, d1, d2] ≤ 1048576 := of_decide_eq_true hk
  simp only [Rows.uptoBulkAll] at hbulk
  have h0k := h0
  obtain ⟨fuel0, hf0⟩ := h0
  have hf0' : DataW.trod enc Go.Proofs.Tryz.prog W 0 (fun _ => true) true fuel0 22 [.slice a0 n0 c0] = some (d0, p0) := by simpa [Value.cells] using hf0
  obtain ⟨s0, L0, hs0, hL0, hb0, hc0⟩ := open_terms hf0'
  have h1k := h1
  obtain ⟨fuel1, hf1⟩ := h1
  have hf1' : DataW.trod enc Go.Proofs.Tryz.prog W 0 (fun _ => true) true fuel1 22 [.slice a1 n1 c1] = some (d1, p1) := by simpa [Value.cells] using hf1
  obtain ⟨s1, L1, hs1, hL1, hb1, hc1⟩ := open_terms hf1'
  have h2k := h2
  obtain ⟨fuel2, hf2⟩ := h2
  have hf2' : DataW.trod enc Go.Proofs.Tryz.prog W 0 (fun _ => true) true fuel2 22 [.slice a2 n2 c2] = some (d2, p2) := by simpa [Value.cells] using hf2
  obtain ⟨s2, L2, hs2, hL2, hb2, hc2⟩ := open_terms hf2'
  have hc := polyRings_ok (M := fun _ => False) hL0 hL1 hL2 (by omega) (fun t ht => by have := hc0 t ht; omega) (by omega) (fun t ht => by have := hc1 t ht; omega) (by omega) (fun t ht => by have := hc2 t ht; omega)
  have hcall := hc.2 (fun b h => h.elim)
  rw [hs0, hs1, hs2]
  refine hcall.mono fun e W' ⟨v, he, hkeep, hv, _⟩ => ⟨v, he, ?_⟩
  subst hv
  have hbel := hkeep.below
  refine ⟨[d0, d1, d2], [], _, [], p0 ++ (p1 ++ p2), [], (by rw [← hs0, ← hs1, ← hs2]; simpa using hW'), trodAll_mk1 (shut_bool Go.Proofs.Tryz.underlying4 _), (by rw [← hs0, ← hs1, ← hs2]; exact trodAll_mk3 (Below.trod laidOut (by kernel_rfl) (of_decide_eq_true (by kernel_rfl)) h0k hbel fun x hx => hlt x (by simp [hx])) (Below.trod laidOut (by kernel_rfl) (of_decide_eq_true (by kernel_rfl)) h1k hbel fun x hx => hlt x (by simp [hx])) (Below.trod laidOut (by kernel_rfl) (of_decide_eq_true (by kernel_rfl)) h2k hbel fun x hx => hlt x (by simp [hx]))), rfl, hbel.frame _, fun h => by cases h⟩
theorem lifted (os : Os) (started : os.Started) (H : Type) (enc : TypeId × Value → H) (F : Stop.Interp) :
    ReturnsInHanded {} Go.Proofs.Tryz.checked os 9 .any ((Rows.OpenSpec.upto Rows.polyRingsSpec).pre6 enc Go.Proofs.Tryz.prog Go.Proofs.Tryz.f9 Rows.polyRingsUptoRow.domain false) (((Rows.OpenSpec.upto Rows.polyRingsSpec).at F).post enc Go.Proofs.Tryz.prog Go.Proofs.Tryz.f9 false true false false) := by
  refine returnsInHanded_of_cond (C := Go.Proofs.Tryz.checked) (s := Rows.OpenSpec.upto Rows.polyRingsSpec) (k := Rows.uptoSmall) rfl ownKnob_none started (by kernel_rfl) Go.Proofs.Tryz.func9
    (OpenSpec.witness (enc := enc) (C := Go.Proofs.Tryz.checked) (s := Rows.OpenSpec.upto Rows.polyRingsSpec) (k := Rows.uptoSmall) rfl false ⟨#[], #[.slice none 0 0, .slice none 0 0, .slice none 0 0], []⟩ 8 (by kernel_rfl) (by kernel_rfl) (by kernel_rfl)
      (x := ([.nil, .nil, .nil], [], [])) (by kernel_rfl) rfl (by kernel_rfl)) ?_
  intro W base args ds gs before hval hW _ hk _
  exact contract H enc W base args ds gs before hval hW hk
theorem polyRings_holds : Rows.PolyRingsUptoSaid :=
  OpenClaim.holds_of_cond 9 Go.Proofs.Tryz.f9 rfl rfl rfl rfl rfl rfl rfl ⟨rfl, rfl, rfl, rfl, rfl⟩ rfl rfl rfl rfl rfl (by kernel_rfl) Go.Proofs.Tryz.func9 (by kernel_rfl)
    (of_decide_eq_true (by kernel_rfl)) (by unfold Func.isWrapper; first | (rw [if_pos (by decide +kernel)]; kernel_rfl) | (rw [if_neg (by decide +kernel)]; exact ⟨rfl, rfl⟩))
    (fun os started H enc _ F => lifted os started H enc F)
#print axioms polyRings_holds
end Go.Proofs.YtbingbjhgoanoaaGreat
