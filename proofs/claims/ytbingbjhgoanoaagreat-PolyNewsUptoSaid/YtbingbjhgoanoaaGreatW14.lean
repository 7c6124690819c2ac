/- cinctureref1: PolyOf, PolyPlain; poly.Plain; book.SameTerms, law8.Is. -/
import Derived.Test.YtbingbjhgoanoaaGreatW13
import Derived.Test.YtbingbjhgoanoaaGreatW12
import Derived.Test.YtbingbjhgoanoaaGreatW10
import Derived.Test.YtbingbjhgoanoaaGreatR13
import Derived.Test.YtbingbjhgoanoaaGreatLib4
import Derived.Test.YtbingbjhgoanoaaGreatRows
import Derived.WalkKit
import Derived.ProofKit
import Derived.OpenShut
import Derived.JoinedCond
import Derived.Carry
import Derived.Deep.Slices
import Derived.Test.YtbingbjhgoanoaaGreatR15
set_option linter.unusedVariables false
set_option linter.unusedSimpArgs false
set_option maxRecDepth 100000
set_option linter.unusedVariables false
set_option linter.unusedSimpArgs false
namespace Go.Proofs.YtbingbjhgoanoaaGreat
open Go Go.SX
def cnL (n : Nat) (l : List PL) (W : PW) : Nat := match l with
  | [_, .val (.int .i64 i)] => n - i.toNat
  | _ => 0
theorem refPolyOf_ok {W0 : PW} {M : Nat → Prop} {s : Sl} {l : List Tm} {k : Nat} (h : IsRPoly 183 47 W0 s l) (hB : Bd k l) (hk : k ≤ 100000000) (hl : l.length ≤ 1073741824) :
    PCallsM Go.Proofs.Tryz.prog 19 [s.v] W0 M fun v W' => ∃ (s' : Sl), v = Sl.v s' ∧ IsRPoly 183 47 W' s' (pnorm l) := by
  apply callref1_PolyOf
  have hn := h.n
  refine ⟨fun L W => match L with
    | [.val (.slice A n c), .val (.int .i64 i)] => ∃ j : Nat, i = (j : Int) ∧ j ≤ l.length ∧ Ext W0 W ∧ IsRPoly 183 47 W ⟨A, n, c⟩ (pnorm (l.take j))
    | _ => False, cnL l.length, ⟨0, rfl, by omega, Ext.refl _, IsRPoly.nil W0⟩, ?_⟩
  rintro s3 i4 W5 ⟨j, rfl, hj, hE5, hp⟩
  have hp : IsRPoly 183 47 W5 s3 (pnorm (l.take j)) := hp
  refine ⟨fun hlt => ?_, fun hge W15 hE15 => ⟨s3, rfl, ?_⟩⟩
  · have hjl : j < l.length := by omega
    obtain ⟨h0, b1, s1, s2, e1, _, _, hr⟩ := (h.ext hE5).at (List.getElem?_eq_getElem hjl)
    have hlen := pnorm_len (l.take j)
    rw [List.length_take] at hlen
    refine ⟨(h.ext hE5).inB (by omega) (by omega), _, _, _, b1, s1, s2, e1, refPut_call (m := l[j].1) hp hr h0 (hB.take j).norm.sz (hB.sz _ (List.getElem_mem hjl)) hk (by omega) fun s' W13 hE13 h13 => ⟨s', rfl, by unfold I64; omega, ⟨j + 1, by push_cast; rfl, by omega, hE5.trans hE13, ?_⟩, ?_⟩⟩
    · rw [take_snocR hjl, pnorm_snoc]
      exact h13
    · show l.length - Int.toNat ((j : Int) + 1) < l.length - Int.toNat (j : Int)
      omega
  · have : j = l.length := by omega
    subst this
    rw [List.take_length] at hp
    exact hp.ext hE15
theorem refPolyOf_call {W0 W : PW} {M : Nat → Prop} {s : Sl} {l : List Tm} {k : Nat} {K : Value → PW → Prop} (h : IsRPoly 183 47 W s l) (hB : Bd k l) (hk : k ≤ 100000000) (hl : l.length ≤ 1073741824) (kont : ∀ (s' : Sl) (W' : PW), Ext W W' → (IsRPoly 183 47 W' s' (pnorm l)) → K (Sl.v s') W') :
    callN Go.Proofs.Tryz.prog W0 M 19 [s.v] W K :=
  callN_of (fun W' hE => refPolyOf_ok (M := fun _ => False) (h.ext hE) hB hk hl) (fun W' v W'' hE hE' hP => by
    obtain ⟨s', rfl, h⟩ := hP
    exact kont s' W'' (hE.trans hE') h)
/-- Each coefficient's text. -/
def ptxt (p : List Tm) : List (Mon × ByteArray) := p.map fun t => (t.1, decQ t.2)
theorem ptxt_len (p : List Tm) : (ptxt p).length = p.length := by simp [ptxt]
theorem ptxt_take {p : List Tm} {j : Nat} (h : j < p.length) : ptxt (p.take (j + 1)) = ptxt (p.take j) ++ [(p[j].1, decQ p[j].2)] := by
  rw [take_snocR h]
  exact List.map_append
def plI (W0 : PW) (p : List Tm) (L : List PL) (W : PW) : Prop := match L with
  | [.row xs, .val (.int .i64 i)] => ∃ j : Nat, i = (j : Int) ∧ j ≤ p.length ∧ Ext W0 W ∧ All2 AT xs (ptxt (p.take j))
  | _ => False
theorem refPolyPlain_ok {W0 : PW} {M : Nat → Prop} {s : Sl} {p : List Tm} {k : Nat} (h : IsRPoly 183 47 W0 s p) (hs : ∀ t ∈ p, Sz k t.2) (hk : k ≤ 100000000) (hl : p.length ≤ 1073741824) :
    PCallsM Go.Proofs.Tryz.prog 61 [s.v] W0 M fun v W' => ∃ (s' : Sl), v = Sl.v s' ∧ IsAPoly W' s' (ptxt p) := by
  apply callref1_PolyPlain
  have hn := h.n
  refine ⟨plI W0 p, cnL p.length, ⟨0, rfl, by omega, Ext.refl _, trivial⟩, ?_⟩
  rintro l3 i4 W5 ⟨j, rfl, hj, hE5, ha⟩
  have hal := ha.len
  rw [ptxt_len, List.length_take] at hal
  refine ⟨fun hlt => ?_, fun hge s15 W16 hE16 hO _ W17 hE17 => ⟨s15, rfl, ?_⟩⟩
  · have hjl : j < p.length := by omega
    have hp := h.ext hE5
    have hib := hp.inB (i := (j : Int)) (by omega) (by omega)
    obtain ⟨h0, b1, s1, s2, _, e2, e3, hr⟩ := hp.at (List.getElem?_eq_getElem hjl)
    refine ⟨hib, _, _, _, e2, hib, b1, s1, s2, e3, refQText_call hr (hs _ (List.getElem_mem hjl)) hk fun W13 hE13 _ => ⟨_, rfl, hE13, Ext.refl _, by simp; omega, Ext.refl _, by unfold I64; omega, ⟨j + 1, by push_cast; rfl, by omega, hE5.trans hE13, ?_⟩, ?_⟩⟩
    · rw [ptxt_take hjl]
      exact ha.snoc ⟨h0, rfl⟩
    · show p.length - Int.toNat ((j : Int) + 1) < p.length - Int.toNat (j : Int)
      omega
  · have : j = p.length := by omega
    subst this
    rw [List.take_length] at ha
    exact ⟨_, ⟨_, (hO.ext hE17).row⟩, ha⟩
theorem refPolyPlain_call {W0 W : PW} {M : Nat → Prop} {s : Sl} {p : List Tm} {k : Nat} {K : Value → PW → Prop} (h : IsRPoly 183 47 W s p) (hs : ∀ t ∈ p, Sz k t.2) (hk : k ≤ 100000000) (hl : p.length ≤ 1073741824) (kont : ∀ (s' : Sl) (W' : PW), Ext W W' → (IsAPoly W' s' (ptxt p)) → K (Sl.v s') W') :
    callN Go.Proofs.Tryz.prog W0 M 61 [s.v] W K :=
  callN_of (fun W' hE => refPolyPlain_ok (M := fun _ => False) (h.ext hE) hs hk hl) (fun W' v W'' hE hE' hP => by
    obtain ⟨s', rfl, h⟩ := hP
    exact kont s' W'' (hE.trans hE') h)
theorem polyPlain_ok {W0 : PW} {M : Nat → Prop} {s : Sl} {p : List Tm} {k : Nat} (h : IsPoly 183 45 W0 s p) (hs : ∀ t ∈ p, Sz k t.2) (hk : k ≤ 100000000) (hl : p.length ≤ 1073741824) :
    PCallsM Go.Proofs.Tryz.prog 24 [.agg ⟨[s.v]⟩] W0 M fun v W' => ∃ (s' : Sl), v = Sl.v s' ∧ IsAPoly W' s' (ptxt p) := by
  apply callpoly_Plain
  have hn := h.n
  refine ⟨plI W0 p, cnL p.length, ⟨0, rfl, by omega, Ext.refl _, trivial⟩, ?_⟩
  rintro l3 i4 W5 ⟨j, rfl, hj, hE5, ha⟩
  have hal := ha.len
  rw [ptxt_len, List.length_take] at hal
  refine ⟨fun hlt => ?_, fun hge s15 W16 hE16 hO _ W17 hE17 => ⟨s15, rfl, ?_⟩⟩
  · have hjl : j < p.length := by omega
    have hp := h.ext hE5
    have hib := hp.inB (i := (j : Int)) (by omega) (by omega)
    obtain ⟨h0, s1, b1, s2, e1, _, _, hr⟩ := hp.at (List.getElem?_eq_getElem hjl)
    refine ⟨hib, _, _, _, s1, b1, s2, e1, ratText_call hr (hs _ (List.getElem_mem hjl)) hk fun W13 hE13 _ => ⟨_, rfl, by simp; omega, by unfold I64; omega, ⟨j + 1, by push_cast; rfl, by omega, hE5.trans hE13, ?_⟩, ?_⟩⟩
    · rw [ptxt_take hjl]
      exact ha.snoc ⟨h0, rfl⟩
    · show p.length - Int.toNat ((j : Int) + 1) < p.length - Int.toNat (j : Int)
      omega
  · have : j = p.length := by omega
    subst this
    rw [List.take_length] at ha
    exact ⟨_, ⟨_, (hO.ext hE17).row⟩, ha⟩
theorem polyPlain_call {W0 W : PW} {M : Nat → Prop} {s : Sl} {p : List Tm} {k : Nat} {K : Value → PW → Prop} (h : IsPoly 183 45 W s p) (hs : ∀ t ∈ p, Sz k t.2) (hk : k ≤ 100000000) (hl : p.length ≤ 1073741824) (kont : ∀ (s' : Sl) (W' : PW), Ext W W' → (IsAPoly W' s' (ptxt p)) → K (Sl.v s') W') :
    callN Go.Proofs.Tryz.prog W0 M 24 [.agg ⟨[s.v]⟩] W K :=
  callN_of (fun W' hE => polyPlain_ok (M := fun _ => False) (h.ext hE) hs hk hl) (fun W' v W'' hE hE' hP => by
    obtain ⟨s', rfl, h⟩ := hP
    exact kont s' W'' (hE.trans hE') h)
theorem sameTerms_ok {W0 : PW} {M : Nat → Prop} {s t : Sl} {p : List (Mon × ByteArray)} (h1 : IsAPoly W0 s p) (h2 : IsAPoly W0 t p) (hl : p.length ≤ 1099511627776) :
    PCallsM Go.Proofs.Tryz.prog 52 [s.v, t.v] W0 M fun v W' => v = .bool true ∧ True := by
  apply callbook_SameTerms
  have n1 := h1.n
  have n2 := h2.n
  refine ⟨fun h => absurd (by omega) h, fun _ => ⟨fun L W => match L with | [.val (.int .i64 i)] => Ext W0 W ∧ ∃ j : Nat, i = (j : Int) ∧ j ≤ p.length | _ => False, fun L _ => match L with | [.val (.int .i64 i)] => p.length - i.toNat | _ => 0, ⟨Ext.refl _, 0, rfl, by omega⟩, ?_⟩⟩
  rintro i4 W5 ⟨hE, j, rfl, hj⟩
  refine ⟨fun hlt => ?_, fun hge W15 _ => ⟨rfl, trivial⟩⟩
  have hjl : j < p.length := by omega
  obtain ⟨_, e1, _, _⟩ := (h1.ext hE).at (List.getElem?_eq_getElem hjl)
  obtain ⟨_, e2, _, _⟩ := (h2.ext hE).at (List.getElem?_eq_getElem hjl)
  refine ⟨(h1.ext hE).inB (by omega) (by omega), _, _, _, _, e1, (h2.ext hE).inB (by omega) (by omega), _, _, _, _, e2, fun h => absurd rfl h, fun _ => ⟨by unfold I64; omega, ⟨hE, j + 1, by push_cast; rfl, by omega⟩, ?_⟩⟩
  show p.length - Int.toNat ((j : Int) + 1) < p.length - Int.toNat (j : Int)
  omega
theorem sameTerms_call {W0 W : PW} {M : Nat → Prop} {s t : Sl} {p : List (Mon × ByteArray)} {K : Value → PW → Prop} (h1 : IsAPoly W s p) (h2 : IsAPoly W t p) (hl : p.length ≤ 1099511627776) (kont : ∀  (W' : PW), Ext W W' → (True) → K (.bool true) W') :
    callN Go.Proofs.Tryz.prog W0 M 52 [s.v, t.v] W K :=
  callN_of (fun W' hE => sameTerms_ok (M := fun _ => False) (h1.ext hE) (h2.ext hE) hl) (fun W' v W'' hE hE' hP => by
    obtain ⟨rfl, h⟩ := hP
    exact kont  W'' (hE.trans hE') h)
theorem law8Is_ok {W0 : PW} {M : Nat → Prop} {s t : Sl} {p : List Tm} {k : Nat} (h1 : IsPoly 183 45 W0 s p) (h2 : IsRPoly 183 47 W0 t p) (hs : ∀ t ∈ p, Sz k t.2) (hk : k ≤ 100000000) (hl : p.length ≤ 1073741824) :
    PCallsM Go.Proofs.Tryz.prog 17 [.agg ⟨[s.v]⟩, t.v] W0 M fun v W' => v = .bool true ∧ True := by
  apply calllaw8_Is
  exact polyPlain_call h1 hs hk hl fun s3 W2 hE2 h3 => ⟨s3, rfl, refPolyPlain_call (h2.ext hE2) hs hk hl fun s6 W5 hE5 h6 => ⟨s6, rfl, sameTerms_call (h3.ext hE5) h6 (by rw [ptxt_len]; omega) fun W8 _ _ => ⟨true, rfl, fun W10 _ => ⟨rfl, trivial⟩⟩⟩⟩
theorem law8Is_call {W0 W : PW} {M : Nat → Prop} {s t : Sl} {p : List Tm} {k : Nat} {K : Value → PW → Prop} (h1 : IsPoly 183 45 W s p) (h2 : IsRPoly 183 47 W t p) (hs : ∀ t ∈ p, Sz k t.2) (hk : k ≤ 100000000) (hl : p.length ≤ 1073741824) (kont : ∀  (W' : PW), Ext W W' → (True) → K (.bool true) W') :
    callN Go.Proofs.Tryz.prog W0 M 17 [.agg ⟨[s.v]⟩, t.v] W K :=
  callN_of (fun W' hE => law8Is_ok (M := fun _ => False) (h1.ext hE) (h2.ext hE) hs hk hl) (fun W' v W'' hE hE' hP => by
    obtain ⟨rfl, h⟩ := hP
    exact kont  W'' (hE.trans hE') h)
end Go.Proofs.YtbingbjhgoanoaaGreat

/- cincturelaw8.alive. -/
set_option maxRecDepth 100000
set_option linter.unusedVariables false
set_option linter.unusedSimpArgs false
namespace Go.Proofs.YtbingbjhgoanoaaGreat
open Go Go.SX
def alA : List Tm := [(⟨0, 0, 0⟩, 1), (⟨1, 0, 0⟩, 1)]
def alB : List Tm := [(⟨0, 0, 0⟩, -1), (⟨1, 0, 0⟩, 1)]
def alC : List Tm := [(⟨0, 0, 0⟩, -1), (⟨2, 0, 0⟩, 1)]
theorem alA_eq : pnorm (varP 0 ++ pnorm [(⟨0, 0, 0⟩, ((1 : Int) : Rat))]) = alA := by decide +kernel
theorem alB_eq : pnorm (varP 0 ++ pmap (pnorm [(⟨0, 0, 0⟩, ((1 : Int) : Rat))]) (-1)) = alB := by decide +kernel
theorem alC_ok : MulOK alA alB := by decide +kernel
theorem alC_eq : mulP alA alB = alC := by decide +kernel
theorem tx_m1 : decQ (-1) = ⟨#[45, 49]⟩ := by decide +kernel
theorem tx_1 : decQ 1 = ⟨#[49]⟩ := by decide +kernel
theorem tx_al : ptxt alC = [(⟨0, 0, 0⟩, ⟨#[45, 49]⟩), (⟨2, 0, 0⟩, ⟨#[49]⟩)] := by simp [ptxt, alC, tx_m1, tx_1]
theorem sz_m1 : Sz 1 (-1 : Rat) := (Sz.one (Nat.le_refl 1)).neg
theorem sz_1 : Sz 1 (1 : Rat) := Sz.one (Nat.le_refl 1)
theorem sz_al : ∀ t ∈ alC, Sz 1 t.2 := by
  intro t ht
  simp only [alC, List.mem_cons, List.not_mem_nil, or_false] at ht
  rcases ht with rfl | rfl
  · exact sz_m1
  · exact sz_1
theorem bd_alA : Bd 7 alA := by
  refine (Bd.of_sz (k := 1) ?_).mono (by decide)
  intro t ht
  simp only [alA, List.mem_cons, List.not_mem_nil, or_false] at ht
  rcases ht with rfl | rfl <;> exact sz_1
theorem bd_alB : Bd 7 alB := by
  refine (Bd.of_sz (k := 1) ?_).mono (by decide)
  intro t ht
  simp only [alB, List.mem_cons, List.not_mem_nil, or_false] at ht
  rcases ht with rfl | rfl
  · exact sz_m1
  · exact sz_1
theorem bd_var : Bd 7 (varP 0) := (bd_one (m := unitM 0) sz_1).mono (by decide)
theorem bd_c1 : Bd 7 (pnorm [(⟨0, 0, 0⟩, ((1 : Int) : Rat))]) := (bd_one (m := ⟨0, 0, 0⟩) (q := ((1 : Int) : Rat)) sz_1).norm.mono (by decide)
theorem law8alive_ok {W0 : PW} {M : Nat → Prop}   :
    PCallsM Go.Proofs.Tryz.prog 15 [] W0 M fun v W' => v = .bool true ∧ True := by
  apply calllaw8_alive
  refine polyVar_call fun s3 W2 hE2 hx => ⟨s3, rfl, ?_⟩
  constructor
  · refine ratOf_call (z := 1) (by unfold I64; omega) fun q1 q2 q3 Wq1 hEq1 hq1 => ⟨q1, q2, q3, rfl, ?_⟩
    have hx := hx.ext hEq1
    constructor
    · refine polyConst_call hq1 sz_1 (by omega) fun sA1 WA1 hEA1 hA1 => ⟨sA1, rfl, ?_⟩
      have hx := hx.ext hEA1
      constructor
      · refine polyAdd_call hx hA1 bd_var bd_c1 (by omega) (by decide) (by decide) fun sA WA hEA hA => ⟨sA, rfl, ?_⟩
        rw [alA_eq] at hA
        have hx := hx.ext hEA
        constructor
        · refine ratOf_call (z := 1) (by unfold I64; omega) fun q4 q5 q6 Wq2 hEq2 hq2 => ⟨q4, q5, q6, rfl, ?_⟩
          have hx := hx.ext hEq2
          have hA := hA.ext hEq2
          constructor
          · refine polyConst_call hq2 sz_1 (by omega) fun sB1 WB1 hEB1 hB1 => ⟨sB1, rfl, ?_⟩
            have hx := hx.ext hEB1
            have hA := hA.ext hEB1
            constructor
            · refine polySub_call hx hB1 bd_var bd_c1 (by omega) (by decide) (by decide) fun sB WB hEB hB => ⟨sB, rfl, ?_⟩
              rw [alB_eq] at hB
              have hA := hA.ext hEB
              refine dup_of ?_ 1
              refine polyMul_call hA hB bd_alA bd_alB (by omega) (by decide) (by decide) (by decide) fun s28 W27 hE27 h27 => ⟨s28, _, rfl, ?_⟩
              rw [alC_eq] at h27
              refine polyPlain_call h27 sz_al (by omega) (by decide) fun s32 W31 hE31 h31 => ⟨s32, rfl, ?_⟩
              rw [tx_al] at h31
              refine ⟨fun _ => ⟨fun _ => ?_, fun hn => ?_⟩, fun hb => ?_⟩
              · obtain ⟨_, e1, _, _⟩ := h31.at (i := 0) rfl
                obtain ⟨_, e2, _, _⟩ := h31.at (i := 1) rfl
                exact ⟨h31.inB (by omega) (by decide), _, _, _, _, e1, fun _ => ⟨h31.inB (by omega) (by decide), _, _, _, _, e2, fun W41 _ => ⟨congrArg Value.bool (@decide_eq_true _ (Classical.propDecidable _) rfl), trivial⟩⟩, fun hn => absurd rfl hn⟩
              · exact absurd (by rw [h31.n]; rfl) hn
              · rw [decide_eq_true alC_ok] at hb
                cases hb
            · refine polySub_call hx hB1 bd_var bd_c1 (by omega) (by decide) (by decide) fun sB WB hEB hB => ⟨sB, rfl, ?_⟩
              rw [alB_eq] at hB
              have hA := hA.ext hEB
              refine polyMul_call hA hB bd_alA bd_alB (by omega) (by decide) (by decide) (by decide) fun s28 W27 hE27 h27 => ⟨s28, _, rfl, ?_⟩
              rw [alC_eq] at h27
              refine polyPlain_call h27 sz_al (by omega) (by decide) fun s32 W31 hE31 h31 => ⟨s32, rfl, ?_⟩
              rw [tx_al] at h31
              refine ⟨fun _ => ⟨fun _ => ?_, fun hn => ?_⟩, fun hb => ?_⟩
              · obtain ⟨_, e1, _, _⟩ := h31.at (i := 0) rfl
                obtain ⟨_, e2, _, _⟩ := h31.at (i := 1) rfl
                exact ⟨h31.inB (by omega) (by decide), _, _, _, _, e1, fun _ => ⟨h31.inB (by omega) (by decide), _, _, _, _, e2, fun W41 _ => ⟨congrArg Value.bool (@decide_eq_true _ (Classical.propDecidable _) rfl), trivial⟩⟩, fun hn => absurd rfl hn⟩
              · exact absurd (by rw [h31.n]; rfl) hn
              · rw [decide_eq_true alC_ok] at hb
                cases hb
          · refine polyConst_call hq2 sz_1 (by omega) fun sB1 WB1 hEB1 hB1 => ⟨sB1, rfl, ?_⟩
            have hx := hx.ext hEB1
            have hA := hA.ext hEB1
            refine polySub_call hx hB1 bd_var bd_c1 (by omega) (by decide) (by decide) fun sB WB hEB hB => ⟨sB, rfl, ?_⟩
            rw [alB_eq] at hB
            have hA := hA.ext hEB
            refine polyMul_call hA hB bd_alA bd_alB (by omega) (by decide) (by decide) (by decide) fun s28 W27 hE27 h27 => ⟨s28, _, rfl, ?_⟩
            rw [alC_eq] at h27
            refine polyPlain_call h27 sz_al (by omega) (by decide) fun s32 W31 hE31 h31 => ⟨s32, rfl, ?_⟩
            rw [tx_al] at h31
            refine ⟨fun _ => ⟨fun _ => ?_, fun hn => ?_⟩, fun hb => ?_⟩
            · obtain ⟨_, e1, _, _⟩ := h31.at (i := 0) rfl
              obtain ⟨_, e2, _, _⟩ := h31.at (i := 1) rfl
              exact ⟨h31.inB (by omega) (by decide), _, _, _, _, e1, fun _ => ⟨h31.inB (by omega) (by decide), _, _, _, _, e2, fun W41 _ => ⟨congrArg Value.bool (@decide_eq_true _ (Classical.propDecidable _) rfl), trivial⟩⟩, fun hn => absurd rfl hn⟩
            · exact absurd (by rw [h31.n]; rfl) hn
            · rw [decide_eq_true alC_ok] at hb
              cases hb
        · refine ratOf_call (z := 1) (by unfold I64; omega) fun q4 q5 q6 Wq2 hEq2 hq2 => ⟨q4, q5, q6, rfl, ?_⟩
          have hx := hx.ext hEq2
          have hA := hA.ext hEq2
          refine polyConst_call hq2 sz_1 (by omega) fun sB1 WB1 hEB1 hB1 => ⟨sB1, rfl, ?_⟩
          have hx := hx.ext hEB1
          have hA := hA.ext hEB1
          refine polySub_call hx hB1 bd_var bd_c1 (by omega) (by decide) (by decide) fun sB WB hEB hB => ⟨sB, rfl, ?_⟩
          rw [alB_eq] at hB
          have hA := hA.ext hEB
          refine polyMul_call hA hB bd_alA bd_alB (by omega) (by decide) (by decide) (by decide) fun s28 W27 hE27 h27 => ⟨s28, _, rfl, ?_⟩
          rw [alC_eq] at h27
          refine polyPlain_call h27 sz_al (by omega) (by decide) fun s32 W31 hE31 h31 => ⟨s32, rfl, ?_⟩
          rw [tx_al] at h31
          refine ⟨fun _ => ⟨fun _ => ?_, fun hn => ?_⟩, fun hb => ?_⟩
          · obtain ⟨_, e1, _, _⟩ := h31.at (i := 0) rfl
            obtain ⟨_, e2, _, _⟩ := h31.at (i := 1) rfl
            exact ⟨h31.inB (by omega) (by decide), _, _, _, _, e1, fun _ => ⟨h31.inB (by omega) (by decide), _, _, _, _, e2, fun W41 _ => ⟨congrArg Value.bool (@decide_eq_true _ (Classical.propDecidable _) rfl), trivial⟩⟩, fun hn => absurd rfl hn⟩
          · exact absurd (by rw [h31.n]; rfl) hn
          · rw [decide_eq_true alC_ok] at hb
            cases hb
      · refine polyAdd_call hx hA1 bd_var bd_c1 (by omega) (by decide) (by decide) fun sA WA hEA hA => ⟨sA, rfl, ?_⟩
        rw [alA_eq] at hA
        have hx := hx.ext hEA
        refine ratOf_call (z := 1) (by unfold I64; omega) fun q4 q5 q6 Wq2 hEq2 hq2 => ⟨q4, q5, q6, rfl, ?_⟩
        have hx := hx.ext hEq2
        have hA := hA.ext hEq2
        refine polyConst_call hq2 sz_1 (by omega) fun sB1 WB1 hEB1 hB1 => ⟨sB1, rfl, ?_⟩
        have hx := hx.ext hEB1
        have hA := hA.ext hEB1
        refine polySub_call hx hB1 bd_var bd_c1 (by omega) (by decide) (by decide) fun sB WB hEB hB => ⟨sB, rfl, ?_⟩
        rw [alB_eq] at hB
        have hA := hA.ext hEB
        refine polyMul_call hA hB bd_alA bd_alB (by omega) (by decide) (by decide) (by decide) fun s28 W27 hE27 h27 => ⟨s28, _, rfl, ?_⟩
        rw [alC_eq] at h27
        refine polyPlain_call h27 sz_al (by omega) (by decide) fun s32 W31 hE31 h31 => ⟨s32, rfl, ?_⟩
        rw [tx_al] at h31
        refine ⟨fun _ => ⟨fun _ => ?_, fun hn => ?_⟩, fun hb => ?_⟩
        · obtain ⟨_, e1, _, _⟩ := h31.at (i := 0) rfl
          obtain ⟨_, e2, _, _⟩ := h31.at (i := 1) rfl
          exact ⟨h31.inB (by omega) (by decide), _, _, _, _, e1, fun _ => ⟨h31.inB (by omega) (by decide), _, _, _, _, e2, fun W41 _ => ⟨congrArg Value.bool (@decide_eq_true _ (Classical.propDecidable _) rfl), trivial⟩⟩, fun hn => absurd rfl hn⟩
        · exact absurd (by rw [h31.n]; rfl) hn
        · rw [decide_eq_true alC_ok] at hb
          cases hb
    · refine polyConst_call hq1 sz_1 (by omega) fun sA1 WA1 hEA1 hA1 => ⟨sA1, rfl, ?_⟩
      have hx := hx.ext hEA1
      refine polyAdd_call hx hA1 bd_var bd_c1 (by omega) (by decide) (by decide) fun sA WA hEA hA => ⟨sA, rfl, ?_⟩
      rw [alA_eq] at hA
      have hx := hx.ext hEA
      refine ratOf_call (z := 1) (by unfold I64; omega) fun q4 q5 q6 Wq2 hEq2 hq2 => ⟨q4, q5, q6, rfl, ?_⟩
      have hx := hx.ext hEq2
      have hA := hA.ext hEq2
      refine polyConst_call hq2 sz_1 (by omega) fun sB1 WB1 hEB1 hB1 => ⟨sB1, rfl, ?_⟩
      have hx := hx.ext hEB1
      have hA := hA.ext hEB1
      refine polySub_call hx hB1 bd_var bd_c1 (by omega) (by decide) (by decide) fun sB WB hEB hB => ⟨sB, rfl, ?_⟩
      rw [alB_eq] at hB
      have hA := hA.ext hEB
      refine polyMul_call hA hB bd_alA bd_alB (by omega) (by decide) (by decide) (by decide) fun s28 W27 hE27 h27 => ⟨s28, _, rfl, ?_⟩
      rw [alC_eq] at h27
      refine polyPlain_call h27 sz_al (by omega) (by decide) fun s32 W31 hE31 h31 => ⟨s32, rfl, ?_⟩
      rw [tx_al] at h31
      refine ⟨fun _ => ⟨fun _ => ?_, fun hn => ?_⟩, fun hb => ?_⟩
      · obtain ⟨_, e1, _, _⟩ := h31.at (i := 0) rfl
        obtain ⟨_, e2, _, _⟩ := h31.at (i := 1) rfl
        exact ⟨h31.inB (by omega) (by decide), _, _, _, _, e1, fun _ => ⟨h31.inB (by omega) (by decide), _, _, _, _, e2, fun W41 _ => ⟨congrArg Value.bool (@decide_eq_true _ (Classical.propDecidable _) rfl), trivial⟩⟩, fun hn => absurd rfl hn⟩
      · exact absurd (by rw [h31.n]; rfl) hn
      · rw [decide_eq_true alC_ok] at hb
        cases hb
  · refine ratOf_call (z := 1) (by unfold I64; omega) fun q1 q2 q3 Wq1 hEq1 hq1 => ⟨q1, q2, q3, rfl, ?_⟩
    have hx := hx.ext hEq1
    refine polyConst_call hq1 sz_1 (by omega) fun sA1 WA1 hEA1 hA1 => ⟨sA1, rfl, ?_⟩
    have hx := hx.ext hEA1
    refine polyAdd_call hx hA1 bd_var bd_c1 (by omega) (by decide) (by decide) fun sA WA hEA hA => ⟨sA, rfl, ?_⟩
    rw [alA_eq] at hA
    have hx := hx.ext hEA
    refine ratOf_call (z := 1) (by unfold I64; omega) fun q4 q5 q6 Wq2 hEq2 hq2 => ⟨q4, q5, q6, rfl, ?_⟩
    have hx := hx.ext hEq2
    have hA := hA.ext hEq2
    refine polyConst_call hq2 sz_1 (by omega) fun sB1 WB1 hEB1 hB1 => ⟨sB1, rfl, ?_⟩
    have hx := hx.ext hEB1
    have hA := hA.ext hEB1
    refine polySub_call hx hB1 bd_var bd_c1 (by omega) (by decide) (by decide) fun sB WB hEB hB => ⟨sB, rfl, ?_⟩
    rw [alB_eq] at hB
    have hA := hA.ext hEB
    refine polyMul_call hA hB bd_alA bd_alB (by omega) (by decide) (by decide) (by decide) fun s28 W27 hE27 h27 => ⟨s28, _, rfl, ?_⟩
    rw [alC_eq] at h27
    refine polyPlain_call h27 sz_al (by omega) (by decide) fun s32 W31 hE31 h31 => ⟨s32, rfl, ?_⟩
    rw [tx_al] at h31
    refine ⟨fun _ => ⟨fun _ => ?_, fun hn => ?_⟩, fun hb => ?_⟩
    · obtain ⟨_, e1, _, _⟩ := h31.at (i := 0) rfl
      obtain ⟨_, e2, _, _⟩ := h31.at (i := 1) rfl
      exact ⟨h31.inB (by omega) (by decide), _, _, _, _, e1, fun _ => ⟨h31.inB (by omega) (by decide), _, _, _, _, e2, fun W41 _ => ⟨congrArg Value.bool (@decide_eq_true _ (Classical.propDecidable _) rfl), trivial⟩⟩, fun hn => absurd rfl hn⟩
    · exact absurd (by rw [h31.n]; rfl) hn
    · rw [decide_eq_true alC_ok] at hb
      cases hb
theorem law8alive_call {W0 W : PW} {M : Nat → Prop}  {K : Value → PW → Prop}  (kont : ∀  (W' : PW), Ext W W' → (True) → K (.bool true) W') :
    callN Go.Proofs.Tryz.prog W0 M 15 [] W K :=
  callN_of (fun W' hE => law8alive_ok (M := fun _ => False) ) (fun W' v W'' hE hE' hP => by
    obtain ⟨rfl, h⟩ := hP
    exact kont  W'' (hE.trans hE') h)
end Go.Proofs.YtbingbjhgoanoaaGreat

/- An argument that is a slice of terms with texts, opened. -/
set_option maxRecDepth 100000
set_option linter.unusedVariables false
set_option linter.unusedSimpArgs false
namespace Go.Proofs.YtbingbjhgoanoaaGreat
open Go Go.SX Go.ChangeShapes Go.WideShapes Go.ChangeAt Go.RowKit Go.Deep
instance : Inhabited (Mon × ByteArray) := ⟨(⟨0, 0, 0⟩, ⟨#[]⟩)⟩
theorem ownKnob_none : ownKnob Go.Proofs.Tryz.prog.godebug = none := by kernel_rfl
theorem laidOut : laidOutB Go.Proofs.Tryz.prog = true := by kernel_rfl
theorem cells_term : Go.Proofs.Tryz.prog.cellsOf 43 = 4 := by kernel_rfl
theorem cells_mono : Go.Proofs.Tryz.prog.cellsOf 41 = 3 := by kernel_rfl
theorem cells_str : Go.Proofs.Tryz.prog.cellsOf 9 = 1 := by kernel_rfl
theorem cells_u8 : Go.Proofs.Tryz.prog.cellsOf 5 = 1 := by kernel_rfl
theorem cell_block {W : World} {b o : Nat} {v : Value} (h : W.cell? ⟨b, o, none⟩ = some v) : ∃ cs t fz, W.heap[b]? = some (.cells cs t fz) ∧ cs[o]? = some v := by
  unfold World.cell? at h
  cases e : W.heap[b]? with
  | none => simp [e] at h
  | some ob =>
    cases ob with
    | cells cs t fz => exact ⟨cs, t, fz, rfl, by simpa [e] using h⟩
    | _ => simp [e] at h
theorem bulk_one {H : Type} (d : DataW H) : 1 ≤ Rows.uptoBulk d := by
  cases d with
  | lit l => cases l <;> simp [Rows.uptoBulk]
  | nil => simp [Rows.uptoBulk]
  | ptr d => simp [Rows.uptoBulk]
  | slice elems spare => simp [Rows.uptoBulk]
  | agg parts => simp [Rows.uptoBulk]
  | iface t d => simp [Rows.uptoBulk]
  | map entries => simp [Rows.uptoBulk]
  | held h => simp [Rows.uptoBulk]
theorem bulk_part {H : Type} {d : DataW H} {l : List (DataW H)} (h : d ∈ l) : Rows.uptoBulk d ≤ Rows.uptoBulkAll l := by
  induction l with
  | nil => cases h
  | cons x r ih =>
    simp only [Rows.uptoBulkAll]
    cases List.mem_cons.1 h with
    | inl e => subst e; omega
    | inr e => have := ih e; omega
theorem bulk_length {H : Type} (l : List (DataW H)) : l.length ≤ Rows.uptoBulkAll l := by
  induction l with
  | nil => simp [Rows.uptoBulkAll]
  | cons x r ih => have := bulk_one x; simp only [Rows.uptoBulkAll, List.length_cons]; omega
/-- Rows of sz cells each. -/
theorem rowA_of_cellsN {W : World} {a : Addr} {n c sz : Nat} {V : Nat → List Value} (h : ∀ j, j < n → ∀ i v, (V j)[i]? = some v → W.cell? (a.add (j * sz + i)) = some v) (hV : ∀ j, j < n → (V j).length = sz) (hsz : 0 < sz) (hn : n ≤ c) (hc : c ≤ maxLen) (h1 : ∀ j, j < n → ∀ u ∈ V j, u.oneCell' = true) :
    RowA ⟨W, fun _ => False⟩ sz ⟨some a, n, c⟩ ((List.range n).map V) := by
  have hel : ∀ x ∈ (List.range n).map V, x.length = sz ∧ ∀ u ∈ x, u.oneCell' = true := by
    intro x hx
    obtain ⟨j, hj, rfl⟩ := List.mem_map.1 hx
    exact ⟨hV j (List.mem_range.1 hj), h1 j (List.mem_range.1 hj)⟩
  by_cases h0 : n = 0
  · subst h0
    exact ⟨0, rfl, Nat.zero_le _, hc, hel, .inl rfl⟩
  · obtain ⟨b, off, sp⟩ := a
    have hlen0 := hV 0 (by omega)
    obtain ⟨v0, hv0⟩ : ∃ v, (V 0)[0]? = some v := ⟨_, List.getElem?_eq_getElem (by omega)⟩
    have hc0 := h 0 (by omega) 0 v0 hv0
    have hsp : sp = none := by simpa [Addr.add] using World.cell?_spot hc0
    subst hsp
    obtain ⟨cs, t, fz, hh, _⟩ := cell_block (by rw [← add_plain]; exact hc0)
    refine ⟨t, by simp, hn, hc, hel, .inr ⟨b, off, cs, fz, rfl, id, hh, fun j v hj => ?_⟩⟩
    have hjl := (List.getElem?_eq_some_iff.1 hj).1
    rw [flatten_length (sz := sz) (fun x hx => (hel x hx).1)] at hjl
    simp only [List.length_map, List.length_range] at hjl
    have hi : j / sz < n := (Nat.div_lt_iff_lt_mul hsz).2 hjl
    have hm : j % sz < sz := Nat.mod_lt _ hsz
    have e : j / sz * sz + j % sz = j := by rw [Nat.mul_comm]; exact Nat.div_add_mod j sz
    have hx : ((List.range n).map V)[j / sz]? = some (V (j / sz)) := by simp [hi]
    have hl := hV _ hi
    have hf := flatten_at (sz := sz) (fun x hx => (hel x hx).1) hx (j := j % sz) (v := (V (j / sz))[j % sz]'(by omega)) (List.getElem?_eq_getElem (by omega))
    rw [e, hj] at hf
    have hcell := h _ hi (j % sz) v (by rw [hf]; exact List.getElem?_eq_getElem (by omega))
    rw [e, add_plain] at hcell
    obtain ⟨cs', t', fz', hh', hv⟩ := cell_block hcell
    rw [hh] at hh'
    cases hh'
    exact hv
theorem u8_ok {n : Int} (h : (Lit.int .u8 n).wf = true) : 0 ≤ n ∧ n ≤ 255 := by
  simp [Lit.wf, IntKind.min, IntKind.max, IntKind.bits, IntKind.signed] at h
  omega
/-- An element. -/
theorem open_term {H : Type} {enc : TypeId × Value → H} {W : World} {fuel : Nat} {cs : List Value} {x : DataW H × List MemPlace} (h : DataW.trod enc Go.Proofs.Tryz.prog W 0 (fun _ => true) true fuel 43 cs = some x) :
    ∃ t : Mon × ByteArray, AT cs t ∧ t.2.size ≤ Rows.uptoBulk x.1 := by
  obtain ⟨xs, k, rfl, rfl, hl, hxl, hf⟩ := DataW.trod_struct Go.Proofs.Tryz.underlying43 h
  rw [cells_term] at hl
  have g0 : DataW.trod enc Go.Proofs.Tryz.prog W 0 (fun _ => true) true k 41 ((cs.drop 0).take (Go.Proofs.Tryz.prog.cellsOf 41)) = xs[0]? := hf 0 _ rfl
  have g1 : DataW.trod enc Go.Proofs.Tryz.prog W 0 (fun _ => true) true k 9 ((cs.drop 3).take (Go.Proofs.Tryz.prog.cellsOf 9)) = xs[1]? := hf 1 _ rfl
  rw [cells_mono] at g0
  rw [cells_str] at g1
  match cs, hl, xs, hxl with
  | [v0, v1, v2, v3], _, [y0, y1], _ =>
    have g0 : DataW.trod enc Go.Proofs.Tryz.prog W 0 (fun _ => true) true k 41 [v0, v1, v2] = some y0 := g0
    have g1 : DataW.trod enc Go.Proofs.Tryz.prog W 0 (fun _ => true) true k 9 [v3] = some y1 := g1
    obtain ⟨zs, m, rfl, rfl, _, hzl, hz⟩ := DataW.trod_array Go.Proofs.Tryz.underlying41 g0
    obtain ⟨s, hs, rfl, hsz⟩ := DataW.trod_string Go.Proofs.Tryz.underlying9 g1
    have e0 := hz 0 (by omega)
    have e1 := hz 1 (by omega)
    have e2 := hz 2 (by omega)
    rw [cells_u8] at e0 e1 e2
    match zs, hzl with
    | [w0, w1, w2], _ =>
      have e0 : DataW.trod enc Go.Proofs.Tryz.prog W 0 (fun _ => true) true m 5 [v0] = some w0 := e0
      have e1 : DataW.trod enc Go.Proofs.Tryz.prog W 0 (fun _ => true) true m 5 [v1] = some w1 := e1
      have e2 : DataW.trod enc Go.Proofs.Tryz.prog W 0 (fun _ => true) true m 5 [v2] = some w2 := e2
      obtain ⟨n0, h0, _, k0⟩ := DataW.trod_int Go.Proofs.Tryz.underlying5 e0
      obtain ⟨n1, h1, _, k1⟩ := DataW.trod_int Go.Proofs.Tryz.underlying5 e1
      obtain ⟨n2, h2, _, k2⟩ := DataW.trod_int Go.Proofs.Tryz.underlying5 e2
      have hs : [v3] = [Value.string s] := hs
      have h0 : [v0] = [Value.int .u8 n0] := h0
      have h1 : [v1] = [Value.int .u8 n1] := h1
      have h2 : [v2] = [Value.int .u8 n2] := h2
      simp only [List.cons.injEq, and_true] at hs h0 h1 h2
      subst hs h0 h1 h2
      refine ⟨(⟨n0, n1, n2⟩, s), ⟨⟨u8_ok k0, u8_ok k1, u8_ok k2⟩, rfl⟩, ?_⟩
      have e : s.data.toList.length = s.size := by rw [Array.length_toList]; rfl
      simp only [List.map_cons, List.map_nil, Rows.uptoBulk, Rows.uptoBulkAll]
      omega
theorem all2_map {n : Nat} {V : Nat → List Value} {y : Nat → Mon × ByteArray} (h : ∀ i, i < n → AT (V i) (y i)) : All2 AT ((List.range n).map V) ((List.range n).map y) := by
  induction n with
  | zero => trivial
  | succ n ih =>
    rw [List.range_succ, List.map_append, List.map_append]
    exact (ih fun i hi => h i (by omega)).append ⟨h n (by omega), trivial⟩
theorem open_terms {H : Type} {enc : TypeId × Value → H} {W : World} {fuel : Nat} {v : Value} {d : DataW H} {p : List MemPlace} (h : DataW.trod enc Go.Proofs.Tryz.prog W 0 (fun _ => true) true fuel 22 [v] = some (d, p)) :
    ∃ (s : Sl) (L : List (Mon × ByteArray)), v = s.v ∧ IsAPoly ⟨W, fun _ => False⟩ s L ∧ L.length ≤ Rows.uptoBulk d ∧ ∀ t ∈ L, t.2.size ≤ Rows.uptoBulk d := by
  rcases open_slice Go.Proofs.Tryz.underlying22 h with ⟨hcs, hx⟩ | ⟨a, len, cap, m, n, D, Pl, hcs, _, hl, hm, hmm, hx, hcell⟩
  · have hv : v = .slice none 0 0 := by simpa using hcs
    subst hv
    exact ⟨⟨none, 0, 0⟩, [], rfl, ⟨[], ⟨0, rfl, Nat.le_refl _, Nat.zero_le _, fun x h => by simp at h, .inl rfl⟩, trivial⟩, Nat.zero_le _, fun l h => by simp at h⟩
  · have hv : v = .slice (some a) len cap := by simpa using hcs
    subst hv
    simp only [if_true] at hmm
    subst hmm
    simp only [Prod.mk.injEq] at hx
    obtain ⟨rfl, _⟩ := hx
    rw [cells_term] at hcell
    obtain ⟨q, hq⟩ : ∃ q : Nat → List Value × (Mon × ByteArray), ∀ i, i < m → W.cells? 0 (a.add (i * 4)) 4 = some (q i).1 ∧ AT (q i).1 (q i).2 ∧ (q i).2.2.size ≤ Rows.uptoBulk (D i) := choose_lt (α := List Value × (Mon × ByteArray)) (p := fun i q => W.cells? 0 (a.add (i * 4)) 4 = some q.1 ∧ AT q.1 q.2 ∧ q.2.2.size ≤ Rows.uptoBulk (D i)) fun i hi => by
      obtain ⟨cs', h1, h2⟩ := hcell i hi
      obtain ⟨t, h3, h4⟩ := open_term h2
      exact ⟨(cs', t), h1, h3, h4⟩
    have hr := rowA_of_cellsN (W := W) (a := a) (n := len) (c := m) (sz := 4) (V := fun i => (q i).1) (fun j hj i v hv => by
      obtain ⟨_, hlen, hc⟩ := World.cells?_some (hq j (by omega)).1
      have hi : i < 4 := by have := (List.getElem?_eq_some_iff.1 hv).1; omega
      have := hc i hi
      rw [add_add] at this
      rw [this]; exact hv) (fun j hj => (World.cells?_some (hq j (by omega)).1).2.1) (by omega) hl hm (fun j hj u hu => by
      rw [(hq j (by omega)).2.1.2] at hu
      simp only [List.mem_cons, List.not_mem_nil, or_false] at hu
      rcases hu with rfl | rfl | rfl | rfl <;> rfl)
    have hbulk : ∀ i, i < len → Rows.uptoBulk (D i) ≤ Rows.uptoBulkAll ((List.range len).map D) := fun i hi => bulk_part (List.mem_map.2 ⟨i, List.mem_range.2 hi, rfl⟩)
    have hlen := bulk_length ((List.range len).map D)
    simp only [List.length_map, List.length_range] at hlen
    refine ⟨⟨some a, len, m⟩, (List.range len).map fun i => (q i).2, rfl, ⟨_, hr, all2_map fun i hi => (hq i (by omega)).2.1⟩, ?_, fun t ht => ?_⟩
    · simp only [List.length_map, List.length_range, Rows.uptoBulk]
      omega
    · obtain ⟨j, hj, rfl⟩ := List.mem_map.1 ht
      have hj' := List.mem_range.1 hj
      have h1 := hbulk j hj'
      have h2 := (hq j (by omega)).2.2
      simp only [Rows.uptoBulk]
      omega
end Go.Proofs.YtbingbjhgoanoaaGreat

/- cincturelaw8.PolyNews. -/
set_option maxRecDepth 100000
set_option linter.unusedVariables false
set_option linter.unusedSimpArgs false
namespace Go.Proofs.YtbingbjhgoanoaaGreat
open Go Go.SX
theorem numQ_sz {a : ByteArray} {q : Rat} (h : numQ a = some q) : Sz 4000 q := by
  unfold numQ at h
  split at h
  · exact (parseQ_sz h).1
  · cases h
theorem isRPoly_of {W : PW} {s : Sl} {xs : List (List Value)} {p : List Tm} (h : Row W 47 6 s xs) (ha : All2 (RT 183 W) xs p) : IsRPoly 183 47 W s p := ⟨xs, h, ha⟩
/-- Both rows say the same. -/
def Both (W : PW) (l l' : List (List Value)) (p : List Tm) : Prop := All2 (PT 183 W) l p ∧ All2 (RT 183 W) l' p
theorem Both.ext {W W' : PW} {l l' : List (List Value)} {p : List Tm} (h : Both W l l' p) (hE : Ext W W') : Both W' l l' p := ⟨h.1.mono fun _ _ h => h.ext hE, h.2.mono fun _ _ h => h.ext hE⟩
def newsI (W0 : PW) (n : Nat) (L : List PL) (W : PW) : Prop := match L with
  | [.row l, .row l', .val (.int .i64 i)] => ∃ (j : Nat) (p : List Tm), i = (j : Int) ∧ j ≤ 14 ∧ j ≤ n ∧ Ext W0 W ∧ Both W l l' p ∧ p.length ≤ j ∧ ∀ t ∈ p, Sz 4000 t.2
  | _ => False
def newsE (W0 : PW) (L : List PL) (W : PW) : Prop := match L with
  | [.row l, .row l'] => ∃ p : List Tm, Ext W0 W ∧ Both W l l' p ∧ p.length ≤ 14 ∧ ∀ t ∈ p, Sz 4000 t.2
  | _ => False
theorem polyNews_ok {W0 : PW} {M : Nat → Prop} {s : Sl} {L : List (Mon × ByteArray)} (h : IsAPoly W0 s L) (hl : L.length ≤ 1099511627776) (hz : ∀ t ∈ L, t.2.size ≤ 1099511627776) :
    PCallsM Go.Proofs.Tryz.prog 3 [s.v] W0 M fun v W' => v = .bool true ∧ True := by
  apply calllaw8_PolyNews
  have hn := h.n
  refine law8alive_call fun W2 hE2 _ => ⟨true, rfl, fun e => (by cases e), fun _ => ⟨newsE W0, ⟨newsI W0 L.length, fun l _ => match l with | [_, _, .val (.int .i64 i)] => 14 - i.toNat | _ => 0, ⟨0, [], rfl, by omega, by omega, hE2, ⟨trivial, trivial⟩, Nat.le_refl _, fun t ht => by simp at ht⟩, ?_⟩, ?_⟩⟩
  · rintro l8 l9 i10 W11 ⟨j, p, rfl, hj, hjn, hE, hB, hpl, hsz⟩
    have l1 := hB.1.len
    have l2 := hB.2.len
    refine ⟨fun hlt => ⟨fun hlt14 => ?_, fun _ => ⟨p, hE, hB, by omega, hsz⟩⟩, fun _ => ⟨p, hE, hB, by omega, hsz⟩⟩
    have hjl : j < L.length := by omega
    have hL := h.ext hE
    have hib := hL.inB (i := (j : Int)) (by omega) (by omega)
    obtain ⟨h0, _, _, e3⟩ := hL.at (List.getElem?_eq_getElem hjl)
    have hmu : 14 - Int.toNat ((j : Int) + 1) < 14 - Int.toNat (j : Int) := by omega
    refine ⟨hib, _, e3, law3Num_call (hz _ (List.getElem_mem hjl)) fun s15 b16 s17 b18 s19 s20 W14 hE14 hq => ⟨s15, b16, s17, b18, s19, s20, _, rfl, fun hs => ?_, fun _ => ⟨by unfold I64; omega, ⟨j + 1, p, by push_cast; rfl, by omega, by omega, hE.trans hE14, hB.ext hE14, by omega, hsz⟩, hmu⟩⟩⟩
    obtain ⟨q, hq'⟩ := Option.isSome_iff_exists.1 hs
    rw [hq'] at hq
    obtain ⟨hq1, hq2⟩ := hq
    obtain ⟨_, _, e2, _⟩ := (hL.ext hE14).at (List.getElem?_eq_getElem hjl)
    refine ⟨hib, _, _, _, e2, hib, _, _, _, e2, ?_⟩
    have hst : newsI W0 L.length [.row (l8 ++ [[.int .u8 L[j].1.x, .int .u8 L[j].1.y, .int .u8 L[j].1.z, s15.v, .bool b16, s17.v]]), .row (l9 ++ [[.int .u8 L[j].1.x, .int .u8 L[j].1.y, .int .u8 L[j].1.z, .bool b18, s19.v, s20.v]]), .val (.int .i64 ((j : Int) + 1))] W14 := by
      refine ⟨j + 1, p ++ [(L[j].1, q)], by push_cast; rfl, by omega, by omega, hE.trans hE14, ⟨((hB.ext hE14).1).snoc ⟨h0, s15, b16, s17, rfl, hq1⟩, ((hB.ext hE14).2).snoc ⟨h0, b18, s19, s20, rfl, hq2⟩⟩, by simp; omega, fun t ht => ?_⟩
      rcases List.mem_append.1 ht with ht | ht
      · exact hsz t ht
      · simp at ht
        subst ht
        exact numQ_sz hq'
    have b8 : (List.length l8 + List.length [[Value.int .u8 L[j].1.x, .int .u8 L[j].1.y, .int .u8 L[j].1.z, s15.v, .bool b16, s17.v]]) * 64 ≤ 140737488355328 := by simp; omega
    have b9 : (List.length l9 + List.length [[Value.int .u8 L[j].1.x, .int .u8 L[j].1.y, .int .u8 L[j].1.z, .bool b18, s19.v, s20.v]]) * 64 ≤ 140737488355328 := by simp; omega
    have hi : I64 ((j : Int) + 1) := by unfold I64; omega
    have r := Ext.refl W14
    exact ⟨⟨r, ⟨b8, r, r, b9, r, r, hi, hst, hmu⟩, r, b8, r, b9, r, r, hi, hst, hmu⟩, r, r, b8, r, b9, r, r, hi, hst, hmu⟩
  · rintro l28 l29 W30 ⟨p, hE, hB, hpl, hsz⟩ s31 W32 hE32 hO _
    have hbd : Bd 56029 p := (Bd.of_sz hsz).mono (by omega)
    refine polyNew_call (isPoly_of hO.row (hB.ext hE32).1) hbd (by omega) (by omega) fun s35 W34 hE34 h35 => ⟨s35, rfl, fun s36 W37 hE37 hO' _ => ?_⟩
    refine refPolyOf_call (isRPoly_of hO'.row (hB.ext ((hE32.trans hE34).trans hE37)).2) hbd (by omega) (by omega) fun s40 W39 hE39 h40 => ⟨s40, rfl, ?_⟩
    have hlen := pnorm_len p
    exact law8Is_call (h35.ext (hE37.trans hE39)) h40 hbd.norm.sz (by omega) (by omega) fun W42 _ _ => ⟨true, rfl, fun W44 _ => ⟨rfl, trivial⟩⟩
theorem polyNews_call {W0 W : PW} {M : Nat → Prop} {s : Sl} {L : List (Mon × ByteArray)} {K : Value → PW → Prop} (h : IsAPoly W s L) (hl : L.length ≤ 1099511627776) (hz : ∀ t ∈ L, t.2.size ≤ 1099511627776) (kont : ∀  (W' : PW), Ext W W' → (True) → K (.bool true) W') :
    callN Go.Proofs.Tryz.prog W0 M 3 [s.v] W K :=
  callN_of (fun W' hE => polyNews_ok (M := fun _ => False) (h.ext hE) hl hz) (fun W' v W'' hE hE' hP => by
    obtain ⟨rfl, h⟩ := hP
    exact kont  W'' (hE.trans hE') h)
end Go.Proofs.YtbingbjhgoanoaaGreat

/- cincturelaw8.PolyNews answers true for every input whose bulk is at most 1048576 (the second form), and its argument reads behind the call as it did ahead of it. -/
set_option maxRecDepth 100000
set_option linter.unusedVariables false
set_option linter.unusedSimpArgs false
namespace Go.Proofs.YtbingbjhgoanoaaGreat
open Go Go.SX Go.ChangeShapes Go.WideShapes Go.ChangeAt Go.RowKit Go.Deep
/-- What the walk gives, for every argument within the bound. -/
theorem contract (H : Type) (enc : TypeId × Value → H) (W : World) (base : Nat) (args : Array Value) (ds gs : List (DataW H)) (before : List MemPlace)
    (hval : ∀ (j : Nat) t v, Go.Proofs.Tryz.f3.params[j]? = some t → args[j]? = some v → Value.okWide Go.Proofs.Tryz.prog W .any base t v)
    (hW : DataW.Whole enc Go.Proofs.Tryz.prog Go.Proofs.Tryz.f3.params.toList Rows.polyNewsSpec.vars false W args.toList ds gs before) (hk : Rows.uptoSmall H (ds ++ gs) = true) :
    Calls Go.Proofs.Tryz.prog 3 args W fun e W' => ∃ v, e = .returned v ∧ Rows.polyNewsSpec.post enc Go.Proofs.Tryz.prog Go.Proofs.Tryz.f3 false true false false W args v W' := by
  have hW' := hW
  obtain ⟨p, q, hA0, hV, rfl, hfz, hnd⟩ := hW
  have hA : DataW.TrodAll enc Go.Proofs.Tryz.prog W 0 (fun _ => true) true Go.Proofs.Tryz.f3.params.toList args.toList ds p := hA0
  rw [Go.Proofs.Tryz.params3] at hA hval
  obtain ⟨v0, vs0, d0, ds0, p0, q0, hargs, rfl, rfl, h0, r0⟩ := trodAll_cons hA
  obtain ⟨rfl, rfl, rfl⟩ := trodAll_nil r0
  obtain rfl : args = #[v0] := by cases args; simp_all
  obtain ⟨rfl, rfl⟩ := trodVars_none hV
  obtain ⟨a, n, c, rfl⟩ := okWide_slice Go.Proofs.Tryz.underlying22 (hval 0 22 v0 rfl rfl)
  clear hA0
  simp only [List.append_nil] at hW' hk
  have hlt : ∀ x ∈ p0, x.block < W.heap.size := fun x hx => by simpa using hW'.lt x (by simpa using hx)
  have h0k := h0
  obtain ⟨fuel, hf⟩ := h0
  have hf' : DataW.trod enc Go.Proofs.Tryz.prog W 0 (fun _ => true) true fuel 22 [.slice a n c] = some (d0, p0) := by simpa [Value.cells] using hf
  obtain ⟨s, L, hs, hL, hb1, hb2⟩ := open_terms hf'
  have hsmall : Rows.uptoBulk d0 ≤ 1048576 := by
    have : Rows.uptoBulkAll [d0] ≤ 1048576 := of_decide_eq_true hk
    simpa [Rows.uptoBulkAll] using this
  have hc := polyNews_ok (M := fun _ => False) hL (by omega) (fun t ht => by have := hb2 t ht; omega)
  have hcall := hc.2 (fun b h => h.elim)
  rw [hs]
  refine hcall.mono fun e W' ⟨v, he, hkeep, hv, _⟩ => ⟨v, he, ?_⟩
  subst hv
  have hbel := hkeep.below
  refine ⟨[d0], [], _, [], p0, [], (by rw [← hs]; simpa using hW'), trodAll_mk1 (shut_bool Go.Proofs.Tryz.underlying4 _), (by rw [← hs]; exact trodAll_mk1 (Below.trod laidOut (by kernel_rfl) (of_decide_eq_true (by kernel_rfl)) h0k hbel hlt)), rfl, hbel.frame _, fun h => by cases h⟩
theorem lifted (os : Os) (started : os.Started) (H : Type) (enc : TypeId × Value → H) (F : Stop.Interp) :
    ReturnsInHanded {} Go.Proofs.Tryz.checked os 3 .any ((Rows.OpenSpec.upto Rows.polyNewsSpec).pre6 enc Go.Proofs.Tryz.prog Go.Proofs.Tryz.f3 Rows.polyNewsUptoRow.domain false) (((Rows.OpenSpec.upto Rows.polyNewsSpec).at F).post enc Go.Proofs.Tryz.prog Go.Proofs.Tryz.f3 false true false false) := by
  refine returnsInHanded_of_cond (C := Go.Proofs.Tryz.checked) (s := Rows.OpenSpec.upto Rows.polyNewsSpec) (k := Rows.uptoSmall) rfl ownKnob_none started (by kernel_rfl) Go.Proofs.Tryz.func3
    (OpenSpec.witness (enc := enc) (C := Go.Proofs.Tryz.checked) (s := Rows.OpenSpec.upto Rows.polyNewsSpec) (k := Rows.uptoSmall) rfl false ⟨#[], #[.slice none 0 0], []⟩ 8 (by kernel_rfl) (by kernel_rfl) (by kernel_rfl)
      (x := ([.nil], [], [])) (by kernel_rfl) rfl (by kernel_rfl)) ?_
  intro W base args ds gs before hval hW _ hk _
  exact contract H enc W base args ds gs before hval hW hk
theorem polyNews_holds : Rows.PolyNewsUptoSaid :=
  OpenClaim.holds_of_cond 3 Go.Proofs.Tryz.f3 rfl rfl rfl rfl rfl rfl rfl ⟨rfl, rfl, rfl, rfl, rfl⟩ rfl rfl rfl rfl rfl (by kernel_rfl) Go.Proofs.Tryz.func3 (by kernel_rfl)
    (of_decide_eq_true (by kernel_rfl)) (by unfold Func.isWrapper; first | (rw [if_pos (by decide +kernel)]; kernel_rfl) | (rw [if_neg (by decide +kernel)]; exact ⟨rfl, rfl⟩))
    (fun os started H enc _ F => lifted os started H enc F)
#print axioms polyNews_holds
end Go.Proofs.YtbingbjhgoanoaaGreat
