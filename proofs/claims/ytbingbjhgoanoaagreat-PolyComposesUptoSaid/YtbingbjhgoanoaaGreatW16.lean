/- cinctureref1: PolyAdd, PolyScale, PolySub, Var, Const, PolySame. -/
import Derived.Test.YtbingbjhgoanoaaGreatW15
import Derived.Test.YtbingbjhgoanoaaGreatR19
import Derived.Test.YtbingbjhgoanoaaGreatR20
set_option linter.unusedVariables false
set_option linter.unusedSimpArgs false
set_option maxRecDepth 100000
set_option linter.unusedVariables false
set_option linter.unusedSimpArgs false
namespace Go.Proofs.YtbingbjhgoanoaaGreat
open Go Go.SX
theorem refPolyAdd_ok {W0 : PW} {M : Nat → Prop} {sp sq : Sl} {p q : List Tm} {k : Nat} (h1 : IsRPoly 183 47 W0 sp p) (h2 : IsRPoly 183 47 W0 sq q) (g1 : PGood p) (b1 : Bd k p) (b2 : Bd k q) (hk : k ≤ 40000000) (hp : p.length ≤ 536870912) (hq : q.length ≤ 536870912) :
    PCallsM Go.Proofs.Tryz.prog 32 [sp.v, sq.v] W0 M fun v W' => ∃ (s' : Sl), v = Sl.v s' ∧ IsRPoly 183 47 W' s' (pnorm (p ++ q)) := by
  apply callref1_PolyAdd
  have n2 := h2.n
  refine ⟨fun L W => match L with
    | [.val (.slice A n c), .val (.int .i64 i)] => ∃ j : Nat, i = (j : Int) ∧ j ≤ q.length ∧ Ext W0 W ∧ IsRPoly 183 47 W ⟨A, n, c⟩ (pnorm (p ++ q.take j))
    | _ => False, cnL q.length, ⟨0, rfl, by omega, Ext.refl _, by rw [List.take_zero, List.append_nil, pnorm_of g1]; exact h1⟩, ?_⟩
  rintro s3 i4 W5 ⟨j, rfl, hj, hE5, hp5⟩
  have hp5 : IsRPoly 183 47 W5 s3 (pnorm (p ++ q.take j)) := hp5
  refine ⟨fun hlt => ?_, fun hge W15 hE15 => ⟨s3, rfl, ?_⟩⟩
  · have hjl : j < q.length := by omega
    obtain ⟨h0, c1, s1, s2, e1, _, _, hr⟩ := (h2.ext hE5).at (List.getElem?_eq_getElem hjl)
    have hlen := pnorm_len (p ++ q.take j)
    rw [List.length_append, List.length_take] at hlen
    refine ⟨(h2.ext hE5).inB (by omega) (by omega), _, _, _, c1, s1, s2, e1, refPut_call (m := q[j].1) hp5 hr h0 ((b1.append (b2.take j)).norm.sz) ((b2.sz _ (List.getElem_mem hjl)).mono (by omega)) (by omega) (by omega) fun s' W13 hE13 h13 => ⟨s', rfl, by unfold I64; omega, ⟨j + 1, by push_cast; rfl, by omega, hE5.trans hE13, ?_⟩, ?_⟩⟩
    · rw [take_snocR hjl, ← List.append_assoc, pnorm_snoc]
      exact h13
    · show q.length - Int.toNat ((j : Int) + 1) < q.length - Int.toNat (j : Int)
      omega
  · have : j = q.length := by omega
    subst this
    rw [List.take_length] at hp5
    exact hp5.ext hE15
theorem refPolyAdd_call {W0 W : PW} {M : Nat → Prop} {sp sq : Sl} {p q : List Tm} {k : Nat} {K : Value → PW → Prop} (h1 : IsRPoly 183 47 W sp p) (h2 : IsRPoly 183 47 W sq q) (g1 : PGood p) (b1 : Bd k p) (b2 : Bd k q) (hk : k ≤ 40000000) (hp : p.length ≤ 536870912) (hq : q.length ≤ 536870912) (kont : ∀ (s' : Sl) (W' : PW), Ext W W' → (IsRPoly 183 47 W' s' (pnorm (p ++ q))) → K (Sl.v s') W') :
    callN Go.Proofs.Tryz.prog W0 M 32 [sp.v, sq.v] W K :=
  callN_of (fun W' hE => refPolyAdd_ok (M := fun _ => False) (h1.ext hE) (h2.ext hE) g1 b1 b2 hk hp hq) (fun W' v W'' hE hE' hP => by
    obtain ⟨s', rfl, h⟩ := hP
    exact kont s' W'' (hE.trans hE') h)
theorem refConst_ok {W0 : PW} {M : Nat → Prop} {s t : Sl} {b : Bool} {q : Rat} {k : Nat} (h : IsRefQ 183 W0 b s t q) (hq : Sz k q) (hk : k ≤ 100000000) :
    PCallsM Go.Proofs.Tryz.prog 42 [.agg ⟨[.bool b, s.v, t.v]⟩] W0 M fun v W' => ∃ (s' : Sl), v = Sl.v s' ∧ IsRPoly 183 47 W' s' (pnorm [(⟨0, 0, 0⟩, q)]) := by
  apply callref1_Const
  exact refPut_call (sp := ⟨none, 0, 0⟩) (m := ⟨0, 0, 0⟩) (IsRPoly.nil W0) h (by decide) (fun t ht => by simp at ht) hq hk (by simp) fun s' W2 hE2 h2 => ⟨s', rfl, fun W4 hE4 => ⟨s', rfl, h2.ext hE4⟩⟩
theorem refConst_call {W0 W : PW} {M : Nat → Prop} {s t : Sl} {b : Bool} {q : Rat} {k : Nat} {K : Value → PW → Prop} (h : IsRefQ 183 W b s t q) (hq : Sz k q) (hk : k ≤ 100000000) (kont : ∀ (s' : Sl) (W' : PW), Ext W W' → (IsRPoly 183 47 W' s' (pnorm [(⟨0, 0, 0⟩, q)])) → K (Sl.v s') W') :
    callN Go.Proofs.Tryz.prog W0 M 42 [.agg ⟨[.bool b, s.v, t.v]⟩] W K :=
  callN_of (fun W' hE => refConst_ok (M := fun _ => False) (h.ext hE) hq hk) (fun W' v W'' hE hE' hP => by
    obtain ⟨s', rfl, h⟩ := hP
    exact kont s' W'' (hE.trans hE') h)
end Go.Proofs.YtbingbjhgoanoaaGreat

/- poly.Compose, cinctureref1.Compose. -/
set_option maxRecDepth 100000
set_option linter.unusedVariables false
set_option linter.unusedSimpArgs false
namespace Go.Proofs.YtbingbjhgoanoaaGreat
open Go Go.SX
noncomputable def stepM (c : Option (List Tm)) (q : List Tm) : Option (List Tm) := match c with
  | none => none
  | some c => if MulOK c q then some (pnorm (ppairs c q)) else none
noncomputable def runF (c : List Tm) (l : List (List Tm)) : Option (List Tm) := l.foldl stepM (some c)
def facs (q : Nat → List Tm) (e : Nat → Nat) : Nat → List (List Tm)
  | 0 => []
  | m + 1 => facs q e m ++ List.replicate (e m) (q m)
def ege (t : Tm) (i : Nat) : Nat := (eget t.1 i).toNat
def cst (r : Rat) : List Tm := pnorm [(⟨0, 0, 0⟩, r)]
noncomputable def termC (q : Nat → List Tm) (t : Tm) : Option (List Tm) := runF (cst t.2) (facs q (ege t) 3)
noncomputable def compL (q : Nat → List Tm) : List Tm → Option (List Tm)
  | [] => some []
  | t :: r => match termC q t, compL q r with
    | some c, some d => some (c ++ d)
    | _, _ => none
theorem foldl_none (l : List (List Tm)) : l.foldl stepM none = none := by
  induction l with
  | nil => rfl
  | cons q r ih => exact ih
theorem runF_snoc (c : List Tm) (l : List (List Tm)) (q : List Tm) : runF c (l ++ [q]) = stepM (runF c l) q := by simp [runF]
theorem runF_app (c : List Tm) (l r : List (List Tm)) (h : runF c l = none) : runF c (l ++ r) = none := by
  unfold runF at *
  rw [List.foldl_append, h, foldl_none]
theorem compL_snoc (q : Nat → List Tm) (l : List Tm) (t : Tm) : compL q (l ++ [t]) = match compL q l, termC q t with
    | some d, some c => some (d ++ c)
    | _, _ => none := by
  induction l with
  | nil =>
    simp only [List.nil_append, compL]
    cases termC q t <;> simp
  | cons u r ih =>
    simp only [List.cons_append, compL, ih]
    cases termC q u <;> cases compL q r <;> cases termC q t <;> simp
theorem compL_bad {q : Nat → List Tm} {p : List Tm} {t : Tm} (ht : t ∈ p) (h : termC q t = none) : compL q p = none := by
  induction p with
  | nil => simp at ht
  | cons u r ih =>
    rw [compL]
    rcases List.mem_cons.1 ht with rfl | ht
    · rw [h]
    · rw [ih ht]
      cases termC q u <;> rfl
theorem runF_bd {k : Nat} : ∀ {l : List (List Tm)} {c d : List Tm} {b a : Nat} (_ : runF c l = some d) (_ : ∀ q ∈ l, Bd k q ∧ q.length ≤ 10) (_ : Bd b c) (_ : c.length ≤ a), Bd (b + l.length * k) d ∧ d.length ≤ a * 10 ^ l.length
  | [], c, d, b, a, h, _, h1, h2 => by
    simp [runF] at h
    subst h
    simpa using ⟨h1, h2⟩
  | q :: r, c, d, b, a, h, hq, h1, h2 => by
    have e : runF c (q :: r) = r.foldl stepM (stepM (some c) q) := rfl
    rw [e] at h
    unfold stepM at h
    dsimp only at h
    split at h
    · have hq0 := hq q (by simp)
      have hl : (pnorm (ppairs c q)).length ≤ a * 10 := by
        have := pnorm_len (ppairs c q)
        rw [ppairs_len] at this
        exact Nat.le_trans this (Nat.mul_le_mul h2 hq0.2)
      have := runF_bd (l := r) (c := pnorm (ppairs c q)) h (fun x hx => hq x (by simp [hx])) ((h1.pairs hq0.1).norm) hl
      refine ⟨this.1.mono ?_, Nat.le_trans this.2 ?_⟩
      · rw [List.length_cons, Nat.add_mul]
        omega
      · rw [List.length_cons, Nat.pow_succ, Nat.mul_assoc, Nat.mul_comm 10]
        exact Nat.le_refl _
    · have h : r.foldl stepM none = some d := h
      rw [foldl_none] at h
      cases h
theorem facs_mem {q : Nat → List Tm} {e : Nat → Nat} {m : Nat} {x : List Tm} (h : x ∈ facs q e m) : ∃ i, i < m ∧ x = q i := by
  induction m with
  | zero => simp [facs] at h
  | succ m ih =>
    rcases List.mem_append.1 h with h | h
    · obtain ⟨i, h1, h2⟩ := ih h
      exact ⟨i, by omega, h2⟩
    · exact ⟨m, by omega, List.eq_of_mem_replicate h⟩
structure FacOK (k : Nat) (q : Nat → List Tm) (p : List Tm) : Prop where
  fac : ∀ i, i < 3 → Bd k (q i) ∧ (q i).length ≤ 10
  sz : ∀ t ∈ p, Sz k t.2
  deg : ∀ t ∈ p, t.1.deg ≤ 5
  ok : POk p
  len : p.length ≤ 14
  k : k ≤ 100000
theorem cst_bd {k : Nat} {r : Rat} (h : Sz k r) : Bd (k + 3) (cst r) ∧ (cst r).length ≤ 1 := ⟨(bd_one h).norm, pnorm_len _⟩
theorem facs3_len (q : Nat → List Tm) {t : Tm} (h : t.1.ok) : (facs q (ege t) 3).length = t.1.deg.toNat := by
  obtain ⟨⟨h1, _⟩, ⟨h2, _⟩, h3, _⟩ := h
  simp only [facs, List.nil_append, List.length_append, List.length_replicate, ege, eget, Mon.deg]
  simp
  omega
theorem facs_part_len (q : Nat → List Tm) {t : Tm} {m n : Nat} (hm : m < 3) (hn : n ≤ ege t m) : (facs q (ege t) m ++ List.replicate n (q m)).length ≤ (facs q (ege t) 3).length := by
  rcases (by omega : m = 0 ∨ m = 1 ∨ m = 2) with rfl | rfl | rfl <;> simp [facs] <;> omega
theorem FacOK.part {k : Nat} {q : Nat → List Tm} {p : List Tm} (h : FacOK k q p) {t : Tm} (ht : t ∈ p) {m n : Nat} (hm : m < 3) (hn : n ≤ ege t m) {c : List Tm} (hc : runF (cst t.2) (facs q (ege t) m ++ List.replicate n (q m)) = some c) : Bd (6 * k + 3) c ∧ c.length ≤ 100000 := by
  have h0 := cst_bd (h.sz t ht)
  have hl := facs_part_len q hm hn
  rw [facs3_len q (h.ok t ht)] at hl
  have hd := h.deg t ht
  have h5 : (facs q (ege t) m ++ List.replicate n (q m)).length ≤ 5 := by omega
  have := runF_bd hc (fun x hx => by
    rcases List.mem_append.1 hx with hx | hx
    · obtain ⟨i, hi, rfl⟩ := facs_mem hx
      exact h.fac i (by omega)
    · rw [List.eq_of_mem_replicate hx]
      exact h.fac m hm) h0.1 h0.2
  refine ⟨this.1.mono ?_, Nat.le_trans this.2 ?_⟩
  · have := Nat.mul_le_mul_right k h5
    omega
  · have := Nat.pow_le_pow_right (show 0 < 10 by omega) h5
    omega
theorem FacOK.all {k : Nat} {q : Nat → List Tm} {p : List Tm} (h : FacOK k q p) {t : Tm} (ht : t ∈ p) {c : List Tm} (hc : termC q t = some c) : Bd (6 * k + 3) c ∧ c.length ≤ 100000 := by
  have e : facs q (ege t) 3 = facs q (ege t) 2 ++ List.replicate (ege t 2) (q 2) := rfl
  unfold termC at hc
  rw [e] at hc
  exact h.part ht (by omega) (Nat.le_refl _) hc
theorem FacOK.take {k : Nat} {q : Nat → List Tm} {p : List Tm} (h : FacOK k q p) (j : Nat) : FacOK k q (p.take j) := ⟨h.fac, fun t ht => h.sz t (List.mem_of_mem_take ht), fun t ht => h.deg t (List.mem_of_mem_take ht), fun t ht => h.ok t (List.mem_of_mem_take ht), by have := h.len; rw [List.length_take]; omega, h.k⟩
theorem FacOK.sum {k : Nat} {q : Nat → List Tm} : ∀ {p : List Tm} (_ : FacOK k q p) {d : List Tm} (_ : compL q p = some d), Bd (p.length * (6 * k + 4) + 1) d ∧ d.length ≤ p.length * 100000
  | [], h, d, hd => by
    simp only [compL, Option.some.injEq] at hd
    subst hd
    exact ⟨⟨1, 0, trivial, by decide, by rw [nl_one]; omega, by rw [nl_zero]; omega⟩, by simp⟩
  | t :: r, h, d, hd => by
    rw [compL] at hd
    split at hd
    · rename_i c d' h1 h2
      simp only [Option.some.injEq] at hd
      subst hd
      have a := h.all (List.mem_cons_self ..) h1
      have b := FacOK.sum (p := r) ⟨h.fac, fun u hu => h.sz u (List.mem_cons_of_mem _ hu), fun u hu => h.deg u (List.mem_cons_of_mem _ hu), fun u hu => h.ok u (List.mem_cons_of_mem _ hu), by have := h.len; simp at this; omega, h.k⟩ h2
      refine ⟨(a.1.append b.1).mono ?_, ?_⟩
      · rw [List.length_cons, Nat.add_mul]
        omega
      · rw [List.length_append, List.length_cons, Nat.add_mul]
        omega
    · cases hd
def selS (s0 s1 s2 : Sl) (m : Nat) : Sl := if m = 0 then s0 else if m = 1 then s1 else s2
def selQ (q0 q1 q2 : List Tm) (m : Nat) : List Tm := if m = 0 then q0 else if m = 1 then q1 else q2
theorem boxAt_sel (s0 s1 s2 : Sl) {m : Nat} (hm : m < 3) : BoxAt [s0.v, s1.v, s2.v] (0 + Int.toNat (m : Int) * 1 + 0) [(selS s0 s1 s2 m).v] := by
  rcases (by omega : m = 0 ∨ m = 1 ∨ m = 2) with rfl | rfl | rfl <;> exact ⟨by simp, rfl⟩
theorem IsPoly_sel {W : PW} {s0 s1 s2 : Sl} {q0 q1 q2 : List Tm} (h0 : IsPoly 183 45 W s0 q0) (h1 : IsPoly 183 45 W s1 q1) (h2 : IsPoly 183 45 W s2 q2) (m : Nat) : IsPoly 183 45 W (selS s0 s1 s2 m) (selQ q0 q1 q2 m) := by
  unfold selS selQ
  (repeat' split) <;> assumption
theorem IsRPoly_sel {W : PW} {s0 s1 s2 : Sl} {q0 q1 q2 : List Tm} (h0 : IsRPoly 183 47 W s0 q0) (h1 : IsRPoly 183 47 W s1 q1) (h2 : IsRPoly 183 47 W s2 q2) (m : Nat) : IsRPoly 183 47 W (selS s0 s1 s2 m) (selQ q0 q1 q2 m) := by
  unfold selS selQ
  (repeat' split) <;> assumption
theorem ege_step {q : Nat → List Tm} {t : Tm} {m n : Nat} : facs q (ege t) m ++ List.replicate (n + 1) (q m) = facs q (ege t) m ++ List.replicate n (q m) ++ [q m] := by
  rw [List.replicate_succ', List.append_assoc]
theorem term_fail {q : Nat → List Tm} {t : Tm} {m n : Nat} (hm : m < 3) (hn : n ≤ ege t m) (h : runF (cst t.2) (facs q (ege t) m ++ List.replicate n (q m)) = none) : termC q t = none := by
  have key : ∃ r, facs q (ege t) 3 = facs q (ege t) m ++ List.replicate n (q m) ++ r := by
    have hr : List.replicate (ege t m) (q m) = List.replicate n (q m) ++ List.replicate (ege t m - n) (q m) := by rw [List.replicate_append_replicate]; congr 1; omega
    rcases (by omega : m = 0 ∨ m = 1 ∨ m = 2) with rfl | rfl | rfl
    · refine ⟨List.replicate (ege t 0 - n) (q 0) ++ (List.replicate (ege t 1) (q 1) ++ List.replicate (ege t 2) (q 2)), ?_⟩
      simp only [facs, hr, List.nil_append, List.append_assoc]
    · refine ⟨List.replicate (ege t 1 - n) (q 1) ++ List.replicate (ege t 2) (q 2), ?_⟩
      simp only [facs, hr, List.nil_append, List.append_assoc]
    · refine ⟨List.replicate (ege t 2 - n) (q 2), ?_⟩
      simp only [facs, hr, List.nil_append, List.append_assoc]
  obtain ⟨r, hr⟩ := key
  unfold termC
  rw [hr]
  exact runF_app _ _ _ h
def cpO (W0 : PW) (q : Nat → List Tm) (p : List Tm) (L : List PL) (W : PW) : Prop := match L with
  | [.row l, .val (.int .i64 i), _] => ∃ (j : Nat) (acc : List Tm), i = (j : Int) ∧ j ≤ p.length ∧ Ext W0 W ∧ compL q (p.take j) = some acc ∧ All2 (PT 183 W) l acc
  | _ => False
def cpI (W0 : PW) (q : Nat → List Tm) (t : Tm) (L : List PL) (W : PW) : Prop := match L with
  | [_, .val (.int .i64 i), .cells [.slice A n c], _] => ∃ (m : Nat) (d : List Tm), i = (m : Int) ∧ m ≤ 3 ∧ Ext W0 W ∧ runF (cst t.2) (facs q (ege t) m) = some d ∧ IsPoly 183 45 W ⟨A, n, c⟩ d
  | _ => False
def cpK (W0 : PW) (q : Nat → List Tm) (t : Tm) (m : Nat) (L : List PL) (W : PW) : Prop := match L with
  | [_, .val (.int .u8 i), .cells [.slice A n c], _] => ∃ (k : Nat) (d : List Tm), i = (k : Int) ∧ k ≤ ege t m ∧ Ext W0 W ∧ runF (cst t.2) (facs q (ege t) m ++ List.replicate k (q m)) = some d ∧ IsPoly 183 45 W ⟨A, n, c⟩ d
  | _ => False
theorem at_eget (m : Mon) {k : Nat} (hk : k < 3) : List.take 1 (List.drop (Int.toNat (k : Int) * 1) [Value.int .u8 m.x, .int .u8 m.y, .int .u8 m.z]) = [.int .u8 (eget m k)] := by
  rcases (by omega : k = 0 ∨ k = 1 ∨ k = 2) with rfl | rfl | rfl <;> rfl
theorem polyCompose_ok {W0 : PW} {M : Nat → Prop} {s s0 s1 s2 : Sl} {p q0 q1 q2 : List Tm} {k : Nat} (h : IsPoly 183 45 W0 s p) (g0 : IsPoly 183 45 W0 s0 q0) (g1 : IsPoly 183 45 W0 s1 q1) (g2 : IsPoly 183 45 W0 s2 q2) (hf : FacOK k (selQ q0 q1 q2) p) :
    PCallsM Go.Proofs.Tryz.prog 29 [.agg ⟨[s.v]⟩, .agg ⟨[s0.v, s1.v, s2.v]⟩] W0 M fun v W' => ∃ (s' : Sl), v = .tuple ⟨[.agg ⟨[Sl.v s']⟩, .bool (compL (selQ q0 q1 q2) p).isSome]⟩ ∧ IsPoly 183 45 W' s' (pnorm ((compL (selQ q0 q1 q2) p).getD [])) := by
  apply callpoly_Compose
  have hn := h.n
  have hk := hf.k
  have hpl := hf.len
  refine ⟨cpO W0 (selQ q0 q1 q2) p, fun L _ => match L with | [_, .val (.int .i64 i), _] => p.length - i.toNat | _ => 0, ⟨0, [], rfl, Nat.zero_le _, Ext.refl _, rfl, trivial⟩, ?_⟩
  rintro s3 l4 i5 W6 ⟨j, acc, rfl, hj, hE6, hacc, hall⟩
  have hal := hall.len
  have hsum := (hf.take j).sum hacc
  rw [List.length_take] at hsum
  have hm1 : min j p.length * (6 * k + 4) ≤ 14 * 600004 := Nat.mul_le_mul (by omega) (by omega)
  refine ⟨fun hlt => ?_, fun hge s38 W39 hE39 hO _ => ?_⟩
  · have hjl : j < p.length := by omega
    have hpm : p[j] ∈ p := List.getElem_mem hjl
    obtain ⟨h0, c1, d1, c2, e1, _, _, hr⟩ := (h.ext hE6).at (List.getElem?_eq_getElem hjl)
    refine ⟨(h.ext hE6).inB (by omega) (by omega), _, _, _, c1, d1, c2, e1, polyConst_call hr (hf.sz _ hpm) (by omega) fun s15 W14 hE14 h15 => ⟨s15, rfl, ?_⟩⟩
    refine ⟨cpI W14 (selQ q0 q1 q2) p[j], fun L _ => match L with | [_, .val (.int .i64 i), _, _] => 3 - i.toNat | _ => 0, ⟨0, cst p[j].2, rfl, by omega, Ext.refl _, rfl, h15⟩, ?_⟩
    rintro s18 s19 b20 i21 W22 ⟨m, d, rfl, hm, hE22, hd, hP⟩
    have hP : IsPoly 183 45 W22 s18 d := hP
    refine ⟨fun hlt3 => ?_, fun hge3 => ?_⟩
    · have hm3 : m < 3 := by omega
      have hek := eget_ok h0 m
      refine ⟨⟨by omega, by omega⟩, _, at_eget p[j].1 hm3, ?_⟩
      refine ⟨cpK W14 (selQ q0 q1 q2) p[j] m, fun L _ => match L with | [_, .val (.int .u8 i), _, _] => 256 - i.toNat | _ => 0, ⟨0, d, rfl, Nat.zero_le _, hE22, by simpa using hd, hP⟩, ?_⟩
      rintro s26 s27 b28 i29 W30 ⟨n, d', rfl, hn', hE30, hd', hP'⟩
      have hP' : IsPoly 183 45 W30 s26 d' := hP'
      have hE0 := (hE6.trans hE14).trans hE30
      have hne : (ege p[j] m : Int) = eget p[j].1 m := by unfold ege; omega
      refine ⟨fun hlt' => ?_, fun hge' => ⟨by unfold I64; omega, ⟨m + 1, d', by push_cast; rfl, by omega, hE30, ?_, hP'⟩, ?_⟩⟩
      · have hb := hf.part hpm hm3 hn' hd'
        have hq := hf.fac m hm3
        have hbq := hq.1.mono (show k ≤ 6 * k + 3 by omega)
        refine ⟨⟨by omega, by omega⟩, _, boxAt_sel s0 s1 s2 hm3, ?_⟩
        refine polyMul_call hP' (IsPoly_sel (g0.ext hE0) (g1.ext hE0) (g2.ext hE0) m) hb.1 hbq (by omega) (by omega) (by omega) (by have := Nat.mul_le_mul hb.2 hq.2; omega) fun s34 W33 hE33 h33 => ⟨s34, _, rfl, fun hno W36 _ => ?_, fun hyes => ⟨⟨n + 1, pnorm (ppairs d' (selQ q0 q1 q2 m)), ?_, by omega, hE30.trans hE33, ?_, ?_⟩, ?_⟩⟩
        · have hM : ¬ MulOK d' (selQ q0 q1 q2 m) := by simpa using hno
          have ht : termC (selQ q0 q1 q2) p[j] = none := term_fail hm3 (show n + 1 ≤ _ by omega) (by rw [ege_step, runF_snoc, hd', stepM]; rw [if_neg hM])
          rw [compL_bad hpm ht]
          exact ⟨⟨none, 0, 0⟩, rfl, IsPoly.nil W36⟩
        · rw [wrap8 (by omega) (by omega)]; push_cast; rfl
        · have hM : MulOK d' (selQ q0 q1 q2 m) := by simpa using hyes
          rw [ege_step, runF_snoc, hd', stepM]
          rw [if_pos hM]
        · have hM : MulOK d' (selQ q0 q1 q2 m) := by simpa using hyes
          rw [mulP_of hM] at h33
          exact h33
        · show 256 - Int.toNat (IntKind.wrap .u8 ((n : Int) + 1)) < 256 - Int.toNat (n : Int)
          rw [wrap8 (by omega) (by omega)]
          omega
      · have : n = ege p[j] m := by omega
        subst this
        exact hd'
      · show 3 - Int.toNat ((m : Int) + 1) < 3 - Int.toNat (m : Int)
        omega
    · have : m = 3 := by omega
      subst this
      have ht : termC (selQ q0 q1 q2) p[j] = some d := hd
      obtain ⟨xs, x1, x2⟩ := hP
      have xl := x2.len
      have hb := hf.all hpm ht
      refine ⟨xs, ⟨_, x1⟩, by have : min j p.length * 100000 ≤ 14 * 100000 := Nat.mul_le_mul_right _ (by omega); omega, by unfold I64; omega, ⟨j + 1, acc ++ d, by push_cast; rfl, by omega, (hE6.trans hE14).trans hE22, ?_, ?_⟩, ?_⟩
      · rw [take_snocR hjl, compL_snoc, hacc, ht]
      · exact (hall.mono fun _ _ h => h.ext (hE14.trans hE22)).append x2
      · show p.length - Int.toNat ((j : Int) + 1) < p.length - Int.toNat (j : Int)
        omega
  · have : j = p.length := by omega
    subst this
    rw [List.take_length] at hacc
    have hm2 : min p.length p.length * 100000 ≤ 14 * 100000 := Nat.mul_le_mul_right _ (by omega)
    refine polyNew_call (isPoly_of hO.row (hall.mono fun _ _ h => h.ext hE39)) hsum.1 (by omega) (by omega) fun s42 W41 hE41 h42 => ⟨s42, rfl, fun W43 hE43 => ⟨s42, ?_, ?_⟩⟩
    · rw [hacc]; rfl
    · rw [hacc]
      exact h42.ext hE43
theorem polyCompose_call {W0 W : PW} {M : Nat → Prop} {s s0 s1 s2 : Sl} {p q0 q1 q2 : List Tm} {k : Nat} {K : Value → PW → Prop} (h : IsPoly 183 45 W s p) (g0 : IsPoly 183 45 W s0 q0) (g1 : IsPoly 183 45 W s1 q1) (g2 : IsPoly 183 45 W s2 q2) (hf : FacOK k (selQ q0 q1 q2) p) (kont : ∀ (s' : Sl) (W' : PW), Ext W W' → (IsPoly 183 45 W' s' (pnorm ((compL (selQ q0 q1 q2) p).getD []))) → K (.tuple ⟨[.agg ⟨[Sl.v s']⟩, .bool (compL (selQ q0 q1 q2) p).isSome]⟩) W') :
    callN Go.Proofs.Tryz.prog W0 M 29 [.agg ⟨[s.v]⟩, .agg ⟨[s0.v, s1.v, s2.v]⟩] W K :=
  callN_of (fun W' hE => polyCompose_ok (M := fun _ => False) (h.ext hE) (g0.ext hE) (g1.ext hE) (g2.ext hE) hf) (fun W' v W'' hE hE' hP => by
    obtain ⟨s', rfl, h⟩ := hP
    exact kont s' W'' (hE.trans hE') h)
def crO (W0 : PW) (q : Nat → List Tm) (p : List Tm) (L : List PL) (W : PW) : Prop := match L with
  | [.val (.slice A n c), .val (.int .i64 i)] => ∃ (j : Nat) (acc : List Tm), i = (j : Int) ∧ j ≤ p.length ∧ Ext W0 W ∧ compL q (p.take j) = some acc ∧ IsRPoly 183 47 W ⟨A, n, c⟩ (pnorm acc)
  | _ => False
def crI (W0 : PW) (q : Nat → List Tm) (t : Tm) (L : List PL) (W : PW) : Prop := match L with
  | [.val (.slice A n c), .val (.int .i64 i)] => ∃ (m : Nat) (d : List Tm), i = (m : Int) ∧ m ≤ 3 ∧ Ext W0 W ∧ runF (cst t.2) (facs q (ege t) m) = some d ∧ IsRPoly 183 47 W ⟨A, n, c⟩ d
  | _ => False
def crK (W0 : PW) (q : Nat → List Tm) (t : Tm) (m : Nat) (L : List PL) (W : PW) : Prop := match L with
  | [.val (.slice A n c), .val (.int .i64 i)] => ∃ (k : Nat) (d : List Tm), i = (k : Int) ∧ k ≤ ege t m ∧ Ext W0 W ∧ runF (cst t.2) (facs q (ege t) m ++ List.replicate k (q m)) = some d ∧ IsRPoly 183 47 W ⟨A, n, c⟩ d
  | _ => False
theorem rpolyAt {W : PW} {s : Sl} {p : List Tm} (h : IsRPoly 183 47 W s p) {j k : Nat} {t : Tm} (hj : p[j]? = some t) (hk : k < 3) : ElemAt W s 6 j (0 + Int.toNat (k : Int) * 1) [.int .u8 (eget t.1 k)] := by
  obtain ⟨xs, h1, h2⟩ := h
  obtain ⟨x, hx, h0, b, s1, s2, rfl, hq⟩ := h2.get hj
  refine h1.part hx _ ?_
  rcases (by omega : k = 0 ∨ k = 1 ∨ k = 2) with rfl | rfl | rfl <;> rfl
theorem refCompose_ok {W0 : PW} {M : Nat → Prop} {s s0 s1 s2 : Sl} {p q0 q1 q2 : List Tm} {k : Nat} (h : IsRPoly 183 47 W0 s p) (g0 : IsRPoly 183 47 W0 s0 q0) (g1 : IsRPoly 183 47 W0 s1 q1) (g2 : IsRPoly 183 47 W0 s2 q2) (hf : FacOK k (selQ q0 q1 q2) p) :
    PCallsM Go.Proofs.Tryz.prog 30 [s.v, .agg ⟨[s0.v, s1.v, s2.v]⟩] W0 M fun v W' => ∃ (s' : Sl), v = .tuple ⟨[Sl.v s', .bool (compL (selQ q0 q1 q2) p).isSome]⟩ ∧ IsRPoly 183 47 W' s' (pnorm ((compL (selQ q0 q1 q2) p).getD [])) := by
  apply callref1_Compose
  have hn := h.n
  have hk := hf.k
  have hpl := hf.len
  refine ⟨crO W0 (selQ q0 q1 q2) p, cnL p.length, ⟨0, [], rfl, Nat.zero_le _, Ext.refl _, rfl, IsRPoly.nil W0⟩, ?_⟩
  rintro s3 i4 W5 ⟨j, acc, rfl, hj, hE5, hacc, hout⟩
  have hout : IsRPoly 183 47 W5 s3 (pnorm acc) := hout
  have hsum := (hf.take j).sum hacc
  rw [List.length_take] at hsum
  have hm1 : min j p.length * (6 * k + 4) ≤ 14 * 600004 := Nat.mul_le_mul (by omega) (by omega)
  have hm2 : min j p.length * 100000 ≤ 14 * 100000 := Nat.mul_le_mul_right _ (by omega)
  refine ⟨fun hlt => ?_, fun hge W32 hE32 => ⟨s3, ?_, ?_⟩⟩
  · have hjl : j < p.length := by omega
    have hpm : p[j] ∈ p := List.getElem_mem hjl
    have hib := (h.ext hE5).inB (i := (j : Int)) (by omega) (by omega)
    obtain ⟨h0, d1, c1, c2, _, _, e3, hr⟩ := (h.ext hE5).at (List.getElem?_eq_getElem hjl)
    refine ⟨hib, d1, c1, c2, e3, refConst_call hr (hf.sz _ hpm) (by omega) fun s11 W10 hE10 h11 => ⟨s11, rfl, ?_⟩⟩
    refine ⟨crI W10 (selQ q0 q1 q2) p[j], cnL 3, ⟨0, cst p[j].2, rfl, by omega, Ext.refl _, rfl, h11⟩, ?_⟩
    rintro s14 i15 W16 ⟨m, d, rfl, hm, hE16, hd, hP⟩
    have hP : IsRPoly 183 47 W16 s14 d := hP
    refine ⟨fun hlt3 => ?_, fun hge3 => ?_⟩
    · have hm3 : m < 3 := by omega
      have hek := eget_ok h0 m
      refine ⟨crK W10 (selQ q0 q1 q2) p[j] m, cnL 256, ⟨0, d, rfl, Nat.zero_le _, hE16, by simpa using hd, hP⟩, ?_⟩
      rintro s19 i20 W21 ⟨n, d', rfl, hn', hE21, hd', hP'⟩
      have hP' : IsRPoly 183 47 W21 s19 d' := hP'
      have hE0 := (hE5.trans hE10).trans hE21
      have hne : (ege p[j] m : Int) = eget p[j].1 m := by unfold ege; omega
      refine ⟨(h.ext hE0).inB (by omega) (by omega), ⟨by omega, by omega⟩, _, rpolyAt (h.ext hE0) (List.getElem?_eq_getElem hjl) hm3, by unfold I64; omega, fun hlt' => ?_, fun hge' => ⟨by unfold I64; omega, ⟨m + 1, d', by push_cast; rfl, by omega, hE21, ?_, hP'⟩, ?_⟩⟩
      · have hb := hf.part hpm hm3 hn' hd'
        have hq := hf.fac m hm3
        have hbq := hq.1.mono (show k ≤ 6 * k + 3 by omega)
        refine ⟨⟨by omega, by omega⟩, _, boxAt_sel s0 s1 s2 hm3, ?_⟩
        refine refPolyMul_call hP' (IsRPoly_sel (g0.ext hE0) (g1.ext hE0) (g2.ext hE0) m) hb.1 hbq (by omega) (by omega) (by omega) (by have := Nat.mul_le_mul hb.2 hq.2; omega) fun s26 W25 hE25 h25 => ⟨s26, _, rfl, fun hno W28 _ => ?_, fun hyes => ⟨by unfold I64; omega, ⟨n + 1, pnorm (ppairs d' (selQ q0 q1 q2 m)), by push_cast; rfl, by omega, hE21.trans hE25, ?_, ?_⟩, ?_⟩⟩
        · have hM : ¬ MulOK d' (selQ q0 q1 q2 m) := by simpa using hno
          have ht : termC (selQ q0 q1 q2) p[j] = none := term_fail hm3 (show n + 1 ≤ _ by omega) (by rw [ege_step, runF_snoc, hd', stepM]; rw [if_neg hM])
          rw [compL_bad hpm ht]
          exact ⟨⟨none, 0, 0⟩, rfl, IsRPoly.nil W28⟩
        · have hM : MulOK d' (selQ q0 q1 q2 m) := by simpa using hyes
          rw [ege_step, runF_snoc, hd', stepM]
          rw [if_pos hM]
        · have hM : MulOK d' (selQ q0 q1 q2 m) := by simpa using hyes
          rw [mulP_of hM] at h25
          exact h25
        · show 256 - Int.toNat ((n : Int) + 1) < 256 - Int.toNat (n : Int)
          omega
      · have : n = ege p[j] m := by omega
        subst this
        exact hd'
      · show 3 - Int.toNat ((m : Int) + 1) < 3 - Int.toNat (m : Int)
        omega
    · have : m = 3 := by omega
      subst this
      have ht : termC (selQ q0 q1 q2) p[j] = some d := hd
      have hb := hf.all hpm ht
      have la := pnorm_len acc
      have e : pnorm (pnorm acc ++ d) = pnorm (acc ++ d) := pnorm_congr fun x => by rw [ptot_append, ptot_append, ptot_pnorm]
      refine refPolyAdd_call (hout.ext (hE10.trans hE16)) hP (pnorm_good acc) (hsum.1.norm.mono (show _ ≤ 10000000 by omega)) (hb.1.mono (show _ ≤ 10000000 by omega)) (by omega) (by omega) (by omega) fun s31 W30 hE30 h30 => ⟨s31, rfl, by unfold I64; omega, ⟨j + 1, acc ++ d, by push_cast; rfl, by omega, ((hE5.trans hE10).trans hE16).trans hE30, ?_, ?_⟩, ?_⟩
      · rw [take_snocR hjl, compL_snoc, hacc, ht]
      · rw [← e]
        exact h30
      · show p.length - Int.toNat ((j : Int) + 1) < p.length - Int.toNat (j : Int)
        omega
  · have : j = p.length := by omega
    subst this
    rw [List.take_length] at hacc
    rw [hacc]
    rfl
  · have : j = p.length := by omega
    subst this
    rw [List.take_length] at hacc
    rw [hacc]
    exact hout.ext hE32
theorem refCompose_call {W0 W : PW} {M : Nat → Prop} {s s0 s1 s2 : Sl} {p q0 q1 q2 : List Tm} {k : Nat} {K : Value → PW → Prop} (h : IsRPoly 183 47 W s p) (g0 : IsRPoly 183 47 W s0 q0) (g1 : IsRPoly 183 47 W s1 q1) (g2 : IsRPoly 183 47 W s2 q2) (hf : FacOK k (selQ q0 q1 q2) p) (kont : ∀ (s' : Sl) (W' : PW), Ext W W' → (IsRPoly 183 47 W' s' (pnorm ((compL (selQ q0 q1 q2) p).getD []))) → K (.tuple ⟨[Sl.v s', .bool (compL (selQ q0 q1 q2) p).isSome]⟩) W') :
    callN Go.Proofs.Tryz.prog W0 M 30 [s.v, .agg ⟨[s0.v, s1.v, s2.v]⟩] W K :=
  callN_of (fun W' hE => refCompose_ok (M := fun _ => False) (h.ext hE) (g0.ext hE) (g1.ext hE) (g2.ext hE) hf) (fun W' v W'' hE hE' hP => by
    obtain ⟨s', rfl, h⟩ := hP
    exact kont s' W'' (hE.trans hE') h)
end Go.Proofs.YtbingbjhgoanoaaGreat

/- cincturelaw8.PolyComposes. -/
set_option maxRecDepth 100000
set_option linter.unusedVariables false
set_option linter.unusedSimpArgs false
namespace Go.Proofs.YtbingbjhgoanoaaGreat
open Go Go.SX
theorem OfOK.len' {L : List (Mon × ByteArray)} {exp : Int} {p : List Tm} (h : OfOK L exp p) : L.length = p.length := h.1.len
theorem deg_le {p : List Tm} {n : Int} (h : maxf Mon.deg (-1) p ≤ n) : ∀ t ∈ p, t.1.deg ≤ n := fun t ht => Int.le_trans (le_maxf.2 t ht) h
theorem sz_bound {n : Nat} (h : n ≤ 14) : n * (6 * 56029 + 4) + 1 ≤ 10000000 ∧ n * 100000 ≤ 10000000 := by constructor <;> omega
theorem polyComposes_ok {W0 : PW} {M : Nat → Prop} {s t u v : Sl} {L L2 L3 L4 : List (Mon × ByteArray)} (h1 : IsAPoly W0 s L) (h2 : IsAPoly W0 t L2) (h3 : IsAPoly W0 u L3) (h4 : IsAPoly W0 v L4) (l1 : L.length ≤ 1099511627776) (z1 : ∀ t ∈ L, t.2.size ≤ 1099511627776) (l2 : L2.length ≤ 1099511627776) (z2 : ∀ t ∈ L2, t.2.size ≤ 1099511627776) (l3 : L3.length ≤ 1099511627776) (z3 : ∀ t ∈ L3, t.2.size ≤ 1099511627776) (l4 : L4.length ≤ 1099511627776) (z4 : ∀ t ∈ L4, t.2.size ≤ 1099511627776) :
    PCallsM Go.Proofs.Tryz.prog 7 [s.v, t.v, u.v, v.v] W0 M fun v W' => v = .bool true ∧ True := by
  apply calllaw8_PolyComposes
  have n1 := h1.n
  have n2 := h2.n
  have n3 := h3.n
  have n4 := h4.n
  have alv : ∀ W, callN Go.Proofs.Tryz.prog W0 M 15 [] W fun v11 W12 => ∃ b13 : Bool, v11 = .bool b13 ∧ ∀ (W14 : PW), Ext W12 W14 → Value.bool b13 = .bool true ∧ True := fun W => law8alive_call fun W12 _ _ => ⟨true, rfl, fun W14 _ => ⟨rfl, trivial⟩⟩
  refine law8Of_call h1 l1 z1 fun s3 s4 b5 W2 hE2 g1 => ⟨s3, s4, b5, rfl, law8Of_call (h2.ext hE2) l2 z2 fun s8 s9 b10 W7 hE7 g2 => ⟨s8, s9, b10, rfl, law8Of_call (h3.ext (hE2.trans hE7)) l3 z3 fun s13 s14 b15 W12 hE12 g3 => ⟨s13, s14, b15, rfl, law8Of_call (h4.ext (hE2.trans (hE7.trans hE12))) l4 z4 fun s18 s19 b20 W17 hE17 g4 => ⟨s18, s19, b20, rfl, fun _ => alv _, fun hb5 => ⟨fun _ => alv _, fun hb10 => ⟨fun _ => alv _, fun hb15 => ⟨fun _ => alv _, fun hb20 => ⟨fun _ => alv _, fun h6 => ⟨by unfold I64; omega, by unfold I64; omega, fun _ => alv _, fun h10 => ?_⟩⟩⟩⟩⟩⟩⟩⟩⟩
  obtain ⟨p, op, p1, p2⟩ := g1 (by simpa using hb5)
  obtain ⟨q, oq, q1, q2⟩ := g2 (by simpa using hb10)
  obtain ⟨r, or, r1, r2⟩ := g3 (by simpa using hb15)
  obtain ⟨w, ow, w1, w2⟩ := g4 (by simpa using hb20)
  have lp := op.len
  have lp' := op.len'
  have lq' := oq.len'
  have lr' := or.len'
  have lw' := ow.len'
  have p1 := p1.ext (hE7.trans (hE12.trans hE17))
  have p2 := p2.ext (hE7.trans (hE12.trans hE17))
  have q1 := q1.ext (hE12.trans hE17)
  have q2 := q2.ext (hE12.trans hE17)
  have r1 := r1.ext hE17
  have r2 := r2.ext hE17
  refine refPolyDegree_call p2 (by omega) fun W46 hE46 _ => ⟨_, rfl, fun _ => alv _, fun hd => law8alive_call fun W53 hE53 _ => ⟨true, rfl, fun e => (by cases e), fun _ => ?_⟩⟩
  have hf : FacOK 56029 (selQ q r w) p := by
    refine ⟨fun i hi => ?_, fun t ht => (op.1.sz t ht).mono (by omega), deg_le (by omega), p1.ok, lp, by omega⟩
    rcases (by omega : i = 0 ∨ i = 1 ∨ i = 2) with rfl | rfl | rfl
    · exact ⟨oq.bd, by show q.length ≤ 10; omega⟩
    · exact ⟨or.bd, by show r.length ≤ 10; omega⟩
    · exact ⟨ow.bd, by show w.length ≤ 10; omega⟩
  have hE := hE46.trans hE53
  refine polyCompose_call (p1.ext hE) (q1.ext hE) (r1.ext hE) (w1.ext hE) hf fun s61 W60 hE60 h60 => ⟨s61, _, rfl, ?_⟩
  have hE := hE.trans hE60
  refine refCompose_call (p2.ext hE) (q2.ext hE) (r2.ext hE) (w2.ext hE) hf fun s65 W64 hE64 h64 => ⟨s65, _, rfl, fun _ => ?_, fun e => absurd rfl e⟩
  have hz : (∀ t ∈ pnorm ((compL (selQ q r w) p).getD []), Sz 10000000 t.2) ∧ (pnorm ((compL (selQ q r w) p).getD [])).length ≤ 10000000 := by
    have hl := pnorm_len ((compL (selQ q r w) p).getD [])
    cases hc : compL (selQ q r w) p with
    | none => exact ⟨fun t ht => (by cases ht), Nat.zero_le _⟩
    | some d =>
      have := hf.sum hc
      rw [hc] at hl
      simp only [Option.getD_some] at hl ⊢
      obtain ⟨m1, m2⟩ := sz_bound lp
      have hb := (this.1.mono m1).norm
      exact ⟨fun t ht => hb.sz t ht, Nat.le_trans hl (Nat.le_trans this.2 m2)⟩
  exact law8Is_call (h60.ext hE64) h64 hz.1 (by omega) (by omega) fun W68 hE68 _ => ⟨true, rfl, fun W70 _ => ⟨rfl, trivial⟩⟩
end Go.Proofs.YtbingbjhgoanoaaGreat
