/- cinctureref1.times; poly.At, cinctureref1.At. -/
import Derived.Test.YtbingbjhgoanoaaGreatW16
import Derived.Test.YtbingbjhgoanoaaGreatW12
import Derived.Test.YtbingbjhgoanoaaGreatR18
import Derived.Test.YtbingbjhgoanoaaGreatLib3
import Derived.Test.YtbingbjhgoanoaaGreatLib4
import Derived.Test.YtbingbjhgoanoaaGreatW8
set_option linter.unusedVariables false
set_option linter.unusedSimpArgs false
set_option maxRecDepth 100000
set_option linter.unusedVariables false
set_option linter.unusedSimpArgs false
namespace Go.Proofs.YtbingbjhgoanoaaGreat
open Go Go.SX
theorem Sz.powq {k : Nat} {q : Rat} (h : Sz k q) (n : Nat) : Sz (k * n + 1) (q ^ n) := by
  induction n with
  | zero => rw [Rat.pow_zero]; exact Sz.one (by omega)
  | succ n ih =>
    rw [Rat.pow_succ]
    exact (ih.mul h).mono (by rw [Nat.mul_add]; omega)
structure Pt where
  x : Rat
  y : Rat
  z : Rat
def Pt.get (u : Pt) (k : Nat) : Rat := if k = 0 then u.x else if k = 1 then u.y else u.z
def ctm (t : Tm) (u : Pt) : Nat → Rat
  | 0 => t.2
  | j + 1 => ctm t u j * u.get j ^ (eget t.1 j).toNat
def atQ (u : Pt) (p : List Tm) : Rat := p.foldl (fun a t => a + ctm t u 3) 0
theorem atQ_snoc (u : Pt) (l : List Tm) (t : Tm) : atQ u (l ++ [t]) = atQ u l + ctm t u 3 := by simp [atQ]
theorem ctm_sz {t : Tm} {u : Pt} {k l e : Nat} (ht : Sz k t.2) (hu : ∀ i, Sz l (u.get i)) (he : ∀ i, (eget t.1 i).toNat ≤ e) : ∀ j, Sz (k + j * (l * e + 1)) (ctm t u j)
  | 0 => by rw [Nat.zero_mul, Nat.add_zero]; exact ht
  | j + 1 => by
    have h1 := ctm_sz ht hu he j
    have h2 := Sz.powq (hu j) (eget t.1 j).toNat
    have h3 := Nat.mul_le_mul_left l (he j)
    exact (h1.mul h2).mono (by rw [Nat.add_mul, Nat.one_mul]; omega)
theorem atQ_sz {u : Pt} {k l e : Nat} {p : List Tm} (hp : ∀ t ∈ p, Sz k t.2) (hu : ∀ i, Sz l (u.get i)) (he : ∀ t ∈ p, ∀ i, (eget t.1 i).toNat ≤ e) : Sz (p.length * (k + 3 * (l * e + 1) + 1) + 1) (atQ u p) := by
  have key : ∀ j, j ≤ p.length → Sz (j * (k + 3 * (l * e + 1) + 1) + 1) (atQ u (p.take j)) := by
    intro j
    induction j with
    | zero => intro _; exact Sz.zero (by omega)
    | succ j ih =>
      intro hj
      have hjl : j < p.length := by omega
      rw [take_snocR hjl, atQ_snoc]
      have h1 := ih (by omega)
      have h2 := ctm_sz (hp _ (List.getElem_mem hjl)) hu (he _ (List.getElem_mem hjl)) 3
      refine (h1.add h2).mono ?_
      rw [Nat.add_mul, Nat.one_mul]
      omega
  have := key p.length (Nat.le_refl _)
  rwa [List.take_length] at this
theorem eget_le {m : Mon} (h : m.ok) (i : Nat) : (eget m i).toNat ≤ 255 := by
  have := eget_ok h i
  omega
def atO (W0 : PW) (p : List Tm) (u : Pt) (L : List PL) (W : PW) : Prop := match L with
  | [.val (.int .i64 i), .cells [.slice A m c, .bool x, .slice A' m' c']] => ∃ j : Nat, i = (j : Int) ∧ j ≤ p.length ∧ Ext W0 W ∧ IsRat 183 W ⟨A, m, c⟩ x ⟨A', m', c'⟩ (atQ u (p.take j))
  | _ => False
def atI (W1 : PW) (t : Tm) (u : Pt) (L : List PL) (W : PW) : Prop := match L with
  | [.val (.int .i64 i), .cells [.slice A m c, .bool x, .slice A' m' c']] => ∃ j : Nat, i = (j : Int) ∧ j ≤ 3 ∧ Ext W1 W ∧ IsRat 183 W ⟨A, m, c⟩ x ⟨A', m', c'⟩ (ctm t u j)
  | _ => False
theorem polyAt_ok {W0 : PW} {M : Nat → Prop} {s s0 t0 s1 t1 s2 t2 : Sl} {b0 b1 b2 : Bool} {p : List Tm} {u : Pt} {k l : Nat} (h : IsPoly 183 45 W0 s p) (g0 : IsRat 183 W0 s0 b0 t0 u.x) (g1 : IsRat 183 W0 s1 b1 t1 u.y) (g2 : IsRat 183 W0 s2 b2 t2 u.z) (hp : ∀ t ∈ p, Sz k t.2) (hu : ∀ i, Sz l (u.get i)) (hl : l ≤ 100000) (hb : p.length * (k + 3 * (l * 255 + 1) + 1) + 1 ≤ 400000000) (hk : k + 3 * (l * 255 + 1) ≤ 400000000) :
    PCallsM Go.Proofs.Tryz.prog 45 [.agg ⟨[s.v]⟩, .agg ⟨[s0.v, .bool b0, t0.v, s1.v, .bool b1, t1.v, s2.v, .bool b2, t2.v]⟩] W0 M fun v W' => ∃ (s' : Sl), ∃ (b' : Bool), ∃ (t' : Sl), v = .agg ⟨[Sl.v s', .bool b', Sl.v t']⟩ ∧ IsRat 183 W' s' b' t' (atQ u p) := by
  apply callpoly_At
  have hn := h.n
  have hpl : p.length ≤ 400000000 := by
    have := Nat.le_mul_of_pos_right p.length (show 0 < k + 3 * (l * 255 + 1) + 1 by omega)
    omega
  refine ⟨atO W0 p u, cn1 p.length, ⟨0, rfl, by omega, Ext.refl _, isRat_zero W0⟩, ?_⟩
  rintro s3 b4 s5 i6 W7 ⟨j, rfl, hj, hE7, hs⟩
  have hs : IsRat 183 W7 s3 b4 s5 (atQ u (p.take j)) := hs
  refine ⟨fun hlt => ?_, fun hge W40 hE40 => ⟨s3, b4, s5, rfl, ?_⟩⟩
  · have hjl : j < p.length := by omega
    have hP := h.ext hE7
    have hm := List.getElem_mem hjl
    obtain ⟨h0, c1, d1, c2, e1, _, _, hr⟩ := hP.at (List.getElem?_eq_getElem hjl)
    have hcs := fun i => ctm_sz (j := i) (hp _ hm) hu (fun i => eget_le h0 i)
    have hbd : ∀ i, i ≤ 3 → k + i * (l * 255 + 1) ≤ 400000000 := fun i hi => by
      have := Nat.mul_le_mul_right (l * 255 + 1) hi
      omega
    refine ⟨hP.inB (by omega) (by omega), _, _, _, c1, d1, c2, e1, atI W7 p[j] u, cn1 3, ⟨0, rfl, by omega, Ext.refl _, hr⟩, ?_⟩
    rintro s16 b17 s18 i19 W20 ⟨m, rfl, hm3, hE20, hc⟩
    have hc : IsRat 183 W20 s16 b17 s18 (ctm p[j] u m) := hc
    refine ⟨fun hlt' => ?_, fun hge' => ?_⟩
    · have hm3' : m < 3 := by omega
      have hmr : (0 : Int) ≤ (m : Int) ∧ (m : Int) < 3 := ⟨by omega, by omega⟩
      have hek := eget_ok h0 m
      have hE := hE7.trans hE20
      obtain ⟨x1, y1, z1, hbx, hux⟩ : ∃ (x1 : Sl) (y1 : Bool) (z1 : Sl), BoxAt [s0.v, .bool b0, t0.v, s1.v, .bool b1, t1.v, s2.v, .bool b2, t2.v] (0 + Int.toNat (m : Int) * 3 + 0) [x1.v, .bool y1, z1.v] ∧ IsRat 183 W20 x1 y1 z1 (u.get m) := by
        rcases (by omega : m = 0 ∨ m = 1 ∨ m = 2) with rfl | rfl | rfl
        · exact ⟨s0, b0, t0, ⟨by simp, rfl⟩, g0.ext hE⟩
        · exact ⟨s1, b1, t1, ⟨by simp, rfl⟩, g1.ext hE⟩
        · exact ⟨s2, b2, t2, ⟨by simp, rfl⟩, g2.ext hE⟩
      obtain ⟨n, hnn⟩ := Int.eq_ofNat_of_zero_le hek.1
      refine ⟨hmr, _, take_mon p[j].1 hm3', hmr, x1, y1, z1, hbx, by unfold I64; omega, ?_⟩
      rw [hnn]
      have hp2 := Nat.mul_le_mul_left l (by omega : n ≤ 255)
      refine ratPow_call hux (hu m) (by omega) (by omega) fun s27 b28 s29 W26 hE26 h26 => ⟨s27, b28, s29, rfl, ratMul_call (hc.ext hE26) h26 (hcs m) (Sz.powq (hu m) n) (by have := hbd m (by omega); omega) (by omega) fun s32 b33 s34 W31 hE31 h31 => ⟨s32, b33, s34, rfl, by unfold I64; omega, ⟨m + 1, by push_cast; rfl, by omega, hE20.trans (hE26.trans hE31), ?_⟩, ?_⟩⟩
      · show IsRat 183 W31 s32 b33 s34 (ctm p[j] u m * u.get m ^ (eget p[j].1 m).toNat)
        rw [hnn]
        exact h31
      · show 3 - Int.toNat ((m : Int) + 1) < 3 - Int.toNat (m : Int)
        omega
    · have : m = 3 := by omega
      subst this
      have hsz := atQ_sz (u := u) (p := p.take j) (k := k) (l := l) (e := 255) (fun t ht => hp t (List.mem_of_mem_take ht)) hu (fun t ht i => eget_le (h.ok t (List.mem_of_mem_take ht)) i)
      have hl2 : (p.take j).length * (k + 3 * (l * 255 + 1) + 1) ≤ p.length * (k + 3 * (l * 255 + 1) + 1) := Nat.mul_le_mul_right _ (by rw [List.length_take]; omega)
      refine ratAdd_call (hs.ext hE20) hc hsz (hcs 3) (by omega) (by omega) fun s37 b38 s39 W36 hE36 h36 => ⟨s37, b38, s39, rfl, by unfold I64; omega, ⟨j + 1, by push_cast; rfl, by omega, hE7.trans (hE20.trans hE36), ?_⟩, ?_⟩
      · rw [take_snocR hjl, atQ_snoc]
        exact h36
      · show p.length - Int.toNat ((j : Int) + 1) < p.length - Int.toNat (j : Int)
        omega
  · have : j = p.length := by omega
    subst this
    rw [List.take_length] at hs
    exact hs.ext hE40
theorem polyAt_call {W0 W : PW} {M : Nat → Prop} {s s0 t0 s1 t1 s2 t2 : Sl} {b0 b1 b2 : Bool} {p : List Tm} {u : Pt} {k l : Nat} {K : Value → PW → Prop} (h : IsPoly 183 45 W s p) (g0 : IsRat 183 W s0 b0 t0 u.x) (g1 : IsRat 183 W s1 b1 t1 u.y) (g2 : IsRat 183 W s2 b2 t2 u.z) (hp : ∀ t ∈ p, Sz k t.2) (hu : ∀ i, Sz l (u.get i)) (hl : l ≤ 100000) (hb : p.length * (k + 3 * (l * 255 + 1) + 1) + 1 ≤ 400000000) (hk : k + 3 * (l * 255 + 1) ≤ 400000000) (kont : ∀ (s' : Sl) (b' : Bool) (t' : Sl) (W' : PW), Ext W W' → (IsRat 183 W' s' b' t' (atQ u p)) → K (.agg ⟨[Sl.v s', .bool b', Sl.v t']⟩) W') :
    callN Go.Proofs.Tryz.prog W0 M 45 [.agg ⟨[s.v]⟩, .agg ⟨[s0.v, .bool b0, t0.v, s1.v, .bool b1, t1.v, s2.v, .bool b2, t2.v]⟩] W K :=
  callN_of (fun W' hE => polyAt_ok (M := fun _ => False) (h.ext hE) (g0.ext hE) (g1.ext hE) (g2.ext hE) hp hu hl hb hk) (fun W' v W'' hE hE' hP => by
    obtain ⟨s', b', t', rfl, h⟩ := hP
    exact kont s' b' t' W'' (hE.trans hE') h)
end Go.Proofs.YtbingbjhgoanoaaGreat

/- Values of sums, products and compositions. -/
set_option linter.unusedVariables false
set_option linter.unusedSimpArgs false
namespace Go.Proofs.YtbingbjhgoanoaaGreat
open Go Go.SX
def evM (u : Pt) (m : Mon) : Rat := u.get 0 ^ (eget m 0).toNat * u.get 1 ^ (eget m 1).toNat * u.get 2 ^ (eget m 2).toNat
theorem ctm_ev (t : Tm) (u : Pt) : ctm t u 3 = t.2 * evM u t.1 := by
  simp only [ctm, evM, Rat.mul_assoc]
theorem atQ_lin (u : Pt) (p : List Tm) : atQ u p = lin (evM u) p := by
  have key : ∀ (p : List Tm) (a : Rat), p.foldl (fun a t => a + ctm t u 3) a = a + lin (evM u) p := by
    intro p
    induction p with
    | nil => intro a; simp [lin, Rat.add_zero]
    | cons t r ih =>
      intro a
      rw [List.foldl_cons, ih, lin, ctm_ev, Rat.add_assoc]
  rw [atQ, key, Rat.zero_add]
theorem rpow_add (x : Rat) (a b : Nat) : x ^ (a + b) = x ^ a * x ^ b := by
  induction b with
  | zero => simp [Rat.mul_one]
  | succ b ih => rw [← Nat.add_assoc, Rat.pow_succ, Rat.pow_succ, ih, Rat.mul_assoc]
theorem evM_add (u : Pt) {a b : Mon} (ha : a.ok) (hb : b.ok) : evM u (a.add b) = evM u a * evM u b := by
  have h : ∀ k, (eget (a.add b) k).toNat = (eget a k).toNat + (eget b k).toNat := fun k => by
    have h1 := (eget_ok ha k).1
    have h2 := (eget_ok hb k).1
    have e : eget (a.add b) k = eget a k + eget b k := by unfold eget Mon.add; (repeat' split) <;> rfl
    omega
  unfold evM
  rw [h, h, h, rpow_add, rpow_add, rpow_add]
  grind
theorem lin_row {G : Mon → Rat} {a : Tm} {q : List Tm} (h : ∀ b ∈ q, G (a.1.add b.1) = G a.1 * G b.1) : lin G (q.map fun b => (a.1.add b.1, a.2 * b.2)) = a.2 * G a.1 * lin G q := by
  induction q with
  | nil => simp [lin, Rat.mul_zero]
  | cons b r ih =>
    rw [List.map_cons, lin, lin, ih fun x hx => h x (by simp [hx])]
    dsimp only
    rw [h b (by simp)]
    grind
theorem lin_pairs {G : Mon → Rat} {p q : List Tm} (h : ∀ a ∈ p, ∀ b ∈ q, G (a.1.add b.1) = G a.1 * G b.1) : lin G (ppairs p q) = lin G p * lin G q := by
  induction p with
  | nil => simp [ppairs, lin, Rat.zero_mul]
  | cons a r ih =>
    have e : ppairs (a :: r) q = (q.map fun b => (a.1.add b.1, a.2 * b.2)) ++ ppairs r q := rfl
    rw [e, lin_append, lin_row fun b hb => h a (by simp) b hb, ih fun x hx b hb => h x (by simp [hx]) b hb, lin]
    grind
theorem at_mul (u : Pt) {p q : List Tm} (hp : POk p) (hq : POk q) : atQ u (pnorm (ppairs p q)) = atQ u p * atQ u q := by
  rw [atQ_lin, atQ_lin, atQ_lin, lin_pnorm, lin_pairs fun a ha b hb => evM_add u (hp a ha) (hq b hb)]
theorem at_add (u : Pt) (p q : List Tm) : atQ u (pnorm (p ++ q)) = atQ u p + atQ u q := by
  rw [atQ_lin, atQ_lin, atQ_lin, lin_pnorm, lin_append]
def valF (u : Pt) : List (List Tm) → Rat
  | [] => 1
  | q :: r => atQ u q * valF u r
theorem valF_app (u : Pt) (a b : List (List Tm)) : valF u (a ++ b) = valF u a * valF u b := by
  induction a with
  | nil => simp [valF, Rat.one_mul]
  | cons q r ih => rw [List.cons_append, valF, valF, ih, Rat.mul_assoc]
theorem valF_rep (u : Pt) (n : Nat) (q : List Tm) : valF u (List.replicate n q) = atQ u q ^ n := by
  induction n with
  | zero => simp [valF]
  | succ n ih => rw [List.replicate_succ, valF, ih, Rat.pow_succ, Rat.mul_comm]
theorem POk.pairs {p q : List Tm} (h : MulOK p q) : POk (pnorm (ppairs p q)) := POk.norm fun t ht => by
  obtain ⟨a, ha, hm⟩ := List.mem_flatMap.1 ht
  obtain ⟨b, hb, rfl⟩ := List.mem_map.1 hm
  exact h a ha b hb
theorem at_runF (u : Pt) : ∀ {l : List (List Tm)} {c d : List Tm} (_ : runF c l = some d) (_ : POk c) (_ : ∀ q ∈ l, POk q), atQ u d = atQ u c * valF u l
  | [], c, d, h, _, _ => by
    simp [runF] at h
    subst h
    simp [valF, Rat.mul_one]
  | q :: r, c, d, h, hc, hq => by
    have e : runF c (q :: r) = r.foldl stepM (stepM (some c) q) := rfl
    rw [e] at h
    unfold stepM at h
    dsimp only at h
    split at h
    · rename_i hM
      have := at_runF u (l := r) (c := pnorm (ppairs c q)) h (POk.pairs hM) fun x hx => hq x (by simp [hx])
      rw [this, valF, at_mul u hc (hq q (by simp)), Rat.mul_assoc]
    · have h : r.foldl stepM none = some d := h
      rw [foldl_none] at h
      cases h
theorem at_cst (u : Pt) (r : Rat) : atQ u (cst r) = r := by
  have h : evM u ⟨0, 0, 0⟩ = 1 := by
    unfold evM eget
    simp
  rw [atQ_lin, cst, lin_pnorm, lin, lin, h, Rat.mul_one, Rat.add_zero]
theorem cst_ok (r : Rat) : POk (cst r) := POk.norm fun t ht => by simp at ht; subst ht; exact (by decide : (⟨0, 0, 0⟩ : Mon).ok)
theorem at_term (u : Pt) {q : Nat → List Tm} (hq : ∀ i, i < 3 → POk (q i)) {t : Tm} {d : List Tm} (h : termC q t = some d) : atQ u d = t.2 * evM ⟨atQ u (q 0), atQ u (q 1), atQ u (q 2)⟩ t.1 := by
  unfold termC at h
  rw [at_runF u h (cst_ok _) fun x hx => let ⟨i, hi, e⟩ := facs_mem hx; e ▸ hq i hi, at_cst]
  simp only [facs, List.nil_append, valF_app, valF_rep]
  rfl
theorem at_comp (u : Pt) {q : Nat → List Tm} (hq : ∀ i, i < 3 → POk (q i)) : ∀ {p d : List Tm} (_ : compL q p = some d), atQ u d = atQ ⟨atQ u (q 0), atQ u (q 1), atQ u (q 2)⟩ p
  | [], d, h => by
    simp only [compL, Option.some.injEq] at h
    subst h
    rfl
  | t :: r, d, h => by
    rw [compL] at h
    split at h
    · rename_i c d' h1 h2
      simp only [Option.some.injEq] at h
      subst h
      have a := at_term u hq h1
      have b := at_comp u hq h2
      rw [atQ_lin] at a b ⊢
      rw [atQ_lin] at b ⊢
      rw [lin_append, a, b, lin]
    · cases h
theorem PExp.pairs {e f : Int} {p q : List Tm} (h : PExp e p) (k : PExp f q) (hM : MulOK p q) : PExp (e + f) (pnorm (ppairs p q)) := PExp.norm fun t ht => by
  obtain ⟨a, ha, hm⟩ := List.mem_flatMap.1 ht
  obtain ⟨b, hb, rfl⟩ := List.mem_map.1 hm
  have h1 := h a ha
  have h2 := k b hb
  refine ⟨hM a ha b hb, ?_⟩
  dsimp only [Mon.add]
  omega
theorem runF_some {f : Int} (hf : 0 ≤ f) : ∀ {l : List (List Tm)} {c : List Tm} {e : Int} (_ : PExp e c) (_ : ∀ q ∈ l, PExp f q) (_ : e + f * (l.length : Int) ≤ 255), ∃ d, runF c l = some d
  | [], c, e, _, _, _ => ⟨c, rfl⟩
  | q :: r, c, e, hc, hq, hb => by
    have hq0 := hq q (by simp)
    rw [List.length_cons] at hb
    push_cast at hb
    rw [Int.mul_add, Int.mul_one] at hb
    have h0 : 0 ≤ f * (r.length : Int) := Int.mul_nonneg hf (by omega)
    have hM : MulOK c q := mulOK_of hc hq0 (by omega)
    obtain ⟨d, hd⟩ := runF_some hf (l := r) (c := pnorm (ppairs c q)) (e := e + f) (hc.pairs hq0 hM) (fun x hx => hq x (by simp [hx])) (by omega)
    refine ⟨d, ?_⟩
    have e : runF c (q :: r) = r.foldl stepM (stepM (some c) q) := rfl
    rw [e, stepM]
    rw [if_pos hM]
    exact hd
theorem comp_some {q : Nat → List Tm} (hq : ∀ i, i < 3 → PExp 4 (q i)) : ∀ {p : List Tm} (_ : POk p) (_ : ∀ t ∈ p, t.1.deg ≤ 5), ∃ d, compL q p = some d
  | [], _, _ => ⟨[], rfl⟩
  | t :: r, ho, hd => by
    obtain ⟨d, h2⟩ := comp_some hq (p := r) (fun u hu => ho u (by simp [hu])) fun u hu => hd u (by simp [hu])
    have h0 := ho t (by simp)
    have h5 := hd t (by simp)
    have hl := facs3_len q h0
    have hc : PExp 0 (cst t.2) := PExp.norm fun x hx => by simp at hx; subst hx; exact ⟨(by decide : (⟨0, 0, 0⟩ : Mon).ok), Int.le_refl 0, Int.le_refl 0, Int.le_refl 0⟩
    obtain ⟨c, h1⟩ : ∃ c, termC q t = some c := runF_some (f := 4) (by omega) hc (fun x hx => let ⟨i, hi, e⟩ := facs_mem hx; e ▸ hq i hi) (by omega)
    exact ⟨c ++ d, by rw [compL, h1, h2]⟩
theorem runF_len {b : Nat} : ∀ {l : List (List Tm)} {c d : List Tm} {a : Nat} (_ : runF c l = some d) (_ : ∀ q ∈ l, q.length ≤ b) (_ : c.length ≤ a), d.length ≤ a * b ^ l.length
  | [], c, d, a, h, _, h2 => by
    simp [runF] at h
    subst h
    simpa using h2
  | q :: r, c, d, a, h, hq, h2 => by
    have e : runF c (q :: r) = r.foldl stepM (stepM (some c) q) := rfl
    rw [e] at h
    unfold stepM at h
    dsimp only at h
    split at h
    · have hl : (pnorm (ppairs c q)).length ≤ a * b := by
        have := pnorm_len (ppairs c q)
        rw [ppairs_len] at this
        exact Nat.le_trans this (Nat.mul_le_mul h2 (hq q (by simp)))
      refine Nat.le_trans (runF_len (l := r) (c := pnorm (ppairs c q)) h (fun x hx => hq x (by simp [hx])) hl) ?_
      rw [List.length_cons, Nat.pow_succ, Nat.mul_assoc, Nat.mul_comm b]
      exact Nat.le_refl _
    · have h : r.foldl stepM none = some d := h
      rw [foldl_none] at h
      cases h
theorem comp_len {q : Nat → List Tm} (hq : ∀ i, i < 3 → (q i).length ≤ 5) : ∀ {p d : List Tm} (_ : POk p) (_ : ∀ t ∈ p, t.1.deg ≤ 5) (_ : compL q p = some d), d.length ≤ p.length * 3125
  | [], d, _, _, h => by
    simp only [compL, Option.some.injEq] at h
    subst h
    simp
  | t :: r, d, ho, hd, h => by
    rw [compL] at h
    split at h
    · rename_i c d' h1 h2
      simp only [Option.some.injEq] at h
      subst h
      have h0 := ho t (by simp)
      have h5 := hd t (by simp)
      have hl := facs3_len q h0
      have a := runF_len (b := 5) (a := 1) h1 (fun x hx => let ⟨i, hi, e⟩ := facs_mem hx; e ▸ hq i hi) (pnorm_len _)
      have b := comp_len hq (p := r) (fun u hu => ho u (by simp [hu])) (fun u hu => hd u (by simp [hu])) h2
      have c5 := Nat.pow_le_pow_right (show 0 < 5 by omega) (show (facs q (ege t) 3).length ≤ 5 by omega)
      rw [List.length_append, List.length_cons, Nat.add_mul]
      omega
    · cases h
theorem at_var0 (u : Pt) : atQ u (varP 0) = u.x := by
  have : varP 0 = [(⟨1, 0, 0⟩, 1)] := rfl
  rw [this, atQ_lin, lin, lin, evM]
  simp only [Pt.get, eget]
  simp [Rat.add_zero]
theorem at_var2 (u : Pt) : atQ u (varP 2) = u.z := by
  have : varP 2 = [(⟨0, 0, 1⟩, 1)] := rfl
  rw [this, atQ_lin, lin, lin, evM]
  simp only [Pt.get, eget]
  simp [Rat.add_zero]
end Go.Proofs.YtbingbjhgoanoaaGreat

/- cincturelaw8.Point. -/
set_option maxRecDepth 100000
set_option linter.unusedVariables false
set_option linter.unusedSimpArgs false
namespace Go.Proofs.YtbingbjhgoanoaaGreat
open Go Go.SX
def vS : Value → Sl
  | .slice a n c => ⟨a, n, c⟩
  | _ => ⟨none, 0, 0⟩
def vB : Value → Bool
  | .bool b => b
  | _ => false
def vat (c : List Value) (i : Nat) : Value := c.getD i (.bool false)
def IsPt (W : PW) (c d : List Value) (u : Pt) : Prop :=
  (∀ k, Sz 3 (u.get k)) ∧
  (IsRat 183 W (vS (vat c 0)) (vB (vat c 1)) (vS (vat c 2)) u.x ∧ IsRat 183 W (vS (vat c 3)) (vB (vat c 4)) (vS (vat c 5)) u.y ∧ IsRat 183 W (vS (vat c 6)) (vB (vat c 7)) (vS (vat c 8)) u.z) ∧
  (IsRefQ 183 W (vB (vat d 0)) (vS (vat d 1)) (vS (vat d 2)) u.x ∧ IsRefQ 183 W (vB (vat d 3)) (vS (vat d 4)) (vS (vat d 5)) u.y ∧ IsRefQ 183 W (vB (vat d 6)) (vS (vat d 7)) (vS (vat d 8)) u.z)
theorem IsPt.ext {W W' : PW} {c d : List Value} {u : Pt} (h : IsPt W c d u) (e : Ext W W') : IsPt W' c d u :=
  ⟨h.1, ⟨h.2.1.1.ext e, h.2.1.2.1.ext e, h.2.1.2.2.ext e⟩, ⟨h.2.2.1.ext e, h.2.2.2.1.ext e, h.2.2.2.2.ext e⟩⟩
def OkPt (ok : Bool) (W : PW) (c d : List Value) : Prop := ok = true → ∃ u : Pt, IsPt W c d u
def pointI (W0 : PW) (l : List PL) (W : PW) : Prop := match l with
  | [.val (.int .i64 i), .cells _, .cells _, .cells c, .cells d] => ∃ (j : Nat) (u : Pt), i = (j : Int) ∧ j ≤ 3 ∧ Ext W0 W ∧ IsPt W c d u
  | _ => False
def pointM (l : List PL) (_ : PW) : Nat := match l with
  | .val (.int .i64 i) :: _ => (3 - i).toNat
  | _ => 0
theorem Pt.sz {a b c : Rat} (ha : Sz 3 a) (hb : Sz 3 b) (hc : Sz 3 c) : ∀ k, Sz 3 ((Pt.mk a b c).get k) := fun k => by
  unfold Pt.get
  split
  · exact ha
  · split
    · exact hb
    · exact hc
theorem law8Point_ok {W0 : PW} {M : Nat → Prop} {a b c : ByteArray} (ha : a.size ≤ 1099511627776) (hb : b.size ≤ 1099511627776) (hc : c.size ≤ 1099511627776) :
    PCallsM Go.Proofs.Tryz.prog 43 [.agg ⟨[.string a, .string b, .string c]⟩] W0 M fun v W' => ∃ (s0 : Sl), ∃ (b0 : Bool), ∃ (t0 : Sl), ∃ (s1 : Sl), ∃ (b1 : Bool), ∃ (t1 : Sl), ∃ (s2 : Sl), ∃ (b2 : Bool), ∃ (t2 : Sl), ∃ (e0 : Bool), ∃ (p0 : Sl), ∃ (q0 : Sl), ∃ (e1 : Bool), ∃ (p1 : Sl), ∃ (q1 : Sl), ∃ (e2 : Bool), ∃ (p2 : Sl), ∃ (q2 : Sl), ∃ (ok : Bool), v = .tuple ⟨[.agg ⟨[Sl.v s0, .bool b0, Sl.v t0, Sl.v s1, .bool b1, Sl.v t1, Sl.v s2, .bool b2, Sl.v t2]⟩, .agg ⟨[.bool e0, Sl.v p0, Sl.v q0, .bool e1, Sl.v p1, Sl.v q1, .bool e2, Sl.v p2, Sl.v q2]⟩, .bool ok]⟩ ∧ OkPt ok W' [Sl.v s0, .bool b0, Sl.v t0, Sl.v s1, .bool b1, Sl.v t1, Sl.v s2, .bool b2, Sl.v t2] [.bool e0, Sl.v p0, Sl.v q0, .bool e1, Sl.v p1, Sl.v q1, .bool e2, Sl.v p2, Sl.v q2] := by
  apply calllaw8_Point
  refine ⟨pointI W0, pointM, ⟨0, ⟨0, 0, 0⟩, rfl, by omega, Ext.refl _, Pt.sz (Sz.zero (by omega)) (Sz.zero (by omega)) (Sz.zero (by omega)), ⟨isRat_nil W0, isRat_nil W0, isRat_nil W0⟩, ⟨isRefQ_nil W0, isRefQ_nil W0, isRefQ_nil W0⟩⟩, ?_⟩
  rintro s3 b4 s5 s6 b7 s8 s9 b10 s11 b12 s13 s14 b15 s16 s17 b18 s19 s20 s21 b22 s23 s24 b25 s26 s27 b28 s29 b30 s31 s32 b33 s34 s35 b36 s37 s38 i39 W40 ⟨j, u, rfl, hj, hE, hI⟩
  refine ⟨fun hlt => ?_, fun hge W54 hE54 => ⟨s21, b22, s23, s24, b25, s26, s27, b28, s29, b30, s31, s32, b33, s34, s35, b36, s37, s38, true, rfl, fun _ => ⟨u, hI.ext hE54⟩⟩⟩
  have hj3 : j < 3 := by omega
  obtain ⟨t, hbt, hts⟩ : ∃ t : ByteArray, BoxAt [.string a, .string b, .string c] (0 + Int.toNat (j : Int) * 1 + 0) [.string t] ∧ t.size ≤ 1099511627776 := by
    rcases (show j = 0 ∨ j = 1 ∨ j = 2 by omega) with rfl | rfl | rfl
    · exact ⟨a, ⟨by simp, rfl⟩, ha⟩
    · exact ⟨b, ⟨by simp, rfl⟩, hb⟩
    · exact ⟨c, ⟨by simp, rfl⟩, hc⟩
  refine ⟨⟨by omega, hlt⟩, t, hbt, law3Num_call hts fun s44 b45 s46 b47 s48 s49 W43 hE43 ⟨hq, hq2⟩ => ⟨s44, b45, s46, b47, s48, s49, _, rfl, fun hs W51 hE51 => ⟨s21, b22, s23, s24, b25, s26, s27, b28, s29, b30, s31, s32, b33, s34, s35, b36, s37, s38, false, rfl, fun h => by cases h⟩, fun hs => ⟨⟨by omega, hlt⟩, t, hbt, fun h16 W53 hE53 => ⟨s21, b22, s23, s24, b25, s26, s27, b28, s29, b30, s31, s32, b33, s34, s35, b36, s37, s38, false, rfl, fun h => by cases h⟩, fun h16 => ?_⟩⟩⟩
  obtain ⟨q, hq'⟩ := Option.isSome_iff_exists.1 (show (numQ t).isSome = true by simpa using hs)
  rw [hq'] at hq hq2
  have hq : IsRat 183 W43 s44 b45 s46 q := hq
  have hq2 : IsRefQ 183 W43 b47 s48 s49 q := hq2
  have hsq : Sz 3 q := by
    unfold numQ at hq'
    rw [if_pos (by omega)] at hq'
    exact (parseQ_sz hq').2 (by omega)
  obtain ⟨hz, ⟨c0, c1, c2⟩, ⟨d0, d1, d2⟩⟩ := hI.ext hE43
  have z0 : Sz 3 u.x := hz 0
  have z1 : Sz 3 u.y := hz 1
  have z2 : Sz 3 u.z := hz 2
  have hE' := hE.trans hE43
  refine ⟨⟨by omega, hlt⟩, by omega, ⟨⟨trivial, fun e => ?_⟩, fun e => ?_⟩, fun e => ?_⟩
  · refine ⟨⟨by omega, hlt⟩, by omega, ⟨⟨trivial, fun _ => ⟨by unfold I64; omega, ⟨j + 1, ⟨q, u.y, u.z⟩, by push_cast; rfl, by omega, hE', Pt.sz hsq z1 z2, ⟨hq, c1, c2⟩, ⟨hq2, d1, d2⟩⟩, by show (3 - ((j : Int) + 1)).toNat < (3 - (j : Int)).toNat; omega⟩⟩, fun f => (by omega)⟩, fun f => (by omega)⟩
  · refine ⟨⟨by omega, hlt⟩, by omega, ⟨⟨trivial, fun f => (by omega)⟩, fun _ => ⟨by unfold I64; omega, ⟨j + 1, ⟨u.x, q, u.z⟩, by push_cast; rfl, by omega, hE', Pt.sz z0 hsq z2, ⟨c0, hq, c2⟩, ⟨d0, hq2, d2⟩⟩, by show (3 - ((j : Int) + 1)).toNat < (3 - (j : Int)).toNat; omega⟩⟩, fun f => (by omega)⟩
  · refine ⟨⟨by omega, hlt⟩, by omega, ⟨⟨trivial, fun f => (by omega)⟩, fun f => (by omega)⟩, fun _ => ⟨by unfold I64; omega, ⟨j + 1, ⟨u.x, u.y, q⟩, by push_cast; rfl, by omega, hE', Pt.sz z0 z1 hsq, ⟨c0, c1, hq⟩, ⟨d0, d1, hq2⟩⟩, by show (3 - ((j : Int) + 1)).toNat < (3 - (j : Int)).toNat; omega⟩⟩
theorem law8Point_call {W0 W : PW} {M : Nat → Prop} {a b c : ByteArray} {K : Value → PW → Prop} (ha : a.size ≤ 1099511627776) (hb : b.size ≤ 1099511627776) (hc : c.size ≤ 1099511627776) (kont : ∀ (s0 : Sl) (b0 : Bool) (t0 : Sl) (s1 : Sl) (b1 : Bool) (t1 : Sl) (s2 : Sl) (b2 : Bool) (t2 : Sl) (e0 : Bool) (p0 : Sl) (q0 : Sl) (e1 : Bool) (p1 : Sl) (q1 : Sl) (e2 : Bool) (p2 : Sl) (q2 : Sl) (ok : Bool) (W' : PW), Ext W W' → (OkPt ok W' [Sl.v s0, .bool b0, Sl.v t0, Sl.v s1, .bool b1, Sl.v t1, Sl.v s2, .bool b2, Sl.v t2] [.bool e0, Sl.v p0, Sl.v q0, .bool e1, Sl.v p1, Sl.v q1, .bool e2, Sl.v p2, Sl.v q2]) → K (.tuple ⟨[.agg ⟨[Sl.v s0, .bool b0, Sl.v t0, Sl.v s1, .bool b1, Sl.v t1, Sl.v s2, .bool b2, Sl.v t2]⟩, .agg ⟨[.bool e0, Sl.v p0, Sl.v q0, .bool e1, Sl.v p1, Sl.v q1, .bool e2, Sl.v p2, Sl.v q2]⟩, .bool ok]⟩) W') :
    callN Go.Proofs.Tryz.prog W0 M 43 [.agg ⟨[.string a, .string b, .string c]⟩] W K :=
  callN_of (fun W' hE => law8Point_ok (M := fun _ => False) ha hb hc) (fun W' v W'' hE hE' hP => by
    obtain ⟨s0, b0, t0, s1, b1, t1, s2, b2, t2, e0, p0, q0, e1, p1, q1, e2, p2, q2, ok, rfl, h⟩ := hP
    exact kont s0 b0 t0 s1 b1 t1 s2 b2 t2 e0 p0 q0 e1 p1 q1 e2 p2 q2 ok W'' (hE.trans hE') h)
end Go.Proofs.YtbingbjhgoanoaaGreat
