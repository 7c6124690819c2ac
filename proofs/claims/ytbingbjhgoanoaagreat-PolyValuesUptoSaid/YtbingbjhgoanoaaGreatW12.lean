/- poly: slices.Concat, Add, Scale, Sub. -/
import Derived.Test.YtbingbjhgoanoaaGreatW11
import Derived.Test.YtbingbjhgoanoaaGreatW9
import Derived.Test.YtbingbjhgoanoaaGreatW10
import Derived.Test.YtbingbjhgoanoaaGreatR12
set_option linter.unusedVariables false
set_option linter.unusedSimpArgs false
set_option maxRecDepth 100000
set_option linter.unusedVariables false
set_option linter.unusedSimpArgs false
namespace Go.Proofs.YtbingbjhgoanoaaGreat
open Go Go.SX
theorem row2_at {W : PW} {t : TypeId} {s sp sq : Sl} (h : Row W t 1 s [[sp.v], [sq.v]]) {k : Nat} (hk : k < 2) : ElemAt W s 1 k 0 [(if k = 0 then sp else sq).v] := by
  rcases (by omega : k = 0 ∨ k = 1) with rfl | rfl
  · exact h.part (x := [sp.v]) rfl 0 rfl
  · exact h.part (x := [sq.v]) rfl 0 rfl
def catI (n0 : Nat) (W0 : PW) (p q : List Tm) (l : List PL) (W : PW) : Prop := match l with
  | [.val (.slice A n c), .val (.int .i64 i)] => ∃ (k : Nat) (xs : List (List Value)), i = (k : Int) ∧ k ≤ 2 ∧ ExtN n0 W0 W ∧ Go.SX.Own W 45 6 ⟨A, n, c⟩ xs ∧ (∀ g, (Value.slice A n c).ownBlock = some g → n0 ≤ g) ∧ All2 (PT 183 W) xs (if k = 0 then [] else if k = 1 then p else p ++ q)
  | _ => False
theorem concatTm_ok {W0 : PW} {M : Nat → Prop} {s sp sq : Sl} {p q : List Tm} {ts : TypeId} (hs : Row W0 ts 1 s [[sp.v], [sq.v]]) (h1 : IsPoly 183 45 W0 sp p) (h2 : IsPoly 183 45 W0 sq q) (hp : p.length ≤ 1073741824) (hq : q.length ≤ 1073741824) :
    PCallsM Go.Proofs.Tryz.prog 75 [s.v] W0 M fun v W' => ∃ (s' : Sl), v = Sl.v s' ∧ IsPoly 183 45 W' s' (p ++ q) := by
  apply callslices_Concat_poly_Term_poly_Term
  have hn : s.n = 2 := hs.1
  have n1 := h1.n
  have n2 := h2.n
  refine ⟨fun l W => match l with
    | [.val (.int .i64 a), .val (.int .i64 i)] => W = W0 ∧ ∃ k : Nat, i = (k : Int) ∧ k ≤ 2 ∧ a = (((if 0 < k then p.length else 0) + (if 1 < k then q.length else 0) : Nat) : Int)
    | _ => False, fun l _ => match l with | [_, .val (.int .i64 i)] => 2 - i.toNat | _ => 0, ⟨rfl, 0, rfl, by omega, by simp⟩, ?_⟩
  rintro i3 i4 W5 ⟨rfl, k, rfl, hk, rfl⟩
  refine ⟨fun hlt => ?_, fun hge => ?_⟩
  · have hk2 : k < 2 := by omega
    have hcn : (if k = 0 then sp else sq).n = if k = 0 then p.length else q.length := by split <;> assumption
    refine ⟨hs.inB (by omega) (by simp; omega), _, row2_at hs hk2, ?_, fun h => ?_, fun h => ⟨by unfold I64; omega, ⟨rfl, k + 1, by push_cast; rfl, by omega, ?_⟩, ?_⟩⟩
    · show I64 (_ + (((if k = 0 then sp else sq).n : Nat) : Int))
      rw [hcn]
      unfold I64
      repeat' split
      all_goals omega
    · have h : (_ : Int) + (((if k = 0 then sp else sq).n : Nat) : Int) < 0 := h
      omega
    · show _ + (((if k = 0 then sp else sq).n : Nat) : Int) = _
      rw [hcn]
      rcases (by omega : k = 0 ∨ k = 1) with rfl | rfl <;> simp
    · show 2 - Int.toNat ((k : Int) + 1) < 2 - Int.toNat (k : Int)
      omega
  have hk2 : k = 2 := by omega
  subst hk2
  have hn0 : (if 0 < 2 then p.length else 0) + (if 1 < 2 then q.length else 0) = p.length + q.length := by simp
  rw [hn0]
  refine callN_of (fun W' hE => growTm_ok (M := fun _ => False) (by omega)) fun W' v W8 hE hE8 hP => ?_
  obtain ⟨s9, rfl, hf, hO⟩ := hP
  have hE08 := hE.trans hE8
  refine ⟨s9, rfl, catI W5.w.heap.size W5 p q, fun l _ => match l with | [_, .val (.int .i64 i)] => 2 - i.toNat | _ => 0, ⟨0, [], rfl, by omega, hE08.toM _, hO, fun g hg => Nat.le_trans hE.size (hf g hg), trivial⟩, ?_⟩
  rintro s12 i13 W14 ⟨k, xs, rfl, hk, hEN, hO12, hfr, hall⟩
  have hO12 : Go.SX.Own W14 45 6 s12 xs := hO12
  have hfr : ∀ g, s12.v.ownBlock = some g → W5.w.heap.size ≤ g := hfr
  refine ⟨fun hlt => ?_, fun hge W19 hE19 => ⟨s12, rfl, ?_⟩⟩
  · have hk2 : k < 2 := by omega
    have hs14 := hs.new hEN (Nat.le_refl _)
    obtain ⟨y1, r1, a1⟩ := h1.new hEN (Nat.le_refl _)
    obtain ⟨y2, r2, a2⟩ := h2.new hEN (Nat.le_refl _)
    have hr : Row W14 45 6 (if k = 0 then sp else sq) (if k = 0 then y1 else y2) := by split <;> assumption
    have ha : All2 (PT 183 W14) (if k = 0 then y1 else y2) (if k = 0 then p else q) := by split <;> assumption
    have l1 := hall.len
    have l2 := ha.len
    refine ⟨hs14.inB (by omega) (by simp; omega), _, row2_at hs14 hk2, _, ⟨_, hr⟩, fun W' hE' => ⟨xs, hO12.ext hE', fun g hg => .inr (hfr g hg), ?_, fun s' W'' hX hO' hob => ⟨by unfold I64; omega, ⟨k + 1, _, by push_cast; rfl, by omega, (hEN.trans (hE'.toM _)).trans (hX.mono fun g hg => hfr g hg), hO', fun g hg => ?_, ?_⟩, ?_⟩⟩⟩
    · rw [l1, l2]
      rcases (by omega : k = 0 ∨ k = 1) with rfl | rfl
      · simp; omega
      · simp; omega
    · rcases hob g hg with h | h
      · exact hfr g h
      · exact Nat.le_trans (Nat.le_trans hEN.size hE'.size) h
    · have b1 := hall.mono fun _ _ h => PT.own (hO12.ext hE') hX (by decide : 183 ≠ 45) (h.ext hE')
      have b2 := ha.mono fun _ _ h => PT.own (hO12.ext hE') hX (by decide : 183 ≠ 45) (h.ext hE')
      have b3 := b1.append b2
      rcases (by omega : k = 0 ∨ k = 1) with rfl | rfl
      · simpa using b3
      · simpa using b3
    · show 2 - Int.toNat ((k : Int) + 1) < 2 - Int.toNat (k : Int)
      omega
  · have hk2 : k = 2 := by omega
    subst hk2
    exact ⟨xs, (hO12.ext hE19).row, (by simpa using hall : All2 (PT 183 W14) xs (p ++ q)).mono fun _ _ h => h.ext hE19⟩
theorem concatTm_call {W0 W : PW} {M : Nat → Prop} {s sp sq : Sl} {p q : List Tm} {ts : TypeId} {K : Value → PW → Prop} (hs : Row W ts 1 s [[sp.v], [sq.v]]) (h1 : IsPoly 183 45 W sp p) (h2 : IsPoly 183 45 W sq q) (hp : p.length ≤ 1073741824) (hq : q.length ≤ 1073741824) (kont : ∀ (s' : Sl) (W' : PW), Ext W W' → (IsPoly 183 45 W' s' (p ++ q)) → K (Sl.v s') W') :
    callN Go.Proofs.Tryz.prog W0 M 75 [s.v] W K :=
  callN_of (fun W' hE => concatTm_ok (M := fun _ => False) (hs.ext hE) (h1.ext hE) (h2.ext hE) hp hq) (fun W' v W'' hE hE' hP => by
    obtain ⟨s', rfl, h⟩ := hP
    exact kont s' W'' (hE.trans hE') h)
theorem polyAdd_ok {W0 : PW} {M : Nat → Prop} {sp sq : Sl} {p q : List Tm} {k : Nat} (h1 : IsPoly 183 45 W0 sp p) (h2 : IsPoly 183 45 W0 sq q) (b1 : Bd k p) (b2 : Bd k q) (hk : k ≤ 134217728) (hp : p.length ≤ 536870912) (hq : q.length ≤ 536870912) :
    PCallsM Go.Proofs.Tryz.prog 31 [.agg ⟨[sp.v]⟩, .agg ⟨[sq.v]⟩] W0 M fun v W' => ∃ (s' : Sl), v = .agg ⟨[Sl.v s']⟩ ∧ IsPoly 183 45 W' s' (pnorm (p ++ q)) := by
  apply callpoly_Add
  intro s1 W2 hE2 hO _
  refine concatTm_call hO.row (h1.ext hE2) (h2.ext hE2) (by omega) (by omega) fun s5 W4 hE4 h5 => ⟨s5, rfl, ?_⟩
  exact polyNew_call h5 (b1.append b2) (by omega) (by simp; omega) fun s' W7 hE7 hp => ⟨s', rfl, fun W9 hE9 => ⟨s', rfl, hp.ext hE9⟩⟩
theorem polyAdd_call {W0 W : PW} {M : Nat → Prop} {sp sq : Sl} {p q : List Tm} {k : Nat} {K : Value → PW → Prop} (h1 : IsPoly 183 45 W sp p) (h2 : IsPoly 183 45 W sq q) (b1 : Bd k p) (b2 : Bd k q) (hk : k ≤ 134217728) (hp : p.length ≤ 536870912) (hq : q.length ≤ 536870912) (kont : ∀ (s' : Sl) (W' : PW), Ext W W' → (IsPoly 183 45 W' s' (pnorm (p ++ q))) → K (.agg ⟨[Sl.v s']⟩) W') :
    callN Go.Proofs.Tryz.prog W0 M 31 [.agg ⟨[sp.v]⟩, .agg ⟨[sq.v]⟩] W K :=
  callN_of (fun W' hE => polyAdd_ok (M := fun _ => False) (h1.ext hE) (h2.ext hE) b1 b2 hk hp hq) (fun W' v W'' hE hE' hP => by
    obtain ⟨s', rfl, h⟩ := hP
    exact kont s' W'' (hE.trans hE') h)
def pmap (p : List Tm) (r : Rat) : List Tm := p.map fun t => (t.1, t.2 * r)
theorem Fit.pmap {D E N n : Nat} {p : List Tm} {r : Rat} (h : Fit D N p) (hr : FitQ E n r) : Fit (D * E) (N * n) (pmap p r) := by
  induction p generalizing N with
  | nil => trivial
  | cons t p ih =>
    obtain ⟨a, b, h1, h2, h3⟩ := h
    exact ⟨a * n, b * n, by rw [← Nat.add_mul]; exact Nat.mul_le_mul_right _ h1, h2.mul hr, ih h3⟩
theorem Bd.pmap {k l : Nat} {p : List Tm} {r : Rat} (h : Bd k p) (hr : Sz l r) : Bd (k + l) (pmap p r) := by
  obtain ⟨D, N, h1, h2, h3, h4⟩ := h
  have e1 := nl_mul D r.den
  have e2 := nl_mul N r.num.natAbs
  have e3 := hr.1
  have e4 := hr.2
  exact ⟨D * r.den, N * r.num.natAbs, Fit.pmap h1 (FitQ.den r), Nat.mul_ne_zero h2 r.den_nz, by omega, by omega⟩
theorem polyScale_ok {W0 : PW} {M : Nat → Prop} {sp s t : Sl} {p : List Tm} {b : Bool} {r : Rat} {k l : Nat} (h1 : IsPoly 183 45 W0 sp p) (h2 : IsRat 183 W0 s b t r) (b1 : Bd k p) (b2 : Sz l r) (hk : k ≤ 134217728) (hl : l ≤ 134217728) (hp : p.length ≤ 1073741824) :
    PCallsM Go.Proofs.Tryz.prog 35 [.agg ⟨[sp.v]⟩, .agg ⟨[s.v, .bool b, t.v]⟩] W0 M fun v W' => ∃ (s' : Sl), v = .agg ⟨[Sl.v s']⟩ ∧ IsPoly 183 45 W' s' (pnorm (pmap p r)) := by
  apply callpoly_Scale
  have h1' := h1
  obtain ⟨xs, hr, ha⟩ := h1'
  have hlen := ha.len
  refine polyTerms_call hr (by omega) fun s3 W2 hE2 ⟨hf, hO⟩ => ⟨s3, rfl, ?_⟩
  refine ⟨fun l W => match l with
    | [.val (.int .i64 i)] => ∃ (j : Nat) (ys : List (List Value)), i = (j : Int) ∧ j ≤ p.length ∧ ExtN W0.w.heap.size W0 W ∧ Go.SX.Own W 45 6 s3 ys ∧ All2 (PT 183 W) ys (pmap (p.take j) r ++ p.drop j)
    | _ => False, fun l _ => match l with | [.val (.int .i64 i)] => p.length - i.toNat | _ => 0, ⟨0, xs, rfl, by omega, hE2.toM _, hO, by simpa [pmap] using ha.mono fun _ _ h => h.ext hE2⟩, ?_⟩
  rintro i6 W7 ⟨j, ys, rfl, hj, hEN, hO7, ha7⟩
  have hn7 : s3.n = p.length := by rw [hO7.row.1, ha7.len]; simp [pmap]; omega
  refine ⟨fun hlt => ?_, fun hge => ?_⟩
  · have hjl : j < p.length := by omega
    have hib : inB s3 (j : Int) := hO7.row.inB (by omega) (by rw [ha7.len]; simp [pmap]; omega)
    have hg : (pmap (p.take j) r ++ p.drop j)[j]? = some p[j] := by
      rw [List.getElem?_append_right (by simp [pmap]; omega), List.getElem?_drop]
      simp [pmap, Nat.min_eq_left (Nat.le_of_lt hjl), hjl]
    obtain ⟨x, hx, h0, s8, b9, s10, rfl, hq⟩ := ha7.get hg
    refine ⟨hib, s8, b9, s10, hO7.row.part hx 3 rfl, ratMul_call hq (h2.new hEN (Nat.le_refl _)) (b1.sz _ (List.getElem_mem hjl)) b2 (by omega) (by omega) fun s13 b14 s15 W12 hE12 h12 => ⟨s13, b14, s15, rfl, hib, ?_⟩⟩
    refine storeN_part (j := j) (hO7.ext hE12) hx (by simp) (fun u hu => ?_) (fun g hg => .inr (hf g hg)) fun W'' g hgo hw hO'' => ⟨by unfold I64; omega, ⟨j + 1, _, by push_cast; rfl, by omega, (hEN.trans (hE12.toM _)).trans (hw.extN (hf g hgo)), hO'', ?_⟩, ?_⟩
    · simp only [List.mem_cons, List.not_mem_nil, or_false] at hu
      rcases hu with rfl | rfl | rfl <;> rfl
    · have hset : pmap (p.take (j + 1)) r ++ p.drop (j + 1) = (pmap (p.take j) r ++ p.drop j).set j (p[j].1, p[j].2 * r) := by
        rw [take_snoc hjl, List.drop_eq_getElem_cons hjl]
        have hl : (pmap (p.take j) r).length = j := by simp [pmap]; omega
        rw [List.set_append_right _ _ (by omega), hl, Nat.sub_self, List.set_cons_zero, show pmap (p.take j ++ [p[j]]) r = pmap (p.take j) r ++ [(p[j].1, p[j].2 * r)] from List.map_append, List.append_assoc]
        rfl
      rw [hset]
      exact (ha7.mono fun _ _ h => (h.ext hE12).wr hw (by decide)).set j ⟨h0, s13, b14, s15, rfl, hw.rat h12 (by decide)⟩
    · show p.length - Int.toNat ((j : Int) + 1) < p.length - Int.toNat (j : Int)
      omega
  · have hj' : j = p.length := by omega
    subst hj'
    rw [List.take_length, List.drop_length, List.append_nil] at ha7
    exact polyNew_call (isPoly_of hO7.row ha7) (Bd.pmap b1 b2) (by omega) (by simp [pmap]; omega) fun s' W18 hE18 hp => ⟨s', rfl, fun W20 hE20 => ⟨s', rfl, hp.ext hE20⟩⟩
theorem polyScale_call {W0 W : PW} {M : Nat → Prop} {sp s t : Sl} {p : List Tm} {b : Bool} {r : Rat} {k l : Nat} {K : Value → PW → Prop} (h1 : IsPoly 183 45 W sp p) (h2 : IsRat 183 W s b t r) (b1 : Bd k p) (b2 : Sz l r) (hk : k ≤ 134217728) (hl : l ≤ 134217728) (hp : p.length ≤ 1073741824) (kont : ∀ (s' : Sl) (W' : PW), Ext W W' → (IsPoly 183 45 W' s' (pnorm (pmap p r))) → K (.agg ⟨[Sl.v s']⟩) W') :
    callN Go.Proofs.Tryz.prog W0 M 35 [.agg ⟨[sp.v]⟩, .agg ⟨[s.v, .bool b, t.v]⟩] W K :=
  callN_of (fun W' hE => polyScale_ok (M := fun _ => False) (h1.ext hE) (h2.ext hE) b1 b2 hk hl hp) (fun W' v W'' hE hE' hP => by
    obtain ⟨s', rfl, h⟩ := hP
    exact kont s' W'' (hE.trans hE') h)
theorem pmap_len (p : List Tm) (r : Rat) : (pmap p r).length = p.length := by simp [pmap]
theorem polySub_ok {W0 : PW} {M : Nat → Prop} {sp sq : Sl} {p q : List Tm} {k : Nat} (h1 : IsPoly 183 45 W0 sp p) (h2 : IsPoly 183 45 W0 sq q) (b1 : Bd k p) (b2 : Bd k q) (hk : k ≤ 67108864) (hp : p.length ≤ 536870912) (hq : q.length ≤ 536870912) :
    PCallsM Go.Proofs.Tryz.prog 33 [.agg ⟨[sp.v]⟩, .agg ⟨[sq.v]⟩] W0 M fun v W' => ∃ (s' : Sl), v = .agg ⟨[Sl.v s']⟩ ∧ IsPoly 183 45 W' s' (pnorm (p ++ pmap q (-1))) := by
  apply callpoly_Sub
  refine ratOf_call (z := -1) (by unfold I64; omega) fun s3 b4 s5 W2 hE2 h2' => ⟨s3, b4, s5, rfl, ?_⟩
  have hm1 : ((-1 : Int) : Rat) = -1 := by rfl
  have hz : Sz 1 ((-1 : Int) : Rat) := by rw [hm1]; exact (Sz.one (Nat.le_refl 1)).neg
  refine polyScale_call (h2.ext hE2) h2' b2 hz (by omega) (by omega) (by omega) fun s8 W7 hE7 h8 => ⟨s8, rfl, ?_⟩
  have hlen := pnorm_len (pmap q ((-1 : Int) : Rat))
  rw [pmap_len] at hlen
  refine polyAdd_call (h1.ext (hE2.trans hE7)) h8 (b1.mono (by omega : k ≤ k + 1)) (Bd.norm (Bd.pmap b2 hz)) (by omega) (by omega) (by omega) fun s11 W10 hE10 h11 => ⟨s11, rfl, fun W12 hE12 => ⟨s11, rfl, ?_⟩⟩
  have e : pnorm (p ++ pnorm (pmap q ((-1 : Int) : Rat))) = pnorm (p ++ pmap q (-1)) := pnorm_congr fun m => by rw [ptot_append, ptot_append, ptot_pnorm, hm1]
  rw [← e]
  exact h11.ext hE12
theorem polySub_call {W0 W : PW} {M : Nat → Prop} {sp sq : Sl} {p q : List Tm} {k : Nat} {K : Value → PW → Prop} (h1 : IsPoly 183 45 W sp p) (h2 : IsPoly 183 45 W sq q) (b1 : Bd k p) (b2 : Bd k q) (hk : k ≤ 67108864) (hp : p.length ≤ 536870912) (hq : q.length ≤ 536870912) (kont : ∀ (s' : Sl) (W' : PW), Ext W W' → (IsPoly 183 45 W' s' (pnorm (p ++ pmap q (-1)))) → K (.agg ⟨[Sl.v s']⟩) W') :
    callN Go.Proofs.Tryz.prog W0 M 33 [.agg ⟨[sp.v]⟩, .agg ⟨[sq.v]⟩] W K :=
  callN_of (fun W' hE => polySub_ok (M := fun _ => False) (h1.ext hE) (h2.ext hE) b1 b2 hk hp hq) (fun W' v W'' hE hE' hP => by
    obtain ⟨s', rfl, h⟩ := hP
    exact kont s' W'' (hE.trans hE') h)
end Go.Proofs.YtbingbjhgoanoaaGreat

/- poly: Mul, Plain. -/
set_option maxRecDepth 100000
set_option linter.unusedVariables false
set_option linter.unusedSimpArgs false
namespace Go.Proofs.YtbingbjhgoanoaaGreat
open Go Go.SX
def MulOK (p q : List Tm) : Prop := ∀ a ∈ p, ∀ b ∈ q, (a.1.add b.1).ok
instance (p q : List Tm) : Decidable (MulOK p q) := by unfold MulOK; infer_instance
def mulP (p q : List Tm) : List Tm := if MulOK p q then pnorm (ppairs p q) else []
def prow (a : Tm) (q : List Tm) : List Tm := q.map fun b => (a.1.add b.1, a.2 * b.2)
theorem ppairs_snoc (p : List Tm) (a : Tm) (q : List Tm) : ppairs (p ++ [a]) q = ppairs p q ++ prow a q := by simp [ppairs, prow]
theorem ppairs_cons (p : List Tm) (a : Tm) (q : List Tm) : ppairs (a :: p) q = prow a q ++ ppairs p q := rfl
theorem sums_congr {D a : Nat} {l l' E : List Tm} (h : Sums D l a E) (e : l = l') : Sums D l' a E := e ▸ h
def mulIO (g : Nat) (sp sq : Sl) (p q : List Tm) (D N : Nat) (l : List PL) (W : PW) : Prop := match l with
  | [.val (.int .i64 i), _] => ∃ j : Nat, i = (j : Int) ∧ j ≤ p.length ∧ IsPoly 183 45 W sp p ∧ IsPoly 183 45 W sq q ∧ MulOK (p.take j) q ∧ ∃ es c E a b, IsSums 183 W g es c E ∧ Sums D (ppairs (p.take j) q) a E ∧ Fit D b (ppairs (p.drop j) q) ∧ a + b ≤ N
  | _ => False
def mulII (g j : Nat) (sp sq : Sl) (p q : List Tm) (t : Tm) (D N : Nat) (l : List PL) (W : PW) : Prop := match l with
  | [.val (.int .i64 i), _] => ∃ k : Nat, i = (k : Int) ∧ k ≤ q.length ∧ IsPoly 183 45 W sp p ∧ IsPoly 183 45 W sq q ∧ (∀ b ∈ q.take k, (t.1.add b.1).ok) ∧ (∃ s1 b1 s2, IsRat 183 W s1 b1 s2 t.2) ∧ ∃ es c E a b, IsSums 183 W g es c E ∧ Sums D (ppairs (p.take j) q ++ prow t (q.take k)) a E ∧ Fit D b (prow t (q.drop k) ++ ppairs (p.drop (j + 1)) q) ∧ a + b ≤ N
  | _ => False
def cn1 (n : Nat) (l : List PL) (W : PW) : Nat := match l with
  | .val (.int .i64 i) :: _ => n - i.toNat
  | _ => 0
theorem polyMul_ok {W0 : PW} {M : Nat → Prop} {sp sq : Sl} {p q : List Tm} {k : Nat} (h1 : IsPoly 183 45 W0 sp p) (h2 : IsPoly 183 45 W0 sq q) (b1 : Bd k p) (b2 : Bd k q) (hk : k ≤ 134217728) (hp : p.length ≤ 1073741824) (hq : q.length ≤ 1073741824) (hpq : p.length * q.length ≤ 1073741824) :
    PCallsM Go.Proofs.Tryz.prog 21 [.agg ⟨[sp.v]⟩, .agg ⟨[sq.v]⟩] W0 M fun v W' => ∃ (s' : Sl), v = .tuple ⟨[.agg ⟨[Sl.v s']⟩, .bool (decide (MulOK p q))]⟩ ∧ IsPoly 183 45 W' s' (mulP p q) := by
  apply callpoly_Mul
  intro g W2 hE2 _ hg hS hh
  obtain ⟨D, N, hF, hD, hn1, hn2⟩ := b1.pairs b2
  have hk1 : 1 ≤ k + k := Nat.le_trans (nl_pos hD) hn1
  refine ⟨mulIO g sp sq p q D N, cn1 p.length, ⟨0, rfl, by omega, h1.ext hE2, h2.ext hE2, fun a ha => by simp at ha, #[], 0, [], 0, N, IsSums.new hS hh, Sums.nil D, hF, by omega⟩, ?_⟩
  rintro s5 i6 W7 ⟨j, rfl, hj, hP, hQ, hok, es, c, E, a, b, hs, hsm, hf, hab⟩
  have np := hP.n
  refine ⟨fun hlt => ?_, fun hge => ?_⟩
  · have hjl : j < p.length := by omega
    obtain ⟨h0, s1, d1, s2, he, _, _, hr⟩ := hP.at (List.getElem?_eq_getElem hjl)
    rw [List.drop_eq_getElem_cons hjl, ppairs_cons] at hf
    refine ⟨hP.inB (by omega) (by omega), _, _, _, s1, d1, s2, he, fun l W => mulII g j sp sq p q p[j] D N l W ∧ IsRat 183 W s1 d1 s2 p[j].2, cn1 q.length, ⟨⟨0, rfl, by omega, hP, hQ, fun b hb => by simp at hb, ⟨s1, d1, s2, hr⟩, es, c, E, a, b, hs, sums_congr hsm (by simp [prow]), hf, hab⟩, hr⟩, ?_⟩
    rintro s16 i17 W18 ⟨⟨k', rfl, hk', hP', hQ', hok', _, es', c', E', a', b', hs', hsm', hf', hab'⟩, hr'⟩
    have nq := hQ'.n
    refine ⟨fun hlt' => ?_, fun hge' => ⟨by unfold I64; omega, ⟨j + 1, by push_cast; rfl, by omega, hP', hQ', ?_, es', c', E', a', b', hs', ?_, ?_, hab'⟩, ?_⟩⟩
    · have hkl : k' < q.length := by omega
      obtain ⟨h0', s3, d3, s4, he', _, _, hr3⟩ := hQ'.at (List.getElem?_eq_getElem hkl)
      refine ⟨hQ'.inB (by omega) (by omega), _, _, _, s3, d3, s4, he', monoMul_call h0 h0' fun W26 hE26 _ => ⟨_, _, _, _, rfl, fun hno W31 hE31 => ?_, fun hyes => ?_⟩⟩
      · have hno : ¬ (p[j].1.add q[k'].1).ok := by simpa using hno
        have hM : ¬ MulOK p q := fun h => hno (h _ (List.getElem_mem hjl) _ (List.getElem_mem hkl))
        refine ⟨⟨none, 0, 0⟩, ?_, ?_⟩
        · rw [decide_eq_false hM]
        · unfold mulP
          rw [if_neg hM]
          exact IsPoly.nil W31
      · have hyes : (p[j].1.add q[k'].1).ok := by simpa using hyes
        have hmm : mulMon p[j].1 q[k'].1 = p[j].1.add q[k'].1 := by unfold mulMon; rw [if_pos hyes]
        rw [hmm]
        rw [List.drop_eq_getElem_cons hkl] at hf'
        obtain ⟨n, m, hnm, hfq, hf''⟩ := hf'
        refine ratMul_call (hr'.ext hE26) (hr3.ext hE26) (b1.sz _ (List.getElem_mem hjl)) (b2.sz _ (List.getElem_mem hkl)) (by omega) (by omega) fun s34 d35 s36 W33 hE33 h33 => ⟨s34, d35, s36, rfl, ?_⟩
        have hE := hE26.trans hE33
        refine sumsAdd_call (k := k + k) (m := p[j].1.add q[k'].1) (hs'.ext hE) hyes h33 (fun t ht => ((hsm'.fit.mem ht).mono (by omega : a' ≤ N)).sz hD hn1 hn2) ((hfq.mono (by omega : n ≤ N)).sz hD hn1 hn2) (by omega) hk1 (.inr hg) fun W' W'' es2 c2 E2 hE' hX hs2 hs3 hA => ⟨rfl, by unfold I64; omega, ⟨⟨k' + 1, by push_cast; rfl, by omega, (hP'.ext (hE.trans hE')).map hX hs2.heap, (hQ'.ext (hE.trans hE')).map hX hs2.heap, ?_, ⟨s1, d1, s2, (hr'.ext (hE.trans hE')).map hX hs2.heap⟩, es2, c2, E2, a' + n, m, hs3, ?_, hf'', by omega⟩, (hr'.ext (hE.trans hE')).map hX hs2.heap⟩, ?_⟩
        · intro b hb
          rw [take_snoc hkl] at hb
          rcases List.mem_append.1 hb with hb | hb
          · exact hok' b hb
          · simp at hb; subst hb; exact hyes
        · refine sums_congr (hsm'.add hA hfq) ?_
          rw [take_snoc hkl, show prow p[j] (q.take k' ++ [q[k']]) = prow p[j] (q.take k') ++ [(p[j].1.add q[k'].1, p[j].2 * q[k'].2)] from List.map_append, List.append_assoc]
        · show q.length - Int.toNat ((k' : Int) + 1) < q.length - Int.toNat (k' : Int)
          omega
    · intro a ha b hb
      rw [take_snoc hjl] at ha
      rcases List.mem_append.1 ha with ha | ha
      · exact hok a ha b hb
      · simp at ha; subst ha
        have : k' = q.length := by omega
        subst this
        rw [List.take_length] at hok'
        exact hok' b hb
    · have : k' = q.length := by omega
      subst this
      refine sums_congr hsm' ?_
      rw [List.take_length, take_snoc hjl, ppairs_snoc]
    · have : k' = q.length := by omega
      subst this
      simpa [prow] using hf'
    · show p.length - Int.toNat ((j : Int) + 1) < p.length - Int.toNat (j : Int)
      omega
  · have hj' : j = p.length := by omega
    subst hj'
    rw [List.take_length] at hsm hok
    have hlen := hsm.len
    rw [ppairs_len] at hlen
    refine sumsPoly_call (k := k + k) hs (fun t ht => ((hsm.fit.mem ht).mono (by omega : a ≤ N)).sz hD hn1 hn2) (by omega) (by omega) fun s' W' hE' hp' => ⟨s', rfl, fun W18 hE18 => ⟨s', ?_, ?_⟩⟩
    · rw [decide_eq_true hok]
    · unfold mulP
      rw [if_pos hok, ← hsm.norm]
      exact hp'.ext hE18
theorem polyMul_call {W0 W : PW} {M : Nat → Prop} {sp sq : Sl} {p q : List Tm} {k : Nat} {K : Value → PW → Prop} (h1 : IsPoly 183 45 W sp p) (h2 : IsPoly 183 45 W sq q) (b1 : Bd k p) (b2 : Bd k q) (hk : k ≤ 134217728) (hp : p.length ≤ 1073741824) (hq : q.length ≤ 1073741824) (hpq : p.length * q.length ≤ 1073741824) (kont : ∀ (s' : Sl) (W' : PW), Ext W W' → (IsPoly 183 45 W' s' (mulP p q)) → K (.tuple ⟨[.agg ⟨[Sl.v s']⟩, .bool (decide (MulOK p q))]⟩) W') :
    callN Go.Proofs.Tryz.prog W0 M 21 [.agg ⟨[sp.v]⟩, .agg ⟨[sq.v]⟩] W K :=
  callN_of (fun W' hE => polyMul_ok (M := fun _ => False) (h1.ext hE) (h2.ext hE) b1 b2 hk hp hq hpq) (fun W' v W'' hE hE' hP => by
    obtain ⟨s', rfl, h⟩ := hP
    exact kont s' W'' (hE.trans hE') h)
end Go.Proofs.YtbingbjhgoanoaaGreat

/- cinctureref1: Degree, MonoCmp, MonoMul; put, PolyOf. -/
set_option maxRecDepth 100000
set_option linter.unusedVariables false
set_option linter.unusedSimpArgs false
namespace Go.Proofs.YtbingbjhgoanoaaGreat
open Go Go.SX
theorem refDegree_ok {W0 : PW} {M : Nat → Prop} {m : Mon} (hm : m.ok) :
    PCallsM Go.Proofs.Tryz.prog 74 [.agg ⟨[.int .u8 m.x, .int .u8 m.y, .int .u8 m.z]⟩] W0 M fun v W' => v = .int .i64 m.deg ∧ True := by
  apply callref1_Degree
  unfold Mon.ok at hm
  exact ⟨⟨by omega, by omega⟩, by unfold I64; omega, ⟨by omega, by omega⟩, by unfold I64; omega, by unfold I64; omega, ⟨by omega, by omega⟩, by unfold I64; omega, by unfold I64; omega, fun W1 _ => ⟨rfl, trivial⟩⟩
theorem refDegree_call {W0 W : PW} {M : Nat → Prop} {m : Mon} {K : Value → PW → Prop} (hm : m.ok) (kont : ∀  (W' : PW), Ext W W' → (True) → K (.int .i64 m.deg) W') :
    callN Go.Proofs.Tryz.prog W0 M 74 [.agg ⟨[.int .u8 m.x, .int .u8 m.y, .int .u8 m.z]⟩] W K :=
  callN_of (fun W' hE => refDegree_ok (M := fun _ => False) hm) (fun W' v W'' hE hE' hP => by
    obtain ⟨rfl, h⟩ := hP
    exact kont  W'' (hE.trans hE') h)
theorem refMonoCmp_ok {W0 : PW} {M : Nat → Prop} {a b : Mon} (ha : a.ok) (hb : b.ok) :
    PCallsM Go.Proofs.Tryz.prog 86 [.agg ⟨[.int .u8 a.x, .int .u8 a.y, .int .u8 a.z]⟩, .agg ⟨[.int .u8 b.x, .int .u8 b.y, .int .u8 b.z]⟩] W0 M fun v W' => v = .int .i64 (a.cmp b) ∧ True := by
  apply callref1_MonoCmp
  refine refDegree_call ha fun W2 _ _ => ⟨_, rfl, refDegree_call hb fun W5 hE5 _ => ⟨_, rfl, fun hne => ?_, fun heq => ?_⟩⟩
  · refine refDegree_call ha fun W8 _ _ => ⟨_, rfl, refDegree_call hb fun W11 _ _ => ⟨_, rfl, fun h W13 _ => ⟨?_, trivial⟩, fun h W14 _ => ⟨?_, trivial⟩⟩⟩
    · rw [cmpM_eq]; unfold cmpI; rw [if_pos h]; simp
    · rw [cmpM_eq]; unfold cmpI; rw [if_neg h, if_neg hne]; simp
  · have hdeg : a.deg = b.deg := by omega
    have hcm : a.cmp b = lexM a b := by rw [cmpM_eq]; unfold cmpI; simp [hdeg]
    rw [hcm]
    refine ⟨fun l W => match l with | [.val (.int .i64 i)] => ∃ k : Nat, i = (k : Int) ∧ k ≤ 3 ∧ ∀ j, j < k → eget a j = eget b j | _ => False, fun l _ => match l with | [.val (.int .i64 i)] => 3 - i.toNat | _ => 0, ⟨0, rfl, by omega, fun j hj => by omega⟩, ?_⟩
    rintro i17 W18 ⟨k, rfl, hk, hj⟩
    refine ⟨fun hlt => ?_, fun hge W25 _ => ⟨?_, trivial⟩⟩
    · have hk3 : k < 3 := by omega
      have hr : (0 : Int) ≤ (k : Int) ∧ (k : Int) < 3 := ⟨by omega, by omega⟩
      have ba := boxAt_mon a hk3 _ _ _ rfl rfl rfl
      have bb := boxAt_mon b hk3 _ _ _ rfl rfl rfl
      refine ⟨hr, _, ba, hr, _, bb, fun h W21 _ => ⟨?_, trivial⟩, fun h => ⟨hr, _, ba, hr, _, bb, fun h' W24 _ => ⟨?_, trivial⟩, fun h' => ⟨by unfold I64; omega, ⟨k + 1, by push_cast; rfl, by omega, fun j hjk => ?_⟩, ?_⟩⟩⟩
      · rw [lexM_at hk3 hj (by omega)]; unfold cmpI; rw [if_pos h]
      · rw [lexM_at hk3 hj (by omega)]; unfold cmpI; rw [if_neg h, if_neg (by omega)]
      · by_cases e : j = k
        · subst e; omega
        · exact hj j (by omega)
      · show 3 - Int.toNat ((k : Int) + 1) < 3 - Int.toNat (k : Int)
        omega
    · have : k = 3 := by omega
      subst this
      rw [lexM_eq hj]
theorem refMonoCmp_call {W0 W : PW} {M : Nat → Prop} {a b : Mon} {K : Value → PW → Prop} (ha : a.ok) (hb : b.ok) (kont : ∀  (W' : PW), Ext W W' → (True) → K (.int .i64 (a.cmp b)) W') :
    callN Go.Proofs.Tryz.prog W0 M 86 [.agg ⟨[.int .u8 a.x, .int .u8 a.y, .int .u8 a.z]⟩, .agg ⟨[.int .u8 b.x, .int .u8 b.y, .int .u8 b.z]⟩] W K :=
  callN_of (fun W' hE => refMonoCmp_ok (M := fun _ => False) ha hb) (fun W' v W'' hE hE' hP => by
    obtain ⟨rfl, h⟩ := hP
    exact kont  W'' (hE.trans hE') h)
end Go.Proofs.YtbingbjhgoanoaaGreat

/- cinctureref1: put, PolyOf. -/
set_option maxRecDepth 100000
set_option linter.unusedVariables false
set_option linter.unusedSimpArgs false
namespace Go.Proofs.YtbingbjhgoanoaaGreat
open Go Go.SX
theorem take_snocR {α : Type} {l : List α} {j : Nat} (h : j < l.length) : l.take (j + 1) = l.take j ++ [l[j]] := by
  rw [List.take_add_one, List.getElem?_eq_getElem h]; rfl
theorem sgn_zero {z : Int} : sgnI z = 0 ↔ z = 0 := by
  unfold sgnI
  split
  · constructor <;> intro h <;> omega
  · split
    · simp_all
    · constructor <;> intro h <;> omega
theorem num_zero {q : Rat} : q.num = 0 ↔ q = 0 := Rat.num_eq_zero
end Go.Proofs.YtbingbjhgoanoaaGreat
