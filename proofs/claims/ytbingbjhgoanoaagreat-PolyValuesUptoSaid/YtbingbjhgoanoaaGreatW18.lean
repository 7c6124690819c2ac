/- cincturelaw8.PolyValues. -/
import Derived.Test.YtbingbjhgoanoaaGreatW17
import Derived.Test.YtbingbjhgoanoaaGreatW14
import Derived.Test.YtbingbjhgoanoaaGreatR22
import Derived.Test.YtbingbjhgoanoaaGreatLib2
import Derived.Test.YtbingbjhgoanoaaGreatLib3
import Derived.Test.YtbingbjhgoanoaaGreatRows
import Derived.WalkKit
import Derived.ProofKit
import Derived.OpenShut
import Derived.JoinedCond
import Derived.Carry
import Derived.Deep.Strs
import Derived.Deep.Slices
set_option linter.unusedVariables false
set_option linter.unusedSimpArgs false
set_option maxRecDepth 100000
set_option linter.unusedVariables false
set_option linter.unusedSimpArgs false
namespace Go.Proofs.YtbingbjhgoanoaaGreat
open Go Go.SX
theorem pparseSz4 {L : List (Mon × ByteArray)} {p : List Tm} (h : PParse L p) (hs : ∀ t ∈ L, t.2.size ≤ 30) : ∀ t ∈ p, Sz 4 t.2 := fun t ht => by
  obtain ⟨u, hu, _, hq, _⟩ := all2_mem h.1 ht
  exact parseQ_30 hq (hs u hu)
theorem bd_of4 {p : List Tm} {n : Nat} (h : ∀ t ∈ p, Sz 4 t.2) (hn : p.length ≤ n) : Bd (6 * n + 1) p := (Bd.of_sz h).mono (by omega)
theorem ptAll {a b c : Rat} {k : Nat} (ha : Sz k a) (hb : Sz k b) (hc : Sz k c) : ∀ i, Sz k ((Pt.mk a b c).get i) := fun i => by
  unfold Pt.get
  (repeat' split) <;> assumption
theorem comp_room {n m : Nat} (h : n ≤ 6) (hm : m ≤ n * 3125) : m * (1141 + 3 * (3 * 255 + 1) + 1) + 1 ≤ 400000000 := by
  have := Nat.mul_le_mul_right (1141 + 3 * (3 * 255 + 1) + 1) (Nat.le_trans hm (Nat.mul_le_mul_right 3125 h))
  omega
theorem room2 {n : Nat} (h : n ≤ 6) : n * (4 + 3 * (20000 * 255 + 1) + 1) + 1 ≤ 400000000 := by omega
theorem polyValues_ok {W0 : PW} {M : Nat → Prop} {s t : Sl} {L L2 : List (Mon × ByteArray)} {a b c : ByteArray} (h1 : IsAPoly W0 s L) (h2 : IsAPoly W0 t L2) (l1 : L.length ≤ 1099511627776) (z1 : ∀ t ∈ L, t.2.size ≤ 1099511627776) (l2 : L2.length ≤ 1099511627776) (z2 : ∀ t ∈ L2, t.2.size ≤ 1099511627776) (ha : a.size ≤ 1099511627776) (hb : b.size ≤ 1099511627776) (hc : c.size ≤ 1099511627776) :
    PCallsM Go.Proofs.Tryz.prog 14 [s.v, t.v, .agg ⟨[.string a, .string b, .string c]⟩] W0 M fun v W' => v = .bool true ∧ True := by
  apply calllaw8_PolyValues
  have n1 := h1.n
  have n2 := h2.n
  have alv : ∀ W, callN Go.Proofs.Tryz.prog W0 M 15 [] W fun v11 W12 => ∃ b13 : Bool, v11 = .bool b13 ∧ ∀ (W14 : PW), Ext W12 W14 → Value.bool b13 = .bool true ∧ True := fun W => law8alive_call fun W12 _ _ => ⟨true, rfl, fun W14 _ => ⟨rfl, trivial⟩⟩
  refine law8Of_call h1 l1 z1 fun s3 s4 b5 W2 hE2 g1 => ⟨s3, s4, b5, rfl, law8Of_call (h2.ext hE2) l2 z2 fun s8 s9 b10 W7 hE7 g2 => ⟨s8, s9, b10, rfl, law8Point_call ha hb hc fun s13 b14 s15 s16 b17 s18 s19 b20 s21 b22 s23 s24 b25 s26 s27 b28 s29 s30 b31 W12 hE12 g3 => ⟨s13, b14, s15, s16, b17, s18, s19, b20, s21, b22, s23, s24, b25, s26, s27, b28, s29, s30, b31, rfl, fun _ => alv _, fun hb5 => ⟨fun _ => alv _, fun hb10 => ⟨fun _ => alv _, fun hb31 => ⟨fun _ => alv _, fun h6 => ⟨fun _ => alv _, fun h5 => ?_⟩⟩⟩⟩⟩⟩⟩
  obtain ⟨p, op, p1, _⟩ := g1 (by simpa using hb5)
  obtain ⟨q, oq, q1, _⟩ := g2 (by simpa using hb10)
  obtain ⟨u, hu, ⟨c0, c1, c2⟩, _⟩ := g3 (by simpa using hb31)
  have c0 : IsRat 183 W12 s13 b14 s15 u.x := c0
  have c1 : IsRat 183 W12 s16 b17 s18 u.y := c1
  have c2 : IsRat 183 W12 s19 b20 s21 u.z := c2
  have lp : p.length ≤ 6 := by have := op.1.len; omega
  have lq : q.length ≤ 5 := by have := oq.1.len; omega
  have szp := pparseSz4 op.1 fun t ht => (op.2.2 t ht).1
  have szq := pparseSz4 oq.1 fun t ht => (oq.2.2 t ht).1
  have bp : Bd 37 p := bd_of4 szp lp
  have bq : Bd 31 q := bd_of4 szq lq
  have ep := op.exp p1.ok
  have eq := oq.exp q1.ok
  refine polyDegree_call (p1.ext (hE7.trans hE12)) (by omega) fun W53 hE53 _ => ⟨_, rfl, fun _ => alv _, fun hd => law8alive_call fun W60 hE60 _ => ⟨true, rfl, fun e => (by cases e), fun _ => ?_⟩⟩
  rw [lastDeg_max op.1.good p1.ok] at hd
  have hdeg : ∀ t ∈ p, t.1.deg ≤ 5 := fun t ht => Int.le_trans ((le_maxf (w := Mon.deg) (n := -1)).2 t ht) (by omega)
  have nx : ∀ {W W' : PW}, (IsPoly 183 45 W s3 p ∧ IsPoly 183 45 W s8 q ∧ IsRat 183 W s13 b14 s15 u.x ∧ IsRat 183 W s16 b17 s18 u.y ∧ IsRat 183 W s19 b20 s21 u.z) → Ext W W' → IsPoly 183 45 W' s3 p ∧ IsPoly 183 45 W' s8 q ∧ IsRat 183 W' s13 b14 s15 u.x ∧ IsRat 183 W' s16 b17 s18 u.y ∧ IsRat 183 W' s19 b20 s21 u.z := fun h hE => ⟨h.1.ext hE, h.2.1.ext hE, h.2.2.1.ext hE, h.2.2.2.1.ext hE, h.2.2.2.2.ext hE⟩
  have H := nx (nx ⟨p1.ext (hE7.trans hE12), q1.ext hE12, c0, c1, c2⟩ hE53) hE60
  have okM : MulOK p q := mulOK_of ep eq (by omega)
  refine polyMul_call (k := 37) H.1 H.2.1 bp (bq.mono (by omega)) (by omega) (by omega) (by omega) (by have := Nat.mul_le_mul lp lq; omega) fun s68 W67 hE67 h67 => ⟨s68, _, rfl, ?_⟩
  have H := nx H hE67
  rw [mulP_of okM] at h67
  refine polyVar_call fun s72 W71 hE71 h71 => ⟨s72, rfl, polyVar_call fun s75 W74 hE74 h74 => ⟨s75, rfl, ?_⟩⟩
  have H := nx H (hE71.trans hE74)
  have hf : FacOK 31 (selQ q (varP 0) (varP 2)) p := by
    refine ⟨fun i hi => ?_, fun t ht => (szp t ht).mono (by omega), hdeg, p1.ok, by omega, by omega⟩
    rcases (by omega : i = 0 ∨ i = 1 ∨ i = 2) with rfl | rfl | rfl
    · exact ⟨bq, by show q.length ≤ 10; omega⟩
    · exact ⟨(bd_one (Sz.one (show 1 ≤ 1 by omega))).mono (show 1 + 3 ≤ 31 by omega), show 1 ≤ 10 by omega⟩
    · exact ⟨(bd_one (Sz.one (show 1 ≤ 1 by omega))).mono (show 1 + 3 ≤ 31 by omega), show 1 ≤ 10 by omega⟩
  have hex : ∀ i, i < 3 → PExp 4 (selQ q (varP 0) (varP 2) i) := fun i hi => by
    rcases (by omega : i = 0 ∨ i = 1 ∨ i = 2) with rfl | rfl | rfl
    · exact eq
    · intro t ht
      have : t = (⟨1, 0, 0⟩, 1) := by simpa [selQ, varP, unitM] using ht
      subst this
      exact ⟨(by decide : (⟨1, 0, 0⟩ : Mon).ok), by decide, by decide, by decide⟩
    · intro t ht
      have : t = (⟨0, 0, 1⟩, 1) := by simpa [selQ, varP, unitM] using ht
      subst this
      exact ⟨(by decide : (⟨0, 0, 1⟩ : Mon).ok), by decide, by decide, by decide⟩
  have hln : ∀ i, i < 3 → (selQ q (varP 0) (varP 2) i).length ≤ 5 := fun i hi => by
    rcases (by omega : i = 0 ∨ i = 1 ∨ i = 2) with rfl | rfl | rfl
    · exact lq
    · exact show 1 ≤ 5 by omega
    · exact show 1 ≤ 5 by omega
  obtain ⟨d, hcd⟩ := comp_some hex p1.ok hdeg
  have hbd := (hf.sum hcd).1
  have hld := comp_len hln p1.ok hdeg hcd
  have hat := at_comp u (fun i hi t ht => (hex i hi t ht).1) hcd
  refine polyCompose_call H.1 H.2.1 (h71.ext hE74) h74 hf fun s78 W77 hE77 h77 => ⟨s78, _, rfl, ?_⟩
  have H := nx H hE77
  rw [hcd] at h77 ⊢
  have h77 : IsPoly 183 45 W77 s78 (pnorm d) := h77
  have hlp := Nat.mul_le_mul_right (4 + 3 * (3 * 255 + 1) + 1) lp
  have hlq := Nat.mul_le_mul_right (4 + 3 * (3 * 255 + 1) + 1) lq
  refine polyAt_call H.1 H.2.2.1 H.2.2.2.1 H.2.2.2.2 szp hu (by omega) (by omega) (by omega) fun s82 b83 s84 W81 hE81 rv => ⟨s82, b83, s84, rfl, ?_⟩
  have H := nx H hE81
  refine polyAt_call H.2.1 H.2.2.1 H.2.2.2.1 H.2.2.2.2 szq hu (by omega) (by omega) (by omega) fun s87 b88 s89 W86 hE86 rw' => ⟨s87, b88, s89, rfl, ?_⟩
  have H := nx H hE86
  have rv := rv.ext hE86
  have sv : Sz 20000 (atQ u p) := (atQ_sz szp hu fun t ht i => eget_le (p1.ok t ht) i).mono (by omega)
  have sw : Sz 20000 (atQ u q) := (atQ_sz szq hu fun t ht i => eget_le (q1.ok t ht) i).mono (by omega)
  have zero : ∀ {x y : Rat}, x = y → cmpQ x y = 0 := fun e => (cmpQ_zero _ _).2 e
  refine ⟨fun _ => ⟨fun _ => ?_, fun e => (by cases e)⟩, fun e => ?_⟩
  · have lS : (pnorm (p ++ q)).length ≤ 11 := by have := pnorm_len (p ++ q); rw [List.length_append] at this; omega
    have bS : Bd 69 (pnorm (p ++ q)) := (bp.append bq).norm
    refine polyAdd_call (k := 37) H.1 H.2.1 bp (bq.mono (by omega)) (by omega) (by omega) (by omega) fun s92 W91 hE91 h91 => ⟨s92, rfl, ?_⟩
    have H := nx H hE91
    have hlS := Nat.mul_le_mul_right (69 + 3 * (3 * 255 + 1) + 1) lS
    refine polyAt_call h91 H.2.2.1 H.2.2.2.1 H.2.2.2.2 bS.sz hu (by omega) (by omega) (by omega) fun s95 b96 s97 W94 hE94 h94 => ⟨s95, b96, s97, rfl, ?_⟩
    have H := nx H hE94
    have sS : Sz 30000 (atQ u (pnorm (p ++ q))) := (atQ_sz bS.sz hu fun t ht i => eget_le (h91.ok t ht) i).mono (by omega)
    refine ratAdd_call (rv.ext (hE91.trans hE94)) (rw'.ext (hE91.trans hE94)) sv sw (by omega) (by omega) fun s100 b101 s102 W99 hE99 h99 => ⟨s100, b101, s102, rfl, ?_⟩
    have H := nx H hE99
    refine ratCmp_call (h94.ext hE99) h99 sS (sv.add sw) (by omega) (by omega) fun W104 hE104 _ => ⟨_, rfl, fun _ => ?_, fun e => absurd (zero (at_add u p q)) e⟩
    have H := nx H hE104
    have hEa := hE91.trans (hE94.trans (hE99.trans hE104))
    have lM : (pnorm (ppairs p q)).length ≤ 30 := by have := pnorm_len (ppairs p q); rw [ppairs_len] at this; have := Nat.mul_le_mul lp lq; omega
    have bM : Bd 68 (pnorm (ppairs p q)) := (bp.pairs bq).norm
    have hlM := Nat.mul_le_mul_right (68 + 3 * (3 * 255 + 1) + 1) lM
    have h67 := h67.ext (hE71.trans (hE74.trans (hE77.trans (hE81.trans (hE86.trans hEa)))))
    refine polyAt_call h67 H.2.2.1 H.2.2.2.1 H.2.2.2.2 bM.sz hu (by omega) (by omega) (by omega) fun s108 b109 s110 W107 hE107 h107 => ⟨s108, b109, s110, rfl, ?_⟩
    have H := nx H hE107
    have sM : Sz 90000 (atQ u (pnorm (ppairs p q))) := (atQ_sz bM.sz hu fun t ht i => eget_le (h67.ok t ht) i).mono (by omega)
    refine ratMul_call (rv.ext (hEa.trans hE107)) (rw'.ext (hEa.trans hE107)) sv sw (by omega) (by omega) fun s113 b114 s115 W112 hE112 h112 => ⟨s113, b114, s115, rfl, ?_⟩
    have H := nx H hE112
    refine ratCmp_call (h107.ext hE112) h112 sM (sv.mul sw) (by omega) (by omega) fun W117 hE117 _ => ⟨_, rfl, fun _ => ?_, fun e => absurd (zero (at_mul u p1.ok q1.ok)) e⟩
    have H := nx H hE117
    have hEb := hEa.trans (hE107.trans (hE112.trans hE117))
    refine ⟨⟨by omega, by omega⟩, ⟨by omega, by omega⟩, ?_⟩
    have bC : Bd 1141 (pnorm d) := (hbd.mono (by have := Nat.mul_le_mul_right (6 * 31 + 4) lp; omega)).norm
    have lC := Nat.le_trans (pnorm_len d) hld
    have hlC := comp_room lp lC
    have h77 := h77.ext (hE81.trans (hE86.trans hEb))
    refine polyAt_call h77 H.2.2.1 H.2.2.2.1 H.2.2.2.2 bC.sz hu (by omega) hlC (by omega) fun s121 b122 s123 W120 hE120 h120 => ⟨s121, b122, s123, rfl, ?_⟩
    have H := nx H hE120
    have sC : Sz 400000000 (atQ u (pnorm d)) := (atQ_sz bC.sz hu fun t ht i => eget_le (h77.ok t ht) i).mono hlC
    have hu2 : ∀ i, Sz 20000 ((Pt.mk (atQ u q) u.x u.z).get i) := ptAll sw ((hu 0).mono (by omega)) ((hu 2).mono (by omega))
    have sP : Sz 400000000 (atQ ⟨atQ u q, u.x, u.z⟩ p) := (atQ_sz szp hu2 fun t ht i => eget_le (p1.ok t ht) i).mono (room2 lp)
    refine polyAt_call (u := ⟨atQ u q, u.x, u.z⟩) H.1 (rw'.ext (hEb.trans hE120)) H.2.2.1 H.2.2.2.2 szp hu2 (by decide) (room2 lp) (by decide) fun s126 b127 s128 W125 hE125 h125 => ⟨s126, b127, s128, rfl, ?_⟩
    refine ratCmp_call (h120.ext hE125) h125 sC sP (by omega) (by omega) fun W130 hE130 _ => ⟨_, rfl, fun W132 _ => ⟨?_, trivial⟩⟩
    have e : atQ u (pnorm d) = atQ ⟨atQ u q, u.x, u.z⟩ p := by
      have h3 : atQ u (pnorm d) = atQ u d := by rw [atQ_lin, atQ_lin, lin_pnorm]
      have e0 : selQ q (varP 0) (varP 2) 0 = q := rfl
      have e1 : selQ q (varP 0) (varP 2) 1 = varP 0 := rfl
      have e2 : selQ q (varP 0) (varP 2) 2 = varP 2 := rfl
      rw [h3, hat, e0, e1, e2, at_var0, at_var2]
    rw [decide_eq_true (zero e)]
  · rw [decide_eq_true okM] at e; cases e
end Go.Proofs.YtbingbjhgoanoaaGreat

/- Arguments opened: what every kind of argument needs. -/
set_option maxRecDepth 100000
set_option linter.unusedVariables false
set_option linter.unusedSimpArgs false
namespace Go.Proofs.YtbingbjhgoanoaaGreat
open Go Go.SX Go.ChangeShapes Go.WideShapes Go.ChangeAt Go.RowKit Go.Deep
theorem ownKnob_none : ownKnob Go.Proofs.Tryz.prog.godebug = none := by kernel_rfl
theorem laidOut : laidOutB Go.Proofs.Tryz.prog = true := by kernel_rfl
theorem cells_str : Go.Proofs.Tryz.prog.cellsOf 9 = 1 := by kernel_rfl
theorem cell_block {W : World} {b o : Nat} {v : Value} (h : W.cell? ⟨b, o, none⟩ = some v) : ∃ cs t fz, W.heap[b]? = some (.cells cs t fz) ∧ cs[o]? = some v := by
  unfold World.cell? at h
  cases e : W.heap[b]? with
  | none => simp [e] at h
  | some ob =>
    cases ob with
    | cells cs t fz => exact ⟨cs, t, fz, rfl, by simpa [e] using h⟩
    | _ => simp [e] at h
theorem bulk_one {H : Type} (d : DataW H) : 1 ≤ Rows.uptoBulk d := by
  cases d with
  | lit l => cases l <;> simp [Rows.uptoBulk]
  | nil => simp [Rows.uptoBulk]
  | ptr d => simp [Rows.uptoBulk]
  | slice elems spare => simp [Rows.uptoBulk]
  | agg parts => simp [Rows.uptoBulk]
  | iface t d => simp [Rows.uptoBulk]
  | map entries => simp [Rows.uptoBulk]
  | held h => simp [Rows.uptoBulk]
theorem bulk_part {H : Type} {d : DataW H} {l : List (DataW H)} (h : d ∈ l) : Rows.uptoBulk d ≤ Rows.uptoBulkAll l := by
  induction l with
  | nil => cases h
  | cons x r ih =>
    simp only [Rows.uptoBulkAll]
    cases List.mem_cons.1 h with
    | inl e => subst e; omega
    | inr e => have := ih e; omega
theorem bulk_length {H : Type} (l : List (DataW H)) : l.length ≤ Rows.uptoBulkAll l := by
  induction l with
  | nil => simp [Rows.uptoBulkAll]
  | cons x r ih => have := bulk_one x; simp only [Rows.uptoBulkAll, List.length_cons]; omega
theorem rowA_of_cellsN {W : World} {a : Addr} {n c sz : Nat} {V : Nat → List Value} (h : ∀ j, j < n → ∀ i v, (V j)[i]? = some v → W.cell? (a.add (j * sz + i)) = some v) (hV : ∀ j, j < n → (V j).length = sz) (hsz : 0 < sz) (hn : n ≤ c) (hc : c ≤ maxLen) (h1 : ∀ j, j < n → ∀ u ∈ V j, u.oneCell' = true) :
    RowA ⟨W, fun _ => False⟩ sz ⟨some a, n, c⟩ ((List.range n).map V) := by
  have hel : ∀ x ∈ (List.range n).map V, x.length = sz ∧ ∀ u ∈ x, u.oneCell' = true := by
    intro x hx
    obtain ⟨j, hj, rfl⟩ := List.mem_map.1 hx
    exact ⟨hV j (List.mem_range.1 hj), h1 j (List.mem_range.1 hj)⟩
  by_cases h0 : n = 0
  · subst h0
    exact ⟨0, rfl, Nat.zero_le _, hc, hel, .inl rfl⟩
  · obtain ⟨b, off, sp⟩ := a
    have hlen0 := hV 0 (by omega)
    obtain ⟨v0, hv0⟩ : ∃ v, (V 0)[0]? = some v := ⟨_, List.getElem?_eq_getElem (by omega)⟩
    have hc0 := h 0 (by omega) 0 v0 hv0
    have hsp : sp = none := by simpa [Addr.add] using World.cell?_spot hc0
    subst hsp
    obtain ⟨cs, t, fz, hh, _⟩ := cell_block (by rw [← add_plain]; exact hc0)
    refine ⟨t, by simp, hn, hc, hel, .inr ⟨b, off, cs, fz, rfl, id, hh, fun j v hj => ?_⟩⟩
    have hjl := (List.getElem?_eq_some_iff.1 hj).1
    rw [flatten_length (sz := sz) (fun x hx => (hel x hx).1)] at hjl
    simp only [List.length_map, List.length_range] at hjl
    have hi : j / sz < n := (Nat.div_lt_iff_lt_mul hsz).2 hjl
    have hm : j % sz < sz := Nat.mod_lt _ hsz
    have e : j / sz * sz + j % sz = j := by rw [Nat.mul_comm]; exact Nat.div_add_mod j sz
    have hx : ((List.range n).map V)[j / sz]? = some (V (j / sz)) := by simp [hi]
    have hl := hV _ hi
    have hf := flatten_at (sz := sz) (fun x hx => (hel x hx).1) hx (j := j % sz) (v := (V (j / sz))[j % sz]'(by omega)) (List.getElem?_eq_getElem (by omega))
    rw [e, hj] at hf
    have hcell := h _ hi (j % sz) v (by rw [hf]; exact List.getElem?_eq_getElem (by omega))
    rw [e, add_plain] at hcell
    obtain ⟨cs', t', fz', hh', hv⟩ := cell_block hcell
    rw [hh] at hh'
    cases hh'
    exact hv
end Go.Proofs.YtbingbjhgoanoaaGreat

/- An argument that is a slice of terms with texts, opened. -/
set_option maxRecDepth 100000
set_option linter.unusedVariables false
set_option linter.unusedSimpArgs false
namespace Go.Proofs.YtbingbjhgoanoaaGreat
open Go Go.SX Go.ChangeShapes Go.WideShapes Go.ChangeAt Go.RowKit Go.Deep
instance : Inhabited (Mon × ByteArray) := ⟨(⟨0, 0, 0⟩, ⟨#[]⟩)⟩
theorem cells_term : Go.Proofs.Tryz.prog.cellsOf 43 = 4 := by kernel_rfl
theorem cells_mono : Go.Proofs.Tryz.prog.cellsOf 41 = 3 := by kernel_rfl
theorem cells_u8 : Go.Proofs.Tryz.prog.cellsOf 5 = 1 := by kernel_rfl
theorem u8_ok {n : Int} (h : (Lit.int .u8 n).wf = true) : 0 ≤ n ∧ n ≤ 255 := by
  simp [Lit.wf, IntKind.min, IntKind.max, IntKind.bits, IntKind.signed] at h
  omega
theorem open_term {H : Type} {enc : TypeId × Value → H} {W : World} {fuel : Nat} {cs : List Value} {x : DataW H × List MemPlace} (h : DataW.trod enc Go.Proofs.Tryz.prog W 0 (fun _ => true) true fuel 43 cs = some x) :
    ∃ t : Mon × ByteArray, AT cs t ∧ t.2.size ≤ Rows.uptoBulk x.1 := by
  obtain ⟨xs, k, rfl, rfl, hl, hxl, hf⟩ := DataW.trod_struct Go.Proofs.Tryz.underlying43 h
  rw [cells_term] at hl
  have g0 : DataW.trod enc Go.Proofs.Tryz.prog W 0 (fun _ => true) true k 41 ((cs.drop 0).take (Go.Proofs.Tryz.prog.cellsOf 41)) = xs[0]? := hf 0 _ rfl
  have g1 : DataW.trod enc Go.Proofs.Tryz.prog W 0 (fun _ => true) true k 9 ((cs.drop 3).take (Go.Proofs.Tryz.prog.cellsOf 9)) = xs[1]? := hf 1 _ rfl
  rw [cells_mono] at g0
  rw [cells_str] at g1
  match cs, hl, xs, hxl with
  | [v0, v1, v2, v3], _, [y0, y1], _ =>
    have g0 : DataW.trod enc Go.Proofs.Tryz.prog W 0 (fun _ => true) true k 41 [v0, v1, v2] = some y0 := g0
    have g1 : DataW.trod enc Go.Proofs.Tryz.prog W 0 (fun _ => true) true k 9 [v3] = some y1 := g1
    obtain ⟨zs, m, rfl, rfl, _, hzl, hz⟩ := DataW.trod_array Go.Proofs.Tryz.underlying41 g0
    obtain ⟨s, hs, rfl, hsz⟩ := DataW.trod_string Go.Proofs.Tryz.underlying9 g1
    have e0 := hz 0 (by omega)
    have e1 := hz 1 (by omega)
    have e2 := hz 2 (by omega)
    rw [cells_u8] at e0 e1 e2
    match zs, hzl with
    | [w0, w1, w2], _ =>
      have e0 : DataW.trod enc Go.Proofs.Tryz.prog W 0 (fun _ => true) true m 5 [v0] = some w0 := e0
      have e1 : DataW.trod enc Go.Proofs.Tryz.prog W 0 (fun _ => true) true m 5 [v1] = some w1 := e1
      have e2 : DataW.trod enc Go.Proofs.Tryz.prog W 0 (fun _ => true) true m 5 [v2] = some w2 := e2
      obtain ⟨n0, h0, _, k0⟩ := DataW.trod_int Go.Proofs.Tryz.underlying5 e0
      obtain ⟨n1, h1, _, k1⟩ := DataW.trod_int Go.Proofs.Tryz.underlying5 e1
      obtain ⟨n2, h2, _, k2⟩ := DataW.trod_int Go.Proofs.Tryz.underlying5 e2
      have hs : [v3] = [Value.string s] := hs
      have h0 : [v0] = [Value.int .u8 n0] := h0
      have h1 : [v1] = [Value.int .u8 n1] := h1
      have h2 : [v2] = [Value.int .u8 n2] := h2
      simp only [List.cons.injEq, and_true] at hs h0 h1 h2
      subst hs h0 h1 h2
      refine ⟨(⟨n0, n1, n2⟩, s), ⟨⟨u8_ok k0, u8_ok k1, u8_ok k2⟩, rfl⟩, ?_⟩
      have e : s.data.toList.length = s.size := by rw [Array.length_toList]; rfl
      simp only [List.map_cons, List.map_nil, Rows.uptoBulk, Rows.uptoBulkAll]
      omega
theorem all2_map {n : Nat} {V : Nat → List Value} {y : Nat → Mon × ByteArray} (h : ∀ i, i < n → AT (V i) (y i)) : All2 AT ((List.range n).map V) ((List.range n).map y) := by
  induction n with
  | zero => trivial
  | succ n ih =>
    rw [List.range_succ, List.map_append, List.map_append]
    exact (ih fun i hi => h i (by omega)).append ⟨h n (by omega), trivial⟩
theorem open_terms {H : Type} {enc : TypeId × Value → H} {W : World} {fuel : Nat} {v : Value} {d : DataW H} {p : List MemPlace} (h : DataW.trod enc Go.Proofs.Tryz.prog W 0 (fun _ => true) true fuel 22 [v] = some (d, p)) :
    ∃ (s : Sl) (L : List (Mon × ByteArray)), v = s.v ∧ IsAPoly ⟨W, fun _ => False⟩ s L ∧ L.length ≤ Rows.uptoBulk d ∧ ∀ t ∈ L, t.2.size ≤ Rows.uptoBulk d := by
  rcases open_slice Go.Proofs.Tryz.underlying22 h with ⟨hcs, hx⟩ | ⟨a, len, cap, m, n, D, Pl, hcs, _, hl, hm, hmm, hx, hcell⟩
  · have hv : v = .slice none 0 0 := by simpa using hcs
    subst hv
    exact ⟨⟨none, 0, 0⟩, [], rfl, ⟨[], ⟨0, rfl, Nat.le_refl _, Nat.zero_le _, fun x h => by simp at h, .inl rfl⟩, trivial⟩, Nat.zero_le _, fun l h => by simp at h⟩
  · have hv : v = .slice (some a) len cap := by simpa using hcs
    subst hv
    simp only [if_true] at hmm
    subst hmm
    simp only [Prod.mk.injEq] at hx
    obtain ⟨rfl, _⟩ := hx
    rw [cells_term] at hcell
    obtain ⟨q, hq⟩ : ∃ q : Nat → List Value × (Mon × ByteArray), ∀ i, i < m → W.cells? 0 (a.add (i * 4)) 4 = some (q i).1 ∧ AT (q i).1 (q i).2 ∧ (q i).2.2.size ≤ Rows.uptoBulk (D i) := choose_lt (α := List Value × (Mon × ByteArray)) (p := fun i q => W.cells? 0 (a.add (i * 4)) 4 = some q.1 ∧ AT q.1 q.2 ∧ q.2.2.size ≤ Rows.uptoBulk (D i)) fun i hi => by
      obtain ⟨cs', h1, h2⟩ := hcell i hi
      obtain ⟨t, h3, h4⟩ := open_term h2
      exact ⟨(cs', t), h1, h3, h4⟩
    have hr := rowA_of_cellsN (W := W) (a := a) (n := len) (c := m) (sz := 4) (V := fun i => (q i).1) (fun j hj i v hv => by
      obtain ⟨_, hlen, hc⟩ := World.cells?_some (hq j (by omega)).1
      have hi : i < 4 := by have := (List.getElem?_eq_some_iff.1 hv).1; omega
      have := hc i hi
      rw [add_add] at this
      rw [this]; exact hv) (fun j hj => (World.cells?_some (hq j (by omega)).1).2.1) (by omega) hl hm (fun j hj u hu => by
      rw [(hq j (by omega)).2.1.2] at hu
      simp only [List.mem_cons, List.not_mem_nil, or_false] at hu
      rcases hu with rfl | rfl | rfl | rfl <;> rfl)
    have hbulk : ∀ i, i < len → Rows.uptoBulk (D i) ≤ Rows.uptoBulkAll ((List.range len).map D) := fun i hi => bulk_part (List.mem_map.2 ⟨i, List.mem_range.2 hi, rfl⟩)
    have hlen := bulk_length ((List.range len).map D)
    simp only [List.length_map, List.length_range] at hlen
    refine ⟨⟨some a, len, m⟩, (List.range len).map fun i => (q i).2, rfl, ⟨_, hr, all2_map fun i hi => (hq i (by omega)).2.1⟩, ?_, fun t ht => ?_⟩
    · simp only [List.length_map, List.length_range, Rows.uptoBulk]
      omega
    · obtain ⟨j, hj, rfl⟩ := List.mem_map.1 ht
      have hj' := List.mem_range.1 hj
      have h1 := hbulk j hj'
      have h2 := (hq j (by omega)).2.2
      simp only [Rows.uptoBulk]
      omega
end Go.Proofs.YtbingbjhgoanoaaGreat

/- An argument of three strings, opened. -/
set_option maxRecDepth 100000
set_option linter.unusedVariables false
set_option linter.unusedSimpArgs false
namespace Go.Proofs.YtbingbjhgoanoaaGreat
open Go Go.SX Go.ChangeShapes Go.WideShapes Go.ChangeAt Go.RowKit Go.Deep
theorem three_of {r : Reach} {w : World} {base : Nat} {v : Value} (h : Value.okWide Go.Proofs.Tryz.prog w r base 89 v) : ∃ xs : Array Value, v = .agg xs ∧ xs.size = 3 := by
  simp only [Value.okWide, Go.Proofs.Tryz.underlying89] at h
  obtain ⟨cs, h1, h2, _⟩ := h
  exact ⟨cs, h1, by rw [h2]; kernel_rfl⟩
theorem open_three {H : Type} {enc : TypeId × Value → H} {W : World} {fuel : Nat} {l : List Value} {d : DataW H} {p : List MemPlace} (h : DataW.trod enc Go.Proofs.Tryz.prog W 0 (fun _ => true) true fuel 89 l = some (d, p)) (hl : l.length = 3) :
    ∃ a b c : ByteArray, l = [.string a, .string b, .string c] ∧ a.size ≤ Rows.uptoBulk d ∧ b.size ≤ Rows.uptoBulk d ∧ c.size ≤ Rows.uptoBulk d := by
  obtain ⟨zs, m, rfl, hx, _, hzl, hz⟩ := DataW.trod_array Go.Proofs.Tryz.underlying89 h
  have e0 := hz 0 (by omega)
  have e1 := hz 1 (by omega)
  have e2 := hz 2 (by omega)
  rw [cells_str] at e0 e1 e2
  match l, hl, zs, hzl with
  | [v0, v1, v2], _, [w0, w1, w2], _ =>
    have e0 : DataW.trod enc Go.Proofs.Tryz.prog W 0 (fun _ => true) true m 9 [v0] = some w0 := e0
    have e1 : DataW.trod enc Go.Proofs.Tryz.prog W 0 (fun _ => true) true m 9 [v1] = some w1 := e1
    have e2 : DataW.trod enc Go.Proofs.Tryz.prog W 0 (fun _ => true) true m 9 [v2] = some w2 := e2
    obtain ⟨s0, h0, rfl, _⟩ := DataW.trod_string Go.Proofs.Tryz.underlying9 e0
    obtain ⟨s1, h1, rfl, _⟩ := DataW.trod_string Go.Proofs.Tryz.underlying9 e1
    obtain ⟨s2, h2, rfl, _⟩ := DataW.trod_string Go.Proofs.Tryz.underlying9 e2
    have k0 : v0 = Value.string s0 := (List.cons.inj (show [v0] = [Value.string s0] from h0)).1
    have k1 : v1 = Value.string s1 := (List.cons.inj (show [v1] = [Value.string s1] from h1)).1
    have k2 : v2 = Value.string s2 := (List.cons.inj (show [v2] = [Value.string s2] from h2)).1
    subst k0 k1 k2
    simp only [Prod.mk.injEq] at hx
    obtain ⟨rfl, _⟩ := hx
    have k0 : s0.data.toList.length = s0.size := by rw [Array.length_toList]; rfl
    have k1 : s1.data.toList.length = s1.size := by rw [Array.length_toList]; rfl
    have k2 : s2.data.toList.length = s2.size := by rw [Array.length_toList]; rfl
    refine ⟨s0, s1, s2, rfl, ?_⟩
    simp only [List.map_cons, List.map_nil, Rows.uptoBulk, Rows.uptoBulkAll]
    omega
end Go.Proofs.YtbingbjhgoanoaaGreat

/- cincturelaw8.PolyValues answers true for every input whose bulk is at most 1048576 (the second form), and its arguments read behind the call as they did ahead of it. -/
set_option maxRecDepth 100000
set_option linter.unusedVariables false
set_option linter.unusedSimpArgs false
namespace Go.Proofs.YtbingbjhgoanoaaGreat
open Go Go.SX Go.ChangeShapes Go.WideShapes Go.ChangeAt Go.RowKit Go.Deep
theorem contract (H : Type) (enc : TypeId × Value → H) (W : World) (base : Nat) (args : Array Value) (ds gs : List (DataW H)) (before : List MemPlace)
    (hval : ∀ (j : Nat) t v, Go.Proofs.Tryz.f14.params[j]? = some t → args[j]? = some v → Value.okWide Go.Proofs.Tryz.prog W .any base t v)
    (hW : DataW.Whole enc Go.Proofs.Tryz.prog Go.Proofs.Tryz.f14.params.toList Rows.polyValuesSpec.vars false W args.toList ds gs before) (hk : Rows.uptoSmall H (ds ++ gs) = true) :
    Calls Go.Proofs.Tryz.prog 14 args W fun e W' => ∃ v, e = .returned v ∧ Rows.polyValuesSpec.post enc Go.Proofs.Tryz.prog Go.Proofs.Tryz.f14 false true false false W args v W' := by
  have hW' := hW
  obtain ⟨p, q, hA0, hV, rfl, hfz, hnd⟩ := hW
  have hA : DataW.TrodAll enc Go.Proofs.Tryz.prog W 0 (fun _ => true) true Go.Proofs.Tryz.f14.params.toList args.toList ds p := hA0
  rw [Go.Proofs.Tryz.params14] at hA hval
  obtain ⟨v0, vs0, d0, ds0, p0, q0, hargs, rfl, rfl, h0, r0⟩ := trodAll_cons hA
  obtain ⟨v1, vs1, d1, ds1, p1, q1, rfl, rfl, rfl, h1, r1⟩ := trodAll_cons r0
  obtain ⟨v2, vs2, d2, ds2, p2, q2, rfl, rfl, rfl, h2, r2⟩ := trodAll_cons r1
  obtain ⟨rfl, rfl, rfl⟩ := trodAll_nil r2
  obtain rfl : args = #[v0, v1, v2] := by cases args; simp_all
  obtain ⟨rfl, rfl⟩ := trodVars_none hV
  obtain ⟨a0, n0, c0, rfl⟩ := okWide_slice Go.Proofs.Tryz.underlying22 (hval 0 22 v0 rfl rfl)
  obtain ⟨a1, n1, c1, rfl⟩ := okWide_slice Go.Proofs.Tryz.underlying22 (hval 1 22 v1 rfl rfl)
  obtain ⟨⟨l2⟩, rfl, hx2⟩ := three_of (hval 2 89 v2 rfl rfl)
  clear hA0
  simp only [List.append_nil] at hW' hk
  have hlt : ∀ x ∈ p0 ++ (p1 ++ p2), x.block < W.heap.size := fun x hx => by simpa using hW'.lt x (by simpa using hx)
  have hbulk : Rows.uptoBulkAll [d0, d1, d2] ≤ 1048576 := of_decide_eq_true hk
  simp only [Rows.uptoBulkAll] at hbulk
  have h0k := h0
  obtain ⟨fuel0, hf0⟩ := h0
  have hf0' : DataW.trod enc Go.Proofs.Tryz.prog W 0 (fun _ => true) true fuel0 22 [.slice a0 n0 c0] = some (d0, p0) := by simpa [Value.cells] using hf0
  obtain ⟨s0, L0, hs0, hL0, hb0, hc0⟩ := open_terms hf0'
  have h1k := h1
  obtain ⟨fuel1, hf1⟩ := h1
  have hf1' : DataW.trod enc Go.Proofs.Tryz.prog W 0 (fun _ => true) true fuel1 22 [.slice a1 n1 c1] = some (d1, p1) := by simpa [Value.cells] using hf1
  obtain ⟨s1, L1, hs1, hL1, hb1, hc1⟩ := open_terms hf1'
  have h2k := h2
  obtain ⟨fuel2, hf2⟩ := h2
  have hf2' : DataW.trod enc Go.Proofs.Tryz.prog W 0 (fun _ => true) true fuel2 89 l2 = some (d2, p2) := by simpa [Value.cells] using hf2
  obtain ⟨xa2, xb2, xc2, rfl, hxa2, hxb2, hxc2⟩ := open_three hf2' hx2
  have hc := polyValues_ok (M := fun _ => False) (a := xa2) (b := xb2) (c := xc2) hL0 hL1 (by omega) (fun t ht => by have := hc0 t ht; omega) (by omega) (fun t ht => by have := hc1 t ht; omega) (by omega) (by omega) (by omega)
  have hcall := hc.2 (fun b h => h.elim)
  rw [hs0, hs1]
  refine hcall.mono fun e W' ⟨v, he, hkeep, hv, _⟩ => ⟨v, he, ?_⟩
  subst hv
  have hbel := hkeep.below
  refine ⟨[d0, d1, d2], [], _, [], p0 ++ (p1 ++ p2), [], (by rw [← hs0, ← hs1]; simpa using hW'), trodAll_mk1 (shut_bool Go.Proofs.Tryz.underlying4 _), (by rw [← hs0, ← hs1]; exact trodAll_mk3 (Below.trod laidOut (by kernel_rfl) (of_decide_eq_true (by kernel_rfl)) h0k hbel fun x hx => hlt x (by simp [hx])) (Below.trod laidOut (by kernel_rfl) (of_decide_eq_true (by kernel_rfl)) h1k hbel fun x hx => hlt x (by simp [hx])) (Below.trod laidOut (by kernel_rfl) (of_decide_eq_true (by kernel_rfl)) h2k hbel fun x hx => hlt x (by simp [hx]))), rfl, hbel.frame _, fun h => by cases h⟩
theorem lifted (os : Os) (started : os.Started) (H : Type) (enc : TypeId × Value → H) (F : Stop.Interp) :
    ReturnsInHanded {} Go.Proofs.Tryz.checked os 14 .any ((Rows.OpenSpec.upto Rows.polyValuesSpec).pre6 enc Go.Proofs.Tryz.prog Go.Proofs.Tryz.f14 Rows.polyValuesUptoRow.domain false) (((Rows.OpenSpec.upto Rows.polyValuesSpec).at F).post enc Go.Proofs.Tryz.prog Go.Proofs.Tryz.f14 false true false false) := by
  refine returnsInHanded_of_cond (C := Go.Proofs.Tryz.checked) (s := Rows.OpenSpec.upto Rows.polyValuesSpec) (k := Rows.uptoSmall) rfl ownKnob_none started (by kernel_rfl) Go.Proofs.Tryz.func14
    (OpenSpec.witness (enc := enc) (C := Go.Proofs.Tryz.checked) (s := Rows.OpenSpec.upto Rows.polyValuesSpec) (k := Rows.uptoSmall) rfl false ⟨#[], #[.slice none 0 0, .slice none 0 0, .agg ⟨[.string ⟨#[]⟩, .string ⟨#[]⟩, .string ⟨#[]⟩]⟩], []⟩ 8 (by kernel_rfl) (by kernel_rfl) (by kernel_rfl)
      (x := ([.nil, .nil, .agg [.lit (.string []), .lit (.string []), .lit (.string [])]], [], [])) (by kernel_rfl) rfl (by kernel_rfl)) ?_
  intro W base args ds gs before hval hW _ hk _
  exact contract H enc W base args ds gs before hval hW hk
theorem polyValues_holds : Rows.PolyValuesUptoSaid :=
  OpenClaim.holds_of_cond 14 Go.Proofs.Tryz.f14 rfl rfl rfl rfl rfl rfl rfl ⟨rfl, rfl, rfl, rfl, rfl⟩ rfl rfl rfl rfl rfl (by kernel_rfl) Go.Proofs.Tryz.func14 (by kernel_rfl)
    (of_decide_eq_true (by kernel_rfl)) (by unfold Func.isWrapper; first | (rw [if_pos (by decide +kernel)]; kernel_rfl) | (rw [if_neg (by decide +kernel)]; exact ⟨rfl, rfl⟩))
    (fun os started H enc _ F => lifted os started H enc F)
#print axioms polyValues_holds
end Go.Proofs.YtbingbjhgoanoaaGreat
