/- cincturelaw8.PolyDegrees. -/
import Derived.Test.YtbingbjhgoanoaaGreatW15
import Derived.Test.YtbingbjhgoanoaaGreatW14
import Derived.Test.YtbingbjhgoanoaaGreatLib3
import Derived.Test.YtbingbjhgoanoaaGreatRows
import Derived.WalkKit
import Derived.ProofKit
import Derived.OpenShut
import Derived.JoinedCond
import Derived.Carry
import Derived.Deep.Slices
set_option linter.unusedVariables false
set_option linter.unusedSimpArgs false
set_option maxRecDepth 100000
set_option linter.unusedVariables false
set_option linter.unusedSimpArgs false
namespace Go.Proofs.YtbingbjhgoanoaaGreat
open Go Go.SX
theorem polyDegrees_ok {W0 : PW} {M : Nat → Prop} {s t : Sl} {L L2 : List (Mon × ByteArray)} {i : Int} (h1 : IsAPoly W0 s L) (h2 : IsAPoly W0 t L2) (l1 : L.length ≤ 1099511627776) (z1 : ∀ t ∈ L, t.2.size ≤ 1099511627776) (l2 : L2.length ≤ 1099511627776) (z2 : ∀ t ∈ L2, t.2.size ≤ 1099511627776) :
    PCallsM Go.Proofs.Tryz.prog 11 [s.v, t.v, .int .i64 i] W0 M fun v W' => v = .bool true ∧ True := by
  apply calllaw8_PolyDegrees
  have alv : ∀ W, callN Go.Proofs.Tryz.prog W0 M 15 [] W fun v11 W12 => ∃ b13 : Bool, v11 = .bool b13 ∧ ∀ (W14 : PW), Ext W12 W14 → Value.bool b13 = .bool true ∧ True := fun W => law8alive_call fun W12 _ _ => ⟨true, rfl, fun W14 _ => ⟨rfl, trivial⟩⟩
  refine law8Of_call h1 l1 z1 fun s3 s4 b5 W2 hE2 g1 => ⟨s3, s4, b5, rfl, law8Of_call (h2.ext hE2) l2 z2 fun s8 s9 b10 W7 hE7 g2 => ⟨s8, s9, b10, rfl, fun _ => alv _, fun hb5 => ⟨fun _ => alv _, fun hb10 => law8alive_call fun W20 hE20 _ => ⟨true, rfl, fun e => (by cases e), fun _ => ?_⟩⟩⟩⟩
  obtain ⟨p, op, p1, p2⟩ := g1 (by simpa using hb5)
  obtain ⟨q, oq, q1, q2⟩ := g2 (by simpa using hb10)
  have np := p2.n
  have nq := q2.n
  have p1 := p1.ext (hE7.trans hE20)
  have q1 := q1.ext hE20
  have lp := op.len
  have lq := oq.len
  have ep := op.exp p1.ok
  have eq := oq.exp q1.ok
  have okM : MulOK p q := mulOK_of ep eq (by omega)
  refine polyMul_call p1 q1 op.bd oq.bd (by omega) (by omega) (by omega) (by have := Nat.mul_le_mul lp lq; omega) fun s28 W27 hE27 h28 => ⟨s28, _, rfl, polyAdd_call (p1.ext hE27) (q1.ext hE27) op.bd oq.bd (by omega) (by omega) (by omega) fun s32 W31 hE31 h32 => ⟨s32, rfl, ?_⟩⟩
  rw [mulP_of okM] at h28
  have l32 : (pnorm (p ++ q)).length ≤ 28 := by have := pnorm_len (p ++ q); rw [List.length_append] at this; omega
  have l28 : (pnorm (ppairs p q)).length ≤ 196 := by have := pnorm_len (ppairs p q); rw [ppairs_len] at this; have := Nat.mul_le_mul lp lq; omega
  have H : IsPoly 183 45 W31 s3 p ∧ IsPoly 183 45 W31 s8 q ∧ IsPoly 183 45 W31 s28 (pnorm (ppairs p q)) ∧ IsPoly 183 45 W31 s32 (pnorm (p ++ q)) := ⟨p1.ext (hE27.trans hE31), q1.ext (hE27.trans hE31), h28.ext hE31, h32⟩
  have nx : ∀ {W W' : PW}, (IsPoly 183 45 W s3 p ∧ IsPoly 183 45 W s8 q ∧ IsPoly 183 45 W s28 (pnorm (ppairs p q)) ∧ IsPoly 183 45 W s32 (pnorm (p ++ q))) → Ext W W' → IsPoly 183 45 W' s3 p ∧ IsPoly 183 45 W' s8 q ∧ IsPoly 183 45 W' s28 (pnorm (ppairs p q)) ∧ IsPoly 183 45 W' s32 (pnorm (p ++ q)) := fun h hE => ⟨h.1.ext hE, h.2.1.ext hE, h.2.2.1.ext hE, h.2.2.2.ext hE⟩
  have dp := lastDeg_max op.1.good p1.ok
  have dq := lastDeg_max oq.1.good q1.ok
  have ds := lastDeg_max (pnorm_good (p ++ q)) h32.ok
  have dm := lastDeg_max (pnorm_good (ppairs p q)) h28.ok
  have bp := deg_bd p1.ok
  have bq := deg_bd q1.ok
  have tp := top_bd p1.ok i
  have tq := top_bd q1.ok i
  refine polyDegree_call H.2.2.2 (by omega) fun W34 hE34 _ => ⟨_, rfl, ?_⟩
  have H := nx H hE34
  refine polyDegree_call H.1 (by omega) fun W37 hE37 _ => ⟨_, rfl, ?_⟩
  have H := nx H hE37
  refine polyDegree_call H.2.1 (by omega) fun W40 hE40 _ => ⟨_, rfl, fun e => ?_, fun _ => ?_⟩
  · have := maxf_add (w := Mon.deg) (n := -1) (p := p) (q := q)
    rw [dp, dq, ds] at e
    omega
  have H := nx H hE40
  refine polyTop_call H.2.2.2 (by omega) fun W44 hE44 _ => ⟨_, rfl, ?_⟩
  have H := nx H hE44
  refine polyTop_call H.1 (by omega) fun W47 hE47 _ => ⟨_, rfl, ?_⟩
  have H := nx H hE47
  refine polyTop_call H.2.1 (by omega) fun W50 hE50 _ => ⟨_, rfl, fun e => ?_, fun _ => ?_⟩
  · have := maxf_add (w := topw i) (n := 0) (p := p) (q := q)
    omega
  have H := nx H hE50
  refine polyVars_call H.2.2.2 (by omega) fun W54 hE54 _ => ⟨_, rfl, ?_⟩
  have H := nx H hE54
  refine polyVars_call H.1 (by omega) fun W57 hE57 _ => ⟨_, rfl, ?_⟩
  have H := nx H hE57
  refine polyVars_call H.2.1 (by omega) fun W60 hE60 _ => ⟨_, rfl, fun e => ?_, fun _ => ⟨fun e => ?_, fun _ => ⟨fun e0 => ?_, fun e0 => ⟨fun e1 => ?_, fun e1 => ?_⟩⟩⟩⟩
  · have := maxf_add (w := varsM) (n := 0) (p := p) (q := q)
    omega
  · rw [decide_eq_true okM] at e
    cases e
  · have H := nx H hE60
    have : p = [] := List.eq_nil_of_length_eq_zero (by omega)
    subst this
    exact polyDegree_call H.2.2.1 (by omega) fun W65 hE65 _ => ⟨_, rfl, fun W67 _ => ⟨rfl, trivial⟩⟩
  · have H := nx H hE60
    have : q = [] := List.eq_nil_of_length_eq_zero (by omega)
    subst this
    have e : ppairs p [] = [] := by simp [ppairs]
    rw [e] at H
    exact polyDegree_call H.2.2.1 (by simp [pnorm]) fun W69 hE69 _ => ⟨_, rfl, fun W71 _ => ⟨rfl, trivial⟩⟩
  · have H := nx H hE60
    have n1 : p ≠ [] := fun e => by subst e; exact e0 (by rw [np]; rfl)
    have n2 : q ≠ [] := fun e => by subst e; exact e1 (by rw [nq]; rfl)
    have m1 := maxf_mul (n := -1) (by omega) Mon.deg_add (fun a h => Mon.deg_nn h) op.1.good oq.1.good p1.ok q1.ok n1 n2
    have m2 := maxf_mul (n := 0) (by omega) (topw_add i) (fun a h => (topw_ok h i).1) op.1.good oq.1.good p1.ok q1.ok n1 n2
    refine polyDegree_call H.2.2.1 (by omega) fun W73 hE73 _ => ⟨_, rfl, ?_⟩
    have H := nx H hE73
    refine polyDegree_call H.1 (by omega) fun W76 hE76 _ => ⟨_, rfl, ?_⟩
    have H := nx H hE76
    refine polyDegree_call H.2.1 (by omega) fun W79 hE79 _ => ⟨_, rfl, by unfold I64; omega, fun _ => ?_, fun e => ?_⟩
    · have H := nx H hE79
      refine polyTop_call H.2.2.1 (by omega) fun W82 hE82 _ => ⟨_, rfl, ?_⟩
      have H := nx H hE82
      refine polyTop_call H.1 (by omega) fun W85 hE85 _ => ⟨_, rfl, ?_⟩
      have H := nx H hE85
      refine polyTop_call H.2.1 (by omega) fun W88 hE88 _ => ⟨_, rfl, by unfold I64; omega, fun W90 _ => ⟨?_, trivial⟩⟩
      rw [decide_eq_true m2]
    · exact absurd (by rw [dp, dq, dm, m1]) e
theorem polyDegrees_call {W0 W : PW} {M : Nat → Prop} {s t : Sl} {L L2 : List (Mon × ByteArray)} {i : Int} {K : Value → PW → Prop} (h1 : IsAPoly W s L) (h2 : IsAPoly W t L2) (l1 : L.length ≤ 1099511627776) (z1 : ∀ t ∈ L, t.2.size ≤ 1099511627776) (l2 : L2.length ≤ 1099511627776) (z2 : ∀ t ∈ L2, t.2.size ≤ 1099511627776) (kont : ∀  (W' : PW), Ext W W' → (True) → K (.bool true) W') :
    callN Go.Proofs.Tryz.prog W0 M 11 [s.v, t.v, .int .i64 i] W K :=
  callN_of (fun W' hE => polyDegrees_ok (M := fun _ => False) (h1.ext hE) (h2.ext hE) l1 z1 l2 z2) (fun W' v W'' hE hE' hP => by
    obtain ⟨rfl, h⟩ := hP
    exact kont  W'' (hE.trans hE') h)
end Go.Proofs.YtbingbjhgoanoaaGreat

/- An argument that is a slice of terms with texts, opened. -/
set_option maxRecDepth 100000
set_option linter.unusedVariables false
set_option linter.unusedSimpArgs false
namespace Go.Proofs.YtbingbjhgoanoaaGreat
open Go Go.SX Go.ChangeShapes Go.WideShapes Go.ChangeAt Go.RowKit Go.Deep
instance : Inhabited (Mon × ByteArray) := ⟨(⟨0, 0, 0⟩, ⟨#[]⟩)⟩
theorem ownKnob_none : ownKnob Go.Proofs.Tryz.prog.godebug = none := by kernel_rfl
theorem laidOut : laidOutB Go.Proofs.Tryz.prog = true := by kernel_rfl
theorem cells_term : Go.Proofs.Tryz.prog.cellsOf 43 = 4 := by kernel_rfl
theorem cells_mono : Go.Proofs.Tryz.prog.cellsOf 41 = 3 := by kernel_rfl
theorem cells_str : Go.Proofs.Tryz.prog.cellsOf 9 = 1 := by kernel_rfl
theorem cells_u8 : Go.Proofs.Tryz.prog.cellsOf 5 = 1 := by kernel_rfl
theorem cell_block {W : World} {b o : Nat} {v : Value} (h : W.cell? ⟨b, o, none⟩ = some v) : ∃ cs t fz, W.heap[b]? = some (.cells cs t fz) ∧ cs[o]? = some v := by
  unfold World.cell? at h
  cases e : W.heap[b]? with
  | none => simp [e] at h
  | some ob =>
    cases ob with
    | cells cs t fz => exact ⟨cs, t, fz, rfl, by simpa [e] using h⟩
    | _ => simp [e] at h
theorem bulk_one {H : Type} (d : DataW H) : 1 ≤ Rows.uptoBulk d := by
  cases d with
  | lit l => cases l <;> simp [Rows.uptoBulk]
  | nil => simp [Rows.uptoBulk]
  | ptr d => simp [Rows.uptoBulk]
  | slice elems spare => simp [Rows.uptoBulk]
  | agg parts => simp [Rows.uptoBulk]
  | iface t d => simp [Rows.uptoBulk]
  | map entries => simp [Rows.uptoBulk]
  | held h => simp [Rows.uptoBulk]
theorem bulk_part {H : Type} {d : DataW H} {l : List (DataW H)} (h : d ∈ l) : Rows.uptoBulk d ≤ Rows.uptoBulkAll l := by
  induction l with
  | nil => cases h
  | cons x r ih =>
    simp only [Rows.uptoBulkAll]
    cases List.mem_cons.1 h with
    | inl e => subst e; omega
    | inr e => have := ih e; omega
theorem bulk_length {H : Type} (l : List (DataW H)) : l.length ≤ Rows.uptoBulkAll l := by
  induction l with
  | nil => simp [Rows.uptoBulkAll]
  | cons x r ih => have := bulk_one x; simp only [Rows.uptoBulkAll, List.length_cons]; omega
/-- Rows of sz cells each. -/
theorem rowA_of_cellsN {W : World} {a : Addr} {n c sz : Nat} {V : Nat → List Value} (h : ∀ j, j < n → ∀ i v, (V j)[i]? = some v → W.cell? (a.add (j * sz + i)) = some v) (hV : ∀ j, j < n → (V j).length = sz) (hsz : 0 < sz) (hn : n ≤ c) (hc : c ≤ maxLen) (h1 : ∀ j, j < n → ∀ u ∈ V j, u.oneCell' = true) :
    RowA ⟨W, fun _ => False⟩ sz ⟨some a, n, c⟩ ((List.range n).map V) := by
  have hel : ∀ x ∈ (List.range n).map V, x.length = sz ∧ ∀ u ∈ x, u.oneCell' = true := by
    intro x hx
    obtain ⟨j, hj, rfl⟩ := List.mem_map.1 hx
    exact ⟨hV j (List.mem_range.1 hj), h1 j (List.mem_range.1 hj)⟩
  by_cases h0 : n = 0
  · subst h0
    exact ⟨0, rfl, Nat.zero_le _, hc, hel, .inl rfl⟩
  · obtain ⟨b, off, sp⟩ := a
    have hlen0 := hV 0 (by omega)
    obtain ⟨v0, hv0⟩ : ∃ v, (V 0)[0]? = some v := ⟨_, List.getElem?_eq_getElem (by omega)⟩
    have hc0 := h 0 (by omega) 0 v0 hv0
    have hsp : sp = none := by simpa [Addr.add] using World.cell?_spot hc0
    subst hsp
    obtain ⟨cs, t, fz, hh, _⟩ := cell_block (by rw [← add_plain]; exact hc0)
    refine ⟨t, by simp, hn, hc, hel, .inr ⟨b, off, cs, fz, rfl, id, hh, fun j v hj => ?_⟩⟩
    have hjl := (List.getElem?_eq_some_iff.1 hj).1
    rw [flatten_length (sz := sz) (fun x hx => (hel x hx).1)] at hjl
    simp only [List.length_map, List.length_range] at hjl
    have hi : j / sz < n := (Nat.div_lt_iff_lt_mul hsz).2 hjl
    have hm : j % sz < sz := Nat.mod_lt _ hsz
    have e : j / sz * sz + j % sz = j := by rw [Nat.mul_comm]; exact Nat.div_add_mod j sz
    have hx : ((List.range n).map V)[j / sz]? = some (V (j / sz)) := by simp [hi]
    have hl := hV _ hi
    have hf := flatten_at (sz := sz) (fun x hx => (hel x hx).1) hx (j := j % sz) (v := (V (j / sz))[j % sz]'(by omega)) (List.getElem?_eq_getElem (by omega))
    rw [e, hj] at hf
    have hcell := h _ hi (j % sz) v (by rw [hf]; exact List.getElem?_eq_getElem (by omega))
    rw [e, add_plain] at hcell
    obtain ⟨cs', t', fz', hh', hv⟩ := cell_block hcell
    rw [hh] at hh'
    cases hh'
    exact hv
theorem u8_ok {n : Int} (h : (Lit.int .u8 n).wf = true) : 0 ≤ n ∧ n ≤ 255 := by
  simp [Lit.wf, IntKind.min, IntKind.max, IntKind.bits, IntKind.signed] at h
  omega
/-- An element. -/
theorem open_term {H : Type} {enc : TypeId × Value → H} {W : World} {fuel : Nat} {cs : List Value} {x : DataW H × List MemPlace} (h : DataW.trod enc Go.Proofs.Tryz.prog W 0 (fun _ => true) true fuel 43 cs = some x) :
    ∃ t : Mon × ByteArray, AT cs t ∧ t.2.size ≤ Rows.uptoBulk x.1 := by
  obtain ⟨xs, k, rfl, rfl, hl, hxl, hf⟩ := DataW.trod_struct Go.Proofs.Tryz.underlying43 h
  rw [cells_term] at hl
  have g0 : DataW.trod enc Go.Proofs.Tryz.prog W 0 (fun _ => true) true k 41 ((cs.drop 0).take (Go.Proofs.Tryz.prog.cellsOf 41)) = xs[0]? := hf 0 _ rfl
  have g1 : DataW.trod enc Go.Proofs.Tryz.prog W 0 (fun _ => true) true k 9 ((cs.drop 3).take (Go.Proofs.Tryz.prog.cellsOf 9)) = xs[1]? := hf 1 _ rfl
  rw [cells_mono] at g0
  rw [cells_str] at g1
  match cs, hl, xs, hxl with
  | [v0, v1, v2, v3], _, [y0, y1], _ =>
    have g0 : DataW.trod enc Go.Proofs.Tryz.prog W 0 (fun _ => true) true k 41 [v0, v1, v2] = some y0 := g0
    have g1 : DataW.trod enc Go.Proofs.Tryz.prog W 0 (fun _ => true) true k 9 [v3] = some y1 := g1
    obtain ⟨zs, m, rfl, rfl, _, hzl, hz⟩ := DataW.trod_array Go.Proofs.Tryz.underlying41 g0
    obtain ⟨s, hs, rfl, hsz⟩ := DataW.trod_string Go.Proofs.Tryz.underlying9 g1
    have e0 := hz 0 (by omega)
    have e1 := hz 1 (by omega)
    have e2 := hz 2 (by omega)
    rw [cells_u8] at e0 e1 e2
    match zs, hzl with
    | [w0, w1, w2], _ =>
      have e0 : DataW.trod enc Go.Proofs.Tryz.prog W 0 (fun _ => true) true m 5 [v0] = some w0 := e0
      have e1 : DataW.trod enc Go.Proofs.Tryz.prog W 0 (fun _ => true) true m 5 [v1] = some w1 := e1
      have e2 : DataW.trod enc Go.Proofs.Tryz.prog W 0 (fun _ => true) true m 5 [v2] = some w2 := e2
      obtain ⟨n0, h0, _, k0⟩ := DataW.trod_int Go.Proofs.Tryz.underlying5 e0
      obtain ⟨n1, h1, _, k1⟩ := DataW.trod_int Go.Proofs.Tryz.underlying5 e1
      obtain ⟨n2, h2, _, k2⟩ := DataW.trod_int Go.Proofs.Tryz.underlying5 e2
      have hs : [v3] = [Value.string s] := hs
      have h0 : [v0] = [Value.int .u8 n0] := h0
      have h1 : [v1] = [Value.int .u8 n1] := h1
      have h2 : [v2] = [Value.int .u8 n2] := h2
      simp only [List.cons.injEq, and_true] at hs h0 h1 h2
      subst hs h0 h1 h2
      refine ⟨(⟨n0, n1, n2⟩, s), ⟨⟨u8_ok k0, u8_ok k1, u8_ok k2⟩, rfl⟩, ?_⟩
      have e : s.data.toList.length = s.size := by rw [Array.length_toList]; rfl
      simp only [List.map_cons, List.map_nil, Rows.uptoBulk, Rows.uptoBulkAll]
      omega
theorem all2_map {n : Nat} {V : Nat → List Value} {y : Nat → Mon × ByteArray} (h : ∀ i, i < n → AT (V i) (y i)) : All2 AT ((List.range n).map V) ((List.range n).map y) := by
  induction n with
  | zero => trivial
  | succ n ih =>
    rw [List.range_succ, List.map_append, List.map_append]
    exact (ih fun i hi => h i (by omega)).append ⟨h n (by omega), trivial⟩
theorem open_terms {H : Type} {enc : TypeId × Value → H} {W : World} {fuel : Nat} {v : Value} {d : DataW H} {p : List MemPlace} (h : DataW.trod enc Go.Proofs.Tryz.prog W 0 (fun _ => true) true fuel 22 [v] = some (d, p)) :
    ∃ (s : Sl) (L : List (Mon × ByteArray)), v = s.v ∧ IsAPoly ⟨W, fun _ => False⟩ s L ∧ L.length ≤ Rows.uptoBulk d ∧ ∀ t ∈ L, t.2.size ≤ Rows.uptoBulk d := by
  rcases open_slice Go.Proofs.Tryz.underlying22 h with ⟨hcs, hx⟩ | ⟨a, len, cap, m, n, D, Pl, hcs, _, hl, hm, hmm, hx, hcell⟩
  · have hv : v = .slice none 0 0 := by simpa using hcs
    subst hv
    exact ⟨⟨none, 0, 0⟩, [], rfl, ⟨[], ⟨0, rfl, Nat.le_refl _, Nat.zero_le _, fun x h => by simp at h, .inl rfl⟩, trivial⟩, Nat.zero_le _, fun l h => by simp at h⟩
  · have hv : v = .slice (some a) len cap := by simpa using hcs
    subst hv
    simp only [if_true] at hmm
    subst hmm
    simp only [Prod.mk.injEq] at hx
    obtain ⟨rfl, _⟩ := hx
    rw [cells_term] at hcell
    obtain ⟨q, hq⟩ : ∃ q : Nat → List Value × (Mon × ByteArray), ∀ i, i < m → W.cells? 0 (a.add (i * 4)) 4 = some (q i).1 ∧ AT (q i).1 (q i).2 ∧ (q i).2.2.size ≤ Rows.uptoBulk (D i) := choose_lt (α := List Value × (Mon × ByteArray)) (p := fun i q => W.cells? 0 (a.add (i * 4)) 4 = some q.1 ∧ AT q.1 q.2 ∧ q.2.2.size ≤ Rows.uptoBulk (D i)) fun i hi => by
      obtain ⟨cs', h1, h2⟩ := hcell i hi
      obtain ⟨t, h3, h4⟩ := open_term h2
      exact ⟨(cs', t), h1, h3, h4⟩
    have hr := rowA_of_cellsN (W := W) (a := a) (n := len) (c := m) (sz := 4) (V := fun i => (q i).1) (fun j hj i v hv => by
      obtain ⟨_, hlen, hc⟩ := World.cells?_some (hq j (by omega)).1
      have hi : i < 4 := by have := (List.getElem?_eq_some_iff.1 hv).1; omega
      have := hc i hi
      rw [add_add] at this
      rw [this]; exact hv) (fun j hj => (World.cells?_some (hq j (by omega)).1).2.1) (by omega) hl hm (fun j hj u hu => by
      rw [(hq j (by omega)).2.1.2] at hu
      simp only [List.mem_cons, List.not_mem_nil, or_false] at hu
      rcases hu with rfl | rfl | rfl | rfl <;> rfl)
    have hbulk : ∀ i, i < len → Rows.uptoBulk (D i) ≤ Rows.uptoBulkAll ((List.range len).map D) := fun i hi => bulk_part (List.mem_map.2 ⟨i, List.mem_range.2 hi, rfl⟩)
    have hlen := bulk_length ((List.range len).map D)
    simp only [List.length_map, List.length_range] at hlen
    refine ⟨⟨some a, len, m⟩, (List.range len).map fun i => (q i).2, rfl, ⟨_, hr, all2_map fun i hi => (hq i (by omega)).2.1⟩, ?_, fun t ht => ?_⟩
    · simp only [List.length_map, List.length_range, Rows.uptoBulk]
      omega
    · obtain ⟨j, hj, rfl⟩ := List.mem_map.1 ht
      have hj' := List.mem_range.1 hj
      have h1 := hbulk j hj'
      have h2 := (hq j (by omega)).2.2
      simp only [Rows.uptoBulk]
      omega
end Go.Proofs.YtbingbjhgoanoaaGreat

/- cincturelaw8.PolyDegrees answers true for every input whose bulk is at most 1048576 (the second form), and its arguments read behind the call as they did ahead of it. -/
set_option maxRecDepth 100000
set_option linter.unusedVariables false
set_option linter.unusedSimpArgs false
namespace Go.Proofs.YtbingbjhgoanoaaGreat
open Go Go.SX Go.ChangeShapes Go.WideShapes Go.ChangeAt Go.RowKit Go.Deep
/-- What the walk gives, for every argument within the bound. -/
theorem contract (H : Type) (enc : TypeId × Value → H) (W : World) (base : Nat) (args : Array Value) (ds gs : List (DataW H)) (before : List MemPlace)
    (hval : ∀ (j : Nat) t v, Go.Proofs.Tryz.f11.params[j]? = some t → args[j]? = some v → Value.okWide Go.Proofs.Tryz.prog W .any base t v)
    (hW : DataW.Whole enc Go.Proofs.Tryz.prog Go.Proofs.Tryz.f11.params.toList Rows.polyDegreesSpec.vars false W args.toList ds gs before) (hk : Rows.uptoSmall H (ds ++ gs) = true) :
    Calls Go.Proofs.Tryz.prog 11 args W fun e W' => ∃ v, e = .returned v ∧ Rows.polyDegreesSpec.post enc Go.Proofs.Tryz.prog Go.Proofs.Tryz.f11 false true false false W args v W' := by
  have hW' := hW
  obtain ⟨p, q, hA0, hV, rfl, hfz, hnd⟩ := hW
  have hA : DataW.TrodAll enc Go.Proofs.Tryz.prog W 0 (fun _ => true) true Go.Proofs.Tryz.f11.params.toList args.toList ds p := hA0
  rw [Go.Proofs.Tryz.params11] at hA hval
  obtain ⟨v0, vs0, d0, ds0, p0, q0, hargs, rfl, rfl, h0, r0⟩ := trodAll_cons hA
  obtain ⟨v1, vs1, d1, ds1, p1, q1, rfl, rfl, rfl, h1, r1⟩ := trodAll_cons r0
  obtain ⟨v2, vs2, d2, ds2, p2, q2, rfl, rfl, rfl, h2, r2⟩ := trodAll_cons r1
  obtain ⟨rfl, rfl, rfl⟩ := trodAll_nil r2
  obtain rfl : args = #[v0, v1, v2] := by cases args; simp_all
  obtain ⟨rfl, rfl⟩ := trodVars_none hV
  obtain ⟨a0, n0, c0, rfl⟩ := okWide_slice Go.Proofs.Tryz.underlying22 (hval 0 22 v0 rfl rfl)
  obtain ⟨a1, n1, c1, rfl⟩ := okWide_slice Go.Proofs.Tryz.underlying22 (hval 1 22 v1 rfl rfl)
  obtain ⟨z2, rfl⟩ := okWide_int Go.Proofs.Tryz.underlying3 (hval 2 3 v2 rfl rfl)
  clear hA0
  simp only [List.append_nil] at hW' hk
  have hlt : ∀ x ∈ p0 ++ (p1 ++ p2), x.block < W.heap.size := fun x hx => by simpa using hW'.lt x (by simpa using hx)
  have hbulk : Rows.uptoBulkAll [d0, d1, d2] ≤ 1048576 := of_decide_eq_true hk
  simp only [Rows.uptoBulkAll] at hbulk
  have h0k := h0
  obtain ⟨fuel0, hf0⟩ := h0
  have hf0' : DataW.trod enc Go.Proofs.Tryz.prog W 0 (fun _ => true) true fuel0 22 [.slice a0 n0 c0] = some (d0, p0) := by simpa [Value.cells] using hf0
  obtain ⟨s0, L0, hs0, hL0, hb0, hc0⟩ := open_terms hf0'
  have h1k := h1
  obtain ⟨fuel1, hf1⟩ := h1
  have hf1' : DataW.trod enc Go.Proofs.Tryz.prog W 0 (fun _ => true) true fuel1 22 [.slice a1 n1 c1] = some (d1, p1) := by simpa [Value.cells] using hf1
  obtain ⟨s1, L1, hs1, hL1, hb1, hc1⟩ := open_terms hf1'
  have h2k := h2
  have hc := polyDegrees_ok (M := fun _ => False) (i := z2) hL0 hL1 (by omega) (fun t ht => by have := hc0 t ht; omega) (by omega) (fun t ht => by have := hc1 t ht; omega)
  have hcall := hc.2 (fun b h => h.elim)
  rw [hs0, hs1]
  refine hcall.mono fun e W' ⟨v, he, hkeep, hv, _⟩ => ⟨v, he, ?_⟩
  subst hv
  have hbel := hkeep.below
  refine ⟨[d0, d1, d2], [], _, [], p0 ++ (p1 ++ p2), [], (by rw [← hs0, ← hs1]; simpa using hW'), trodAll_mk1 (shut_bool Go.Proofs.Tryz.underlying4 _), (by rw [← hs0, ← hs1]; exact trodAll_mk3 (Below.trod laidOut (by kernel_rfl) (of_decide_eq_true (by kernel_rfl)) h0k hbel fun x hx => hlt x (by simp [hx])) (Below.trod laidOut (by kernel_rfl) (of_decide_eq_true (by kernel_rfl)) h1k hbel fun x hx => hlt x (by simp [hx])) (Below.trod laidOut (by kernel_rfl) (of_decide_eq_true (by kernel_rfl)) h2k hbel fun x hx => hlt x (by simp [hx]))), rfl, hbel.frame _, fun h => by cases h⟩
theorem lifted (os : Os) (started : os.Started) (H : Type) (enc : TypeId × Value → H) (F : Stop.Interp) :
    ReturnsInHanded {} Go.Proofs.Tryz.checked os 11 .any ((Rows.OpenSpec.upto Rows.polyDegreesSpec).pre6 enc Go.Proofs.Tryz.prog Go.Proofs.Tryz.f11 Rows.polyDegreesUptoRow.domain false) (((Rows.OpenSpec.upto Rows.polyDegreesSpec).at F).post enc Go.Proofs.Tryz.prog Go.Proofs.Tryz.f11 false true false false) := by
  refine returnsInHanded_of_cond (C := Go.Proofs.Tryz.checked) (s := Rows.OpenSpec.upto Rows.polyDegreesSpec) (k := Rows.uptoSmall) rfl ownKnob_none started (by kernel_rfl) Go.Proofs.Tryz.func11
    (OpenSpec.witness (enc := enc) (C := Go.Proofs.Tryz.checked) (s := Rows.OpenSpec.upto Rows.polyDegreesSpec) (k := Rows.uptoSmall) rfl false ⟨#[], #[.slice none 0 0, .slice none 0 0, .int .i64 0], []⟩ 8 (by kernel_rfl) (by kernel_rfl) (by kernel_rfl)
      (x := ([.nil, .nil, .lit (.int .i64 0)], [], [])) (by kernel_rfl) rfl (by kernel_rfl)) ?_
  intro W base args ds gs before hval hW _ hk _
  exact contract H enc W base args ds gs before hval hW hk
theorem polyDegrees_holds : Rows.PolyDegreesUptoSaid :=
  OpenClaim.holds_of_cond 11 Go.Proofs.Tryz.f11 rfl rfl rfl rfl rfl rfl rfl ⟨rfl, rfl, rfl, rfl, rfl⟩ rfl rfl rfl rfl rfl (by kernel_rfl) Go.Proofs.Tryz.func11 (by kernel_rfl)
    (of_decide_eq_true (by kernel_rfl)) (by unfold Func.isWrapper; first | (rw [if_pos (by decide +kernel)]; kernel_rfl) | (rw [if_neg (by decide +kernel)]; exact ⟨rfl, rfl⟩))
    (fun os started H enc _ F => lifted os started H enc F)
#print axioms polyDegrees_holds
end Go.Proofs.YtbingbjhgoanoaaGreat
