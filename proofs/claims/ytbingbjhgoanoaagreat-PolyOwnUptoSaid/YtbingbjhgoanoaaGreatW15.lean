/- cincturelaw8.PolyOwn. -/
import Derived.Test.YtbingbjhgoanoaaGreatW14
import Derived.Test.YtbingbjhgoanoaaGreatR15
import Derived.Test.YtbingbjhgoanoaaGreatLib4
import Derived.Test.YtbingbjhgoanoaaGreatRows
import Derived.WalkKit
import Derived.ProofKit
import Derived.OpenShut
import Derived.JoinedCond
import Derived.Carry
import Derived.Deep.Slices
set_option linter.unusedVariables false
set_option linter.unusedSimpArgs false
set_option maxRecDepth 100000
set_option linter.unusedVariables false
set_option linter.unusedSimpArgs false
namespace Go.Proofs.YtbingbjhgoanoaaGreat
open Go Go.SX
theorem isPoly_wr {t' : TypeId} {g : Nat} {W W' : PW} {s : Sl} {p : List Tm} (h : IsPoly 183 45 W s p) (hw : Wr t' g W W') (h1 : 183 ≠ t') (h2 : 45 ≠ t') : IsPoly 183 45 W' s p :=
  let ⟨xs, hr, ha⟩ := h; ⟨xs, hw.row hr h2, ha.mono fun _ _ h => h.wr hw h1⟩
theorem isRPoly_wr {t' : TypeId} {g : Nat} {W W' : PW} {s : Sl} {p : List Tm} (h : IsRPoly 183 47 W s p) (hw : Wr t' g W W') (h1 : 183 ≠ t') (h2 : 47 ≠ t') : IsRPoly 183 47 W' s p :=
  let ⟨xs, hr, ha⟩ := h; ⟨xs, hw.row hr h2, ha.mono fun _ _ ⟨h0, b, s, s', h3, h4⟩ => ⟨h0, b, s, s', h3, hw.rq h4 h1⟩⟩
theorem isRPoly_new {W W' : PW} {s : Sl} {p : List Tm} {n0 : Nat} (h : IsRPoly 183 47 W s p) (hE : ExtN n0 W W') (hn : W.w.heap.size ≤ n0) : IsRPoly 183 47 W' s p :=
  let ⟨xs, hr, ha⟩ := h; ⟨xs, hr.new hE hn, ha.mono fun _ _ ⟨h0, b, s, s', h3, h4⟩ => ⟨h0, b, s, s', h3, h4.new hE hn⟩⟩
theorem oPoly_other {g : Nat} {W W' : PW} {s : Sl} {p : List Tm} (h : OPoly 183 45 W s p) (hw : Wr 45 g W W') (hne : s.v.ownBlock ≠ some g) : OPoly 183 45 W' s p :=
  let ⟨xs, hr, ha⟩ := h; ⟨xs, hr.other hw.extM (fun g' hg' e => hne (by rw [hg']; exact congrArg some e)), ha.mono fun _ _ h => h.wr hw (by decide)⟩
theorem oAPoly_other {g : Nat} {W W' : PW} {s : Sl} {p : List (Mon × ByteArray)} (h : OAPoly 43 W s p) (hw : Wr 45 g W W') (hne : s.v.ownBlock ≠ some g) : OAPoly 43 W' s p :=
  let ⟨xs, hr, ha⟩ := h; ⟨xs, hr.other hw.extM (fun g' hg' e => hne (by rw [hg']; exact congrArg some e)), ha⟩
/-- A text in an own row is written over. -/
theorem store_text {W0 W : PW} {M : Nat → Prop} {s : Sl} {zs : List (List Value)} {j : Nat} {t : ByteArray} {K : PW → Prop} (h : Go.SX.Own W 43 4 s zs) (hj : j < zs.length) (hM : ∀ g, s.v.ownBlock = some g → W0.w.heap.size ≤ g)
    (kont : ∀ (W'' : PW) (g : Nat) (zs' : List (List Value)), s.v.ownBlock = some g → Wr 43 g W W'' → Go.SX.Own W'' 43 4 s zs' → zs'.length = zs.length → K W'') : storeN W0 M s (j * 4 + 3) [.string t] W K :=
  storeN_part (j := j) h (List.getElem?_eq_getElem hj) (by simp) (fun u hu => by simp at hu; subst hu; rfl) (fun g hg => .inr (hM g hg)) fun W'' g hg hw hO => kont W'' g _ hg hw hO (by simp)
theorem polyOwn_ok {W0 : PW} {M : Nat → Prop} {s : Sl} {L : List (Mon × ByteArray)} {a : ByteArray} (h1 : IsAPoly W0 s L) (l1 : L.length ≤ 1099511627776) (z1 : ∀ t ∈ L, t.2.size ≤ 1099511627776) (za : a.size ≤ 1099511627776) :
    PCallsM Go.Proofs.Tryz.prog 5 [s.v, .string a] W0 M fun v W' => v = .bool true ∧ True := by
  apply calllaw8_PolyOwn
  refine law8Of_call h1 l1 z1 fun s3 s4 b5 W2 hE2 g1 => ⟨s3, s4, b5, rfl, law3Num_call za fun s8 b9 s10 b11 s12 s13 W7 hE7 hq => ⟨s8, b9, s10, b11, s12, s13, _, rfl, fun _ => law8alive_call fun W16 _ _ => ⟨true, rfl, fun W18 _ => ⟨rfl, trivial⟩⟩, fun hb5 => ⟨fun _ => law8alive_call fun W16 _ _ => ⟨true, rfl, fun W18 _ => ⟨rfl, trivial⟩⟩, fun _ => law8alive_call fun W24 hE24 _ => ⟨true, rfl, fun e => (by cases e), fun _ => ?_⟩⟩⟩⟩
  obtain ⟨p, op, p1, p2⟩ := g1 (by simpa using hb5)
  have hE := hE7.trans hE24
  have p1 := p1.ext hE
  have p2 := p2.ext hE
  have hL := h1.ext (hE2.trans hE)
  have lp := op.len
  have hpn : pnorm p = p := pnorm_of op.1.good
  have hsz0 : W0.w.heap.size ≤ W24.w.heap.size := (hE2.trans hE).size
  obtain ⟨xs, hr, ha⟩ := p1
  have hxl := ha.len
  have p1 : IsPoly 183 45 W24 s3 p := ⟨xs, hr, ha⟩
  refine polyTerms_call hr (by omega) fun s32 W31 hE31 ⟨hf32, hO32⟩ => ⟨s32, rfl, ?_⟩
  refine polyNewO_call (isPoly_of hO32.row (ha.mono fun _ _ h => h.ext hE31)) op.bd (by omega) (by omega) fun s35 W34 hE34 ⟨hf35, h35⟩ => ⟨s35, rfl, ?_⟩
  rw [hpn] at h35
  refine polyPlainO_call (p1.ext (hE31.trans hE34)) op.1.sz (by omega) (by omega) fun s38 W37 hE37 ⟨hf38, h38⟩ => ⟨s38, rfl, ?_⟩
  have hne1 : ∀ g, s32.v.ownBlock = some g → s35.v.ownBlock ≠ some g := fun g hg hg' => by
    have := (hO32.block hg).1
    have := hf35 g hg'
    omega
  have hne2 : ∀ g, s32.v.ownBlock = some g → s38.v.ownBlock ≠ some g := fun g hg hg' => by
    have := (hO32.block hg).1
    have := hf38 g hg'
    have := hE34.size
    omega
  have h38n : ∀ g, s38.v.ownBlock = some g → W24.w.heap.size ≤ g := fun g hg => Nat.le_trans (hE31.trans hE34).size (hf38 g hg)
  refine ⟨fun l W => match l with
    | [.val (.int .i64 i)] => ∃ (j : Nat) (ys : List (List Value)), i = (j : Int) ∧ j ≤ p.length ∧ ExtN W24.w.heap.size W24 W ∧ Go.SX.Own W 45 6 s32 ys ∧ ys.length = p.length ∧ OPoly 183 45 W s35 p ∧ OAPoly 43 W s38 (ptxt p)
    | _ => False, fun l _ => match l with | [.val (.int .i64 i)] => p.length - i.toNat | _ => 0, ⟨0, xs, rfl, by omega, ((hE31.trans hE34).trans hE37).toM _, hO32.ext (hE34.trans hE37), hxl, h35.ext hE37, h38⟩, ?_⟩
  rintro i41 W42 ⟨j, ys, rfl, hj, hEN, hO, hyl, hP, hA⟩
  have hn32 : s32.n = p.length := by rw [hO.row.1, hyl]
  refine ⟨fun hlt => ?_, fun _ => ?_⟩
  · have hjl : j < ys.length := by omega
    have hib : inB s32 (j : Int) := hO.row.inB (by omega) (by omega)
    refine ⟨hib, storeN_part (j := j) hO (List.getElem?_eq_getElem hjl) (by simp) (fun u hu => ?_) (fun g hg => .inr (Nat.le_trans hsz0 (hf32 g hg))) fun W43 g hg hw hO1 => ⟨hib, storeN_part (j := j) hO1 (List.getElem?_eq_getElem (by simpa using hjl)) (by simp) (fun u hu => ?_) (fun g hg => .inr (Nat.le_trans hsz0 (hf32 g hg))) fun W44 g' hg' hw' hO2 => ⟨by unfold I64; omega, ⟨j + 1, _, by push_cast; rfl, by omega, (hEN.trans (hw.extN (hf32 g hg))).trans (hw'.extN (hf32 g' hg')), hO2, by simpa using hyl, oPoly_other (oPoly_other hP hw (hne1 g hg)) hw' (hne1 g' hg'), oAPoly_other (oAPoly_other hA hw (hne2 g hg)) hw' (hne2 g' hg')⟩, ?_⟩⟩⟩
    · simp only [List.mem_cons, List.not_mem_nil, or_false] at hu
      rcases hu with rfl | rfl | rfl <;> rfl
    · simp only [List.mem_cons, List.not_mem_nil, or_false] at hu
      rcases hu with rfl | rfl | rfl <;> rfl
    · show p.length - Int.toNat ((j : Int) + 1) < p.length - Int.toNat (j : Int)
      omega
  obtain ⟨zs, hOz, hAz⟩ := hA
  have hzl := hAz.len
  rw [ptxt_len] at hzl
  refine ⟨fun l W => match l with
    | [.val (.int .i64 i)] => ∃ (j : Nat) (zs : List (List Value)), i = (j : Int) ∧ j ≤ p.length ∧ ExtN W24.w.heap.size W24 W ∧ Go.SX.Own W 43 4 s38 zs ∧ zs.length = p.length ∧ IsPoly 183 45 W s35 p
    | _ => False, fun l _ => match l with | [.val (.int .i64 i)] => p.length - i.toNat | _ => 0, ⟨0, zs, rfl, by omega, hEN, hOz, hzl, hP.poly⟩, ?_⟩
  rintro i47 W48 ⟨k, zs, rfl, hk, hEN, hO, hzl, hP⟩
  have hn38 : s38.n = p.length := by rw [hO.row.1, hzl]
  refine ⟨fun hlt => ?_, fun _ => ?_⟩
  · have hkl : k < zs.length := by omega
    refine ⟨hO.row.inB (by omega) (by omega), store_text (j := k) hO hkl (fun g hg => Nat.le_trans hsz0 (h38n g hg)) fun W49 g zs' hg hw hO' hl => ⟨by unfold I64; omega, ⟨k + 1, zs', by push_cast; rfl, by omega, hEN.trans (hw.extN (h38n g hg)), hO', by omega, isPoly_wr hP hw (by decide) (by decide)⟩, ?_⟩⟩
    show p.length - Int.toNat ((k : Int) + 1) < p.length - Int.toNat (k : Int)
    omega
  have hL48 := hL.new hEN (Nat.le_refl _)
  have q1 := p1.new hEN (Nat.le_refl _)
  have q2 := isRPoly_new p2 hEN (Nat.le_refl _)
  obtain ⟨ls, hls, hal⟩ := hL48
  have hll := hal.len
  have hLp := op.1.len
  refine ⟨ls, hls, by omega, fun s51 W52 hE52 hO51 hf51 => ?_⟩
  refine polyParse_call ⟨ls, ⟨_, hO51.row⟩, hal⟩ l1 z1 fun s55 W54 hE54 h55 => ⟨s55, _, rfl, ?_⟩
  rw [parseP_some op.1] at h55
  have h55 : IsPoly 183 45 W54 s55 p := h55
  have hE5 := hE52.trans hE54
  refine ⟨fun l W => match l with
    | [.val (.int .i64 i)] => ∃ (j : Nat) (zs : List (List Value)), i = (j : Int) ∧ j ≤ p.length ∧ Go.SX.Own W 43 4 s51 zs ∧ zs.length = p.length ∧ IsPoly 183 45 W s3 p ∧ IsRPoly 183 47 W s4 p ∧ IsPoly 183 45 W s35 p ∧ IsPoly 183 45 W s55 p
    | _ => False, fun l _ => match l with | [.val (.int .i64 i)] => p.length - i.toNat | _ => 0, ⟨0, ls, rfl, by omega, hO51.ext hE54, by omega, q1.ext hE5, q2.ext hE5, hP.ext hE5, h55⟩, ?_⟩
  rintro i59 W60 ⟨m, zs, rfl, hm, hO, hzl, r1, r2, r3, r4⟩
  have hn51 : s51.n = p.length := by rw [hO.row.1, hzl]
  refine ⟨fun hlt => ?_, fun _ => ⟨fun _ => ?_, fun hne => ?_⟩⟩
  · have hml : m < zs.length := by omega
    refine ⟨hO.row.inB (by omega) (by omega), store_text (j := m) hO hml (fun g hg => (hf51 g hg).1) fun W61 g zs' hg hw hO' hl => ⟨by unfold I64; omega, ⟨m + 1, zs', by push_cast; rfl, by omega, hO', by omega, isPoly_wr r1 hw (by decide) (by decide), isRPoly_wr r2 hw (by decide) (by decide), isPoly_wr r3 hw (by decide) (by decide), isPoly_wr r4 hw (by decide) (by decide)⟩, ?_⟩⟩
    show p.length - Int.toNat ((m : Int) + 1) < p.length - Int.toNat (m : Int)
    omega
  · refine law8Is_call r1 r2 op.1.sz (by omega) (by omega) fun W63 hE63 _ => ⟨true, rfl, fun _ => ?_, fun e => (by cases e)⟩
    refine law8Is_call (r3.ext hE63) (r2.ext hE63) op.1.sz (by omega) (by omega) fun W66 hE66 _ => ⟨true, rfl, fun _ => ?_, fun e => (by cases e)⟩
    exact law8Is_call (r4.ext (hE63.trans hE66)) (r2.ext (hE63.trans hE66)) op.1.sz (by omega) (by omega) fun W69 _ _ => ⟨true, rfl, fun W71 _ => ⟨rfl, trivial⟩⟩
  · refine absurd ?_ hne
    unfold erP
    rw [parseP_some op.1]
    rfl
theorem polyOwn_call {W0 W : PW} {M : Nat → Prop} {s : Sl} {L : List (Mon × ByteArray)} {a : ByteArray} {K : Value → PW → Prop} (h1 : IsAPoly W s L) (l1 : L.length ≤ 1099511627776) (z1 : ∀ t ∈ L, t.2.size ≤ 1099511627776) (za : a.size ≤ 1099511627776) (kont : ∀  (W' : PW), Ext W W' → (True) → K (.bool true) W') :
    callN Go.Proofs.Tryz.prog W0 M 5 [s.v, .string a] W K :=
  callN_of (fun W' hE => polyOwn_ok (M := fun _ => False) (h1.ext hE) l1 z1 za) (fun W' v W'' hE hE' hP => by
    obtain ⟨rfl, h⟩ := hP
    exact kont  W'' (hE.trans hE') h)
end Go.Proofs.YtbingbjhgoanoaaGreat

/- An argument that is a slice of terms with texts, opened. -/
set_option maxRecDepth 100000
set_option linter.unusedVariables false
set_option linter.unusedSimpArgs false
namespace Go.Proofs.YtbingbjhgoanoaaGreat
open Go Go.SX Go.ChangeShapes Go.WideShapes Go.ChangeAt Go.RowKit Go.Deep
instance : Inhabited (Mon × ByteArray) := ⟨(⟨0, 0, 0⟩, ⟨#[]⟩)⟩
theorem ownKnob_none : ownKnob Go.Proofs.Tryz.prog.godebug = none := by kernel_rfl
theorem laidOut : laidOutB Go.Proofs.Tryz.prog = true := by kernel_rfl
theorem cells_term : Go.Proofs.Tryz.prog.cellsOf 43 = 4 := by kernel_rfl
theorem cells_mono : Go.Proofs.Tryz.prog.cellsOf 41 = 3 := by kernel_rfl
theorem cells_str : Go.Proofs.Tryz.prog.cellsOf 9 = 1 := by kernel_rfl
theorem cells_u8 : Go.Proofs.Tryz.prog.cellsOf 5 = 1 := by kernel_rfl
theorem cell_block {W : World} {b o : Nat} {v : Value} (h : W.cell? ⟨b, o, none⟩ = some v) : ∃ cs t fz, W.heap[b]? = some (.cells cs t fz) ∧ cs[o]? = some v := by
  unfold World.cell? at h
  cases e : W.heap[b]? with
  | none => simp [e] at h
  | some ob =>
    cases ob with
    | cells cs t fz => exact ⟨cs, t, fz, rfl, by simpa [e] using h⟩
    | _ => simp [e] at h
theorem bulk_one {H : Type} (d : DataW H) : 1 ≤ Rows.uptoBulk d := by
  cases d with
  | lit l => cases l <;> simp [Rows.uptoBulk]
  | nil => simp [Rows.uptoBulk]
  | ptr d => simp [Rows.uptoBulk]
  | slice elems spare => simp [Rows.uptoBulk]
  | agg parts => simp [Rows.uptoBulk]
  | iface t d => simp [Rows.uptoBulk]
  | map entries => simp [Rows.uptoBulk]
  | held h => simp [Rows.uptoBulk]
theorem bulk_part {H : Type} {d : DataW H} {l : List (DataW H)} (h : d ∈ l) : Rows.uptoBulk d ≤ Rows.uptoBulkAll l := by
  induction l with
  | nil => cases h
  | cons x r ih =>
    simp only [Rows.uptoBulkAll]
    cases List.mem_cons.1 h with
    | inl e => subst e; omega
    | inr e => have := ih e; omega
theorem bulk_length {H : Type} (l : List (DataW H)) : l.length ≤ Rows.uptoBulkAll l := by
  induction l with
  | nil => simp [Rows.uptoBulkAll]
  | cons x r ih => have := bulk_one x; simp only [Rows.uptoBulkAll, List.length_cons]; omega
/-- Rows of sz cells each. -/
theorem rowA_of_cellsN {W : World} {a : Addr} {n c sz : Nat} {V : Nat → List Value} (h : ∀ j, j < n → ∀ i v, (V j)[i]? = some v → W.cell? (a.add (j * sz + i)) = some v) (hV : ∀ j, j < n → (V j).length = sz) (hsz : 0 < sz) (hn : n ≤ c) (hc : c ≤ maxLen) (h1 : ∀ j, j < n → ∀ u ∈ V j, u.oneCell' = true) :
    RowA ⟨W, fun _ => False⟩ sz ⟨some a, n, c⟩ ((List.range n).map V) := by
  have hel : ∀ x ∈ (List.range n).map V, x.length = sz ∧ ∀ u ∈ x, u.oneCell' = true := by
    intro x hx
    obtain ⟨j, hj, rfl⟩ := List.mem_map.1 hx
    exact ⟨hV j (List.mem_range.1 hj), h1 j (List.mem_range.1 hj)⟩
  by_cases h0 : n = 0
  · subst h0
    exact ⟨0, rfl, Nat.zero_le _, hc, hel, .inl rfl⟩
  · obtain ⟨b, off, sp⟩ := a
    have hlen0 := hV 0 (by omega)
    obtain ⟨v0, hv0⟩ : ∃ v, (V 0)[0]? = some v := ⟨_, List.getElem?_eq_getElem (by omega)⟩
    have hc0 := h 0 (by omega) 0 v0 hv0
    have hsp : sp = none := by simpa [Addr.add] using World.cell?_spot hc0
    subst hsp
    obtain ⟨cs, t, fz, hh, _⟩ := cell_block (by rw [← add_plain]; exact hc0)
    refine ⟨t, by simp, hn, hc, hel, .inr ⟨b, off, cs, fz, rfl, id, hh, fun j v hj => ?_⟩⟩
    have hjl := (List.getElem?_eq_some_iff.1 hj).1
    rw [flatten_length (sz := sz) (fun x hx => (hel x hx).1)] at hjl
    simp only [List.length_map, List.length_range] at hjl
    have hi : j / sz < n := (Nat.div_lt_iff_lt_mul hsz).2 hjl
    have hm : j % sz < sz := Nat.mod_lt _ hsz
    have e : j / sz * sz + j % sz = j := by rw [Nat.mul_comm]; exact Nat.div_add_mod j sz
    have hx : ((List.range n).map V)[j / sz]? = some (V (j / sz)) := by simp [hi]
    have hl := hV _ hi
    have hf := flatten_at (sz := sz) (fun x hx => (hel x hx).1) hx (j := j % sz) (v := (V (j / sz))[j % sz]'(by omega)) (List.getElem?_eq_getElem (by omega))
    rw [e, hj] at hf
    have hcell := h _ hi (j % sz) v (by rw [hf]; exact List.getElem?_eq_getElem (by omega))
    rw [e, add_plain] at hcell
    obtain ⟨cs', t', fz', hh', hv⟩ := cell_block hcell
    rw [hh] at hh'
    cases hh'
    exact hv
theorem u8_ok {n : Int} (h : (Lit.int .u8 n).wf = true) : 0 ≤ n ∧ n ≤ 255 := by
  simp [Lit.wf, IntKind.min, IntKind.max, IntKind.bits, IntKind.signed] at h
  omega
/-- An element. -/
theorem open_term {H : Type} {enc : TypeId × Value → H} {W : World} {fuel : Nat} {cs : List Value} {x : DataW H × List MemPlace} (h : DataW.trod enc Go.Proofs.Tryz.prog W 0 (fun _ => true) true fuel 43 cs = some x) :
    ∃ t : Mon × ByteArray, AT cs t ∧ t.2.size ≤ Rows.uptoBulk x.1 := by
  obtain ⟨xs, k, rfl, rfl, hl, hxl, hf⟩ := DataW.trod_struct Go.Proofs.Tryz.underlying43 h
  rw [cells_term] at hl
  have g0 : DataW.trod enc Go.Proofs.Tryz.prog W 0 (fun _ => true) true k 41 ((cs.drop 0).take (Go.Proofs.Tryz.prog.cellsOf 41)) = xs[0]? := hf 0 _ rfl
  have g1 : DataW.trod enc Go.Proofs.Tryz.prog W 0 (fun _ => true) true k 9 ((cs.drop 3).take (Go.Proofs.Tryz.prog.cellsOf 9)) = xs[1]? := hf 1 _ rfl
  rw [cells_mono] at g0
  rw [cells_str] at g1
  match cs, hl, xs, hxl with
  | [v0, v1, v2, v3], _, [y0, y1], _ =>
    have g0 : DataW.trod enc Go.Proofs.Tryz.prog W 0 (fun _ => true) true k 41 [v0, v1, v2] = some y0 := g0
    have g1 : DataW.trod enc Go.Proofs.Tryz.prog W 0 (fun _ => true) true k 9 [v3] = some y1 := g1
    obtain ⟨zs, m, rfl, rfl, _, hzl, hz⟩ := DataW.trod_array Go.Proofs.Tryz.underlying41 g0
    obtain ⟨s, hs, rfl, hsz⟩ := DataW.trod_string Go.Proofs.Tryz.underlying9 g1
    have e0 := hz 0 (by omega)
    have e1 := hz 1 (by omega)
    have e2 := hz 2 (by omega)
    rw [cells_u8] at e0 e1 e2
    match zs, hzl with
    | [w0, w1, w2], _ =>
      have e0 : DataW.trod enc Go.Proofs.Tryz.prog W 0 (fun _ => true) true m 5 [v0] = some w0 := e0
      have e1 : DataW.trod enc Go.Proofs.Tryz.prog W 0 (fun _ => true) true m 5 [v1] = some w1 := e1
      have e2 : DataW.trod enc Go.Proofs.Tryz.prog W 0 (fun _ => true) true m 5 [v2] = some w2 := e2
      obtain ⟨n0, h0, _, k0⟩ := DataW.trod_int Go.Proofs.Tryz.underlying5 e0
      obtain ⟨n1, h1, _, k1⟩ := DataW.trod_int Go.Proofs.Tryz.underlying5 e1
      obtain ⟨n2, h2, _, k2⟩ := DataW.trod_int Go.Proofs.Tryz.underlying5 e2
      have hs : [v3] = [Value.string s] := hs
      have h0 : [v0] = [Value.int .u8 n0] := h0
      have h1 : [v1] = [Value.int .u8 n1] := h1
      have h2 : [v2] = [Value.int .u8 n2] := h2
      simp only [List.cons.injEq, and_true] at hs h0 h1 h2
      subst hs h0 h1 h2
      refine ⟨(⟨n0, n1, n2⟩, s), ⟨⟨u8_ok k0, u8_ok k1, u8_ok k2⟩, rfl⟩, ?_⟩
      have e : s.data.toList.length = s.size := by rw [Array.length_toList]; rfl
      simp only [List.map_cons, List.map_nil, Rows.uptoBulk, Rows.uptoBulkAll]
      omega
theorem all2_map {n : Nat} {V : Nat → List Value} {y : Nat → Mon × ByteArray} (h : ∀ i, i < n → AT (V i) (y i)) : All2 AT ((List.range n).map V) ((List.range n).map y) := by
  induction n with
  | zero => trivial
  | succ n ih =>
    rw [List.range_succ, List.map_append, List.map_append]
    exact (ih fun i hi => h i (by omega)).append ⟨h n (by omega), trivial⟩
theorem open_terms {H : Type} {enc : TypeId × Value → H} {W : World} {fuel : Nat} {v : Value} {d : DataW H} {p : List MemPlace} (h : DataW.trod enc Go.Proofs.Tryz.prog W 0 (fun _ => true) true fuel 22 [v] = some (d, p)) :
    ∃ (s : Sl) (L : List (Mon × ByteArray)), v = s.v ∧ IsAPoly ⟨W, fun _ => False⟩ s L ∧ L.length ≤ Rows.uptoBulk d ∧ ∀ t ∈ L, t.2.size ≤ Rows.uptoBulk d := by
  rcases open_slice Go.Proofs.Tryz.underlying22 h with ⟨hcs, hx⟩ | ⟨a, len, cap, m, n, D, Pl, hcs, _, hl, hm, hmm, hx, hcell⟩
  · have hv : v = .slice none 0 0 := by simpa using hcs
    subst hv
    exact ⟨⟨none, 0, 0⟩, [], rfl, ⟨[], ⟨0, rfl, Nat.le_refl _, Nat.zero_le _, fun x h => by simp at h, .inl rfl⟩, trivial⟩, Nat.zero_le _, fun l h => by simp at h⟩
  · have hv : v = .slice (some a) len cap := by simpa using hcs
    subst hv
    simp only [if_true] at hmm
    subst hmm
    simp only [Prod.mk.injEq] at hx
    obtain ⟨rfl, _⟩ := hx
    rw [cells_term] at hcell
    obtain ⟨q, hq⟩ : ∃ q : Nat → List Value × (Mon × ByteArray), ∀ i, i < m → W.cells? 0 (a.add (i * 4)) 4 = some (q i).1 ∧ AT (q i).1 (q i).2 ∧ (q i).2.2.size ≤ Rows.uptoBulk (D i) := choose_lt (α := List Value × (Mon × ByteArray)) (p := fun i q => W.cells? 0 (a.add (i * 4)) 4 = some q.1 ∧ AT q.1 q.2 ∧ q.2.2.size ≤ Rows.uptoBulk (D i)) fun i hi => by
      obtain ⟨cs', h1, h2⟩ := hcell i hi
      obtain ⟨t, h3, h4⟩ := open_term h2
      exact ⟨(cs', t), h1, h3, h4⟩
    have hr := rowA_of_cellsN (W := W) (a := a) (n := len) (c := m) (sz := 4) (V := fun i => (q i).1) (fun j hj i v hv => by
      obtain ⟨_, hlen, hc⟩ := World.cells?_some (hq j (by omega)).1
      have hi : i < 4 := by have := (List.getElem?_eq_some_iff.1 hv).1; omega
      have := hc i hi
      rw [add_add] at this
      rw [this]; exact hv) (fun j hj => (World.cells?_some (hq j (by omega)).1).2.1) (by omega) hl hm (fun j hj u hu => by
      rw [(hq j (by omega)).2.1.2] at hu
      simp only [List.mem_cons, List.not_mem_nil, or_false] at hu
      rcases hu with rfl | rfl | rfl | rfl <;> rfl)
    have hbulk : ∀ i, i < len → Rows.uptoBulk (D i) ≤ Rows.uptoBulkAll ((List.range len).map D) := fun i hi => bulk_part (List.mem_map.2 ⟨i, List.mem_range.2 hi, rfl⟩)
    have hlen := bulk_length ((List.range len).map D)
    simp only [List.length_map, List.length_range] at hlen
    refine ⟨⟨some a, len, m⟩, (List.range len).map fun i => (q i).2, rfl, ⟨_, hr, all2_map fun i hi => (hq i (by omega)).2.1⟩, ?_, fun t ht => ?_⟩
    · simp only [List.length_map, List.length_range, Rows.uptoBulk]
      omega
    · obtain ⟨j, hj, rfl⟩ := List.mem_map.1 ht
      have hj' := List.mem_range.1 hj
      have h1 := hbulk j hj'
      have h2 := (hq j (by omega)).2.2
      simp only [Rows.uptoBulk]
      omega
end Go.Proofs.YtbingbjhgoanoaaGreat

/- cincturelaw8.PolyOwn answers true for every input whose bulk is at most 1048576 (the second form), and its arguments read behind the call as they did ahead of it. -/
set_option maxRecDepth 100000
set_option linter.unusedVariables false
set_option linter.unusedSimpArgs false
namespace Go.Proofs.YtbingbjhgoanoaaGreat
open Go Go.SX Go.ChangeShapes Go.WideShapes Go.ChangeAt Go.RowKit Go.Deep
/-- What the walk gives, for every argument within the bound. -/
theorem contract (H : Type) (enc : TypeId × Value → H) (W : World) (base : Nat) (args : Array Value) (ds gs : List (DataW H)) (before : List MemPlace)
    (hval : ∀ (j : Nat) t v, Go.Proofs.Tryz.f5.params[j]? = some t → args[j]? = some v → Value.okWide Go.Proofs.Tryz.prog W .any base t v)
    (hW : DataW.Whole enc Go.Proofs.Tryz.prog Go.Proofs.Tryz.f5.params.toList Rows.polyOwnSpec.vars false W args.toList ds gs before) (hk : Rows.uptoSmall H (ds ++ gs) = true) :
    Calls Go.Proofs.Tryz.prog 5 args W fun e W' => ∃ v, e = .returned v ∧ Rows.polyOwnSpec.post enc Go.Proofs.Tryz.prog Go.Proofs.Tryz.f5 false true false false W args v W' := by
  have hW' := hW
  obtain ⟨p, q, hA0, hV, rfl, hfz, hnd⟩ := hW
  have hA : DataW.TrodAll enc Go.Proofs.Tryz.prog W 0 (fun _ => true) true Go.Proofs.Tryz.f5.params.toList args.toList ds p := hA0
  rw [Go.Proofs.Tryz.params5] at hA hval
  obtain ⟨v0, vs0, d0, ds0, p0, q0, hargs, rfl, rfl, h0, r0⟩ := trodAll_cons hA
  obtain ⟨v1, vs1, d1, ds1, p1, q1, rfl, rfl, rfl, h1, r1⟩ := trodAll_cons r0
  obtain ⟨rfl, rfl, rfl⟩ := trodAll_nil r1
  obtain rfl : args = #[v0, v1] := by cases args; simp_all
  obtain ⟨rfl, rfl⟩ := trodVars_none hV
  obtain ⟨a0, n0, c0, rfl⟩ := okWide_slice Go.Proofs.Tryz.underlying22 (hval 0 22 v0 rfl rfl)
  obtain ⟨t1, rfl⟩ := okWide_string Go.Proofs.Tryz.underlying9 (hval 1 9 v1 rfl rfl)
  clear hA0
  simp only [List.append_nil] at hW' hk
  have hlt : ∀ x ∈ p0 ++ p1, x.block < W.heap.size := fun x hx => by simpa using hW'.lt x (by simpa using hx)
  have hbulk : Rows.uptoBulkAll [d0, d1] ≤ 1048576 := of_decide_eq_true hk
  simp only [Rows.uptoBulkAll] at hbulk
  have h0k := h0
  obtain ⟨fuel0, hf0⟩ := h0
  have hf0' : DataW.trod enc Go.Proofs.Tryz.prog W 0 (fun _ => true) true fuel0 22 [.slice a0 n0 c0] = some (d0, p0) := by simpa [Value.cells] using hf0
  obtain ⟨s0, L0, hs0, hL0, hb0, hc0⟩ := open_terms hf0'
  have h1k := h1
  obtain ⟨fuel1, hf1⟩ := h1
  have hf1' : DataW.trod enc Go.Proofs.Tryz.prog W 0 (fun _ => true) true fuel1 9 [.string t1] = some (d1, p1) := by simpa [Value.cells] using hf1
  have hb1 : t1.size ≤ Rows.uptoBulk d1 := by
    obtain ⟨s, hs, hx, _⟩ := DataW.trod_string Go.Proofs.Tryz.underlying9 hf1'
    simp only [List.cons.injEq, Value.string.injEq, and_true] at hs
    simp only [Prod.mk.injEq] at hx
    rw [hx.1, hs]
    have e : s.data.toList.length = s.size := by rw [Array.length_toList]; rfl
    simp only [Rows.uptoBulk]
    omega
  have hc := polyOwn_ok (M := fun _ => False) (a := t1) hL0 (by omega) (fun t ht => by have := hc0 t ht; omega) (by omega)
  have hcall := hc.2 (fun b h => h.elim)
  rw [hs0]
  refine hcall.mono fun e W' ⟨v, he, hkeep, hv, _⟩ => ⟨v, he, ?_⟩
  subst hv
  have hbel := hkeep.below
  refine ⟨[d0, d1], [], _, [], p0 ++ p1, [], (by rw [← hs0]; simpa using hW'), trodAll_mk1 (shut_bool Go.Proofs.Tryz.underlying4 _), (by rw [← hs0]; exact trodAll_mk2 (Below.trod laidOut (by kernel_rfl) (of_decide_eq_true (by kernel_rfl)) h0k hbel fun x hx => hlt x (List.mem_append_left _ hx)) (Below.trod laidOut (by kernel_rfl) (of_decide_eq_true (by kernel_rfl)) h1k hbel fun x hx => hlt x (List.mem_append_right _ hx))), rfl, hbel.frame _, fun h => by cases h⟩
theorem lifted (os : Os) (started : os.Started) (H : Type) (enc : TypeId × Value → H) (F : Stop.Interp) :
    ReturnsInHanded {} Go.Proofs.Tryz.checked os 5 .any ((Rows.OpenSpec.upto Rows.polyOwnSpec).pre6 enc Go.Proofs.Tryz.prog Go.Proofs.Tryz.f5 Rows.polyOwnUptoRow.domain false) (((Rows.OpenSpec.upto Rows.polyOwnSpec).at F).post enc Go.Proofs.Tryz.prog Go.Proofs.Tryz.f5 false true false false) := by
  refine returnsInHanded_of_cond (C := Go.Proofs.Tryz.checked) (s := Rows.OpenSpec.upto Rows.polyOwnSpec) (k := Rows.uptoSmall) rfl ownKnob_none started (by kernel_rfl) Go.Proofs.Tryz.func5
    (OpenSpec.witness (enc := enc) (C := Go.Proofs.Tryz.checked) (s := Rows.OpenSpec.upto Rows.polyOwnSpec) (k := Rows.uptoSmall) rfl false ⟨#[], #[.slice none 0 0, .string ⟨#[]⟩], []⟩ 8 (by kernel_rfl) (by kernel_rfl) (by kernel_rfl)
      (x := ([.nil, .lit (.string [])], [], [])) (by kernel_rfl) rfl (by kernel_rfl)) ?_
  intro W base args ds gs before hval hW _ hk _
  exact contract H enc W base args ds gs before hval hW hk
theorem polyOwn_holds : Rows.PolyOwnUptoSaid :=
  OpenClaim.holds_of_cond 5 Go.Proofs.Tryz.f5 rfl rfl rfl rfl rfl rfl rfl ⟨rfl, rfl, rfl, rfl, rfl⟩ rfl rfl rfl rfl rfl (by kernel_rfl) Go.Proofs.Tryz.func5 (by kernel_rfl)
    (of_decide_eq_true (by kernel_rfl)) (by unfold Func.isWrapper; first | (rw [if_pos (by decide +kernel)]; kernel_rfl) | (rw [if_neg (by decide +kernel)]; exact ⟨rfl, rfl⟩))
    (fun os started H enc _ F => lifted os started H enc F)
#print axioms polyOwn_holds
end Go.Proofs.YtbingbjhgoanoaaGreat
