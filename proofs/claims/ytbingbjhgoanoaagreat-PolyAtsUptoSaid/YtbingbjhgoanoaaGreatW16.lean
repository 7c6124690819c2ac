/- cincturelaw8.PolyAts; an argument that is three texts, opened. -/
import Derived.Test.YtbingbjhgoanoaaGreatW15
import Derived.Test.YtbingbjhgoanoaaGreatW14
set_option linter.unusedVariables false
set_option linter.unusedSimpArgs false
set_option maxRecDepth 100000
set_option linter.unusedVariables false
set_option linter.unusedSimpArgs false
namespace Go.Proofs.YtbingbjhgoanoaaGreat
open Go Go.SX
theorem polyAts_ok {W0 : PW} {M : Nat → Prop} {s : Sl} {L : List (Mon × ByteArray)} {a b c : ByteArray} (h1 : IsAPoly W0 s L) (l1 : L.length ≤ 1099511627776) (z1 : ∀ t ∈ L, t.2.size ≤ 1099511627776) (ha : a.size ≤ 1099511627776) (hb : b.size ≤ 1099511627776) (hc : c.size ≤ 1099511627776) :
    PCallsM Go.Proofs.Tryz.prog 10 [s.v, .agg ⟨[.string a, .string b, .string c]⟩] W0 M fun v W' => v = .bool true ∧ True := by
  apply calllaw8_PolyAts
  refine law8Of_call h1 l1 z1 fun s3 s4 b5 W2 hE2 g1 => ⟨s3, s4, b5, rfl, law8Point_call ha hb hc fun s8 b9 s10 s11 b12 s13 s14 b15 s16 b17 s18 s19 b20 s21 s22 b23 s24 s25 b26 W7 hE7 g2 => ⟨s8, b9, s10, s11, b12, s13, s14, b15, s16, b17, s18, s19, b20, s21, s22, b23, s24, s25, b26, rfl, fun _ => law8alive_call fun W28 _ _ => ⟨true, rfl, fun W30 _ => ⟨rfl, trivial⟩⟩, fun hb5 => ⟨fun _ => law8alive_call fun W28 _ _ => ⟨true, rfl, fun W30 _ => ⟨rfl, trivial⟩⟩, fun hb26 => law8alive_call fun W36 hE36 _ => ⟨true, rfl, fun e => (by cases e), fun _ => ?_⟩⟩⟩⟩
  obtain ⟨p, op, p1, p2⟩ := g1 (by simpa using hb5)
  obtain ⟨u, hu, ⟨c0, c1, c2⟩, ⟨d0, d1, d2⟩⟩ := g2 (by simpa using hb26)
  have lp := op.len
  have hE := hE7.trans hE36
  have q1 := p1.ext hE
  have q2 := p2.ext hE
  have hsz := atQ_sz (u := u) op.1.sz hu (e := 255) (fun t ht i => eget_le (p1.ok t ht) i)
  have m1 := Nat.mul_le_mul_right (4000 + 3 * (3 * 255 + 1) + 1) lp
  refine polyAt_call q1 (c0.ext hE36) (c1.ext hE36) (c2.ext hE36) op.1.sz hu (by omega) (by omega) (by omega) fun s44 b45 s46 W43 hE43 r1 => ⟨s44, b45, s46, rfl, ?_⟩
  refine refAt_call (q2.ext hE43) (d0.ext (hE36.trans hE43)) (d1.ext (hE36.trans hE43)) (d2.ext (hE36.trans hE43)) op.1.sz hu (by omega) (by omega) (by omega) fun b49 s50 s51 W48 hE48 r2 => ⟨b49, s50, s51, rfl, ?_⟩
  exact law3Is_call (r1.ext hE48) r2 hsz hsz (by omega) fun W53 hE53 _ => ⟨_, rfl, fun W55 _ => ⟨by rw [decide_eq_true rfl], trivial⟩⟩
theorem polyAts_call {W0 W : PW} {M : Nat → Prop} {s : Sl} {L : List (Mon × ByteArray)} {a b c : ByteArray} {K : Value → PW → Prop} (h1 : IsAPoly W s L) (l1 : L.length ≤ 1099511627776) (z1 : ∀ t ∈ L, t.2.size ≤ 1099511627776) (ha : a.size ≤ 1099511627776) (hb : b.size ≤ 1099511627776) (hc : c.size ≤ 1099511627776) (kont : ∀  (W' : PW), Ext W W' → (True) → K (.bool true) W') :
    callN Go.Proofs.Tryz.prog W0 M 10 [s.v, .agg ⟨[.string a, .string b, .string c]⟩] W K :=
  callN_of (fun W' hE => polyAts_ok (M := fun _ => False) (h1.ext hE) l1 z1 ha hb hc) (fun W' v W'' hE hE' hP => by
    obtain ⟨rfl, h⟩ := hP
    exact kont  W'' (hE.trans hE') h)
theorem three_of {r : Reach} {w : World} {base : Nat} {v : Value} (h : Value.okWide Go.Proofs.Tryz.prog w r base 89 v) : ∃ xs : Array Value, v = .agg xs ∧ xs.size = 3 := by
  simp only [Value.okWide, Go.Proofs.Tryz.underlying89] at h
  obtain ⟨cs, h1, h2, _⟩ := h
  exact ⟨cs, h1, by rw [h2]; kernel_rfl⟩
theorem open_three {H : Type} {enc : TypeId × Value → H} {W : World} {fuel : Nat} {l : List Value} {d : DataW H} {p : List MemPlace} (h : DataW.trod enc Go.Proofs.Tryz.prog W 0 (fun _ => true) true fuel 89 l = some (d, p)) (hl : l.length = 3) :
    ∃ a b c : ByteArray, l = [.string a, .string b, .string c] ∧ a.size ≤ Rows.uptoBulk d ∧ b.size ≤ Rows.uptoBulk d ∧ c.size ≤ Rows.uptoBulk d := by
  obtain ⟨zs, m, rfl, hx, _, hzl, hz⟩ := DataW.trod_array Go.Proofs.Tryz.underlying89 h
  have e0 := hz 0 (by omega)
  have e1 := hz 1 (by omega)
  have e2 := hz 2 (by omega)
  rw [cells_str] at e0 e1 e2
  match l, hl, zs, hzl with
  | [v0, v1, v2], _, [w0, w1, w2], _ =>
    have e0 : DataW.trod enc Go.Proofs.Tryz.prog W 0 (fun _ => true) true m 9 [v0] = some w0 := e0
    have e1 : DataW.trod enc Go.Proofs.Tryz.prog W 0 (fun _ => true) true m 9 [v1] = some w1 := e1
    have e2 : DataW.trod enc Go.Proofs.Tryz.prog W 0 (fun _ => true) true m 9 [v2] = some w2 := e2
    obtain ⟨s0, h0, rfl, _⟩ := DataW.trod_string Go.Proofs.Tryz.underlying9 e0
    obtain ⟨s1, h1, rfl, _⟩ := DataW.trod_string Go.Proofs.Tryz.underlying9 e1
    obtain ⟨s2, h2, rfl, _⟩ := DataW.trod_string Go.Proofs.Tryz.underlying9 e2
    have k0 : v0 = Value.string s0 := (List.cons.inj (show [v0] = [Value.string s0] from h0)).1
    have k1 : v1 = Value.string s1 := (List.cons.inj (show [v1] = [Value.string s1] from h1)).1
    have k2 : v2 = Value.string s2 := (List.cons.inj (show [v2] = [Value.string s2] from h2)).1
    subst k0 k1 k2
    simp only [Prod.mk.injEq] at hx
    obtain ⟨rfl, _⟩ := hx
    have k0 : s0.data.toList.length = s0.size := by rw [Array.length_toList]; rfl
    have k1 : s1.data.toList.length = s1.size := by rw [Array.length_toList]; rfl
    have k2 : s2.data.toList.length = s2.size := by rw [Array.length_toList]; rfl
    refine ⟨s0, s1, s2, rfl, ?_⟩
    simp only [List.map_cons, List.map_nil, Rows.uptoBulk, Rows.uptoBulkAll]
    omega
end Go.Proofs.YtbingbjhgoanoaaGreat

/- cincturelaw8.PolyAts answers true for every input whose bulk is at most 1048576 (the second form), and its arguments read behind the call as they did ahead of it. -/
set_option maxRecDepth 100000
set_option linter.unusedVariables false
set_option linter.unusedSimpArgs false
namespace Go.Proofs.YtbingbjhgoanoaaGreat
open Go Go.SX Go.ChangeShapes Go.WideShapes Go.ChangeAt Go.RowKit Go.Deep
/-- What the walk gives, for every argument within the bound. -/
theorem contract (H : Type) (enc : TypeId × Value → H) (W : World) (base : Nat) (args : Array Value) (ds gs : List (DataW H)) (before : List MemPlace)
    (hval : ∀ (j : Nat) t v, Go.Proofs.Tryz.f10.params[j]? = some t → args[j]? = some v → Value.okWide Go.Proofs.Tryz.prog W .any base t v)
    (hW : DataW.Whole enc Go.Proofs.Tryz.prog Go.Proofs.Tryz.f10.params.toList Rows.polyAtsSpec.vars false W args.toList ds gs before) (hk : Rows.uptoSmall H (ds ++ gs) = true) :
    Calls Go.Proofs.Tryz.prog 10 args W fun e W' => ∃ v, e = .returned v ∧ Rows.polyAtsSpec.post enc Go.Proofs.Tryz.prog Go.Proofs.Tryz.f10 false true false false W args v W' := by
  have hW' := hW
  obtain ⟨p, q, hA0, hV, rfl, hfz, hnd⟩ := hW
  have hA : DataW.TrodAll enc Go.Proofs.Tryz.prog W 0 (fun _ => true) true Go.Proofs.Tryz.f10.params.toList args.toList ds p := hA0
  rw [Go.Proofs.Tryz.params10] at hA hval
  obtain ⟨v0, vs0, d0, ds0, p0, q0, hargs, rfl, rfl, h0, r0⟩ := trodAll_cons hA
  obtain ⟨v1, vs1, d1, ds1, p1, q1, rfl, rfl, rfl, h1, r1⟩ := trodAll_cons r0
  obtain ⟨rfl, rfl, rfl⟩ := trodAll_nil r1
  obtain rfl : args = #[v0, v1] := by cases args; simp_all
  obtain ⟨rfl, rfl⟩ := trodVars_none hV
  obtain ⟨a0, n0, c0, rfl⟩ := okWide_slice Go.Proofs.Tryz.underlying22 (hval 0 22 v0 rfl rfl)
  obtain ⟨⟨l1⟩, rfl, hx1⟩ := three_of (hval 1 89 v1 rfl rfl)
  clear hA0
  simp only [List.append_nil] at hW' hk
  have hlt : ∀ x ∈ p0 ++ p1, x.block < W.heap.size := fun x hx => by simpa using hW'.lt x (by simpa using hx)
  have hbulk : Rows.uptoBulkAll [d0, d1] ≤ 1048576 := of_decide_eq_true hk
  simp only [Rows.uptoBulkAll] at hbulk
  have h0k := h0
  obtain ⟨fuel0, hf0⟩ := h0
  have hf0' : DataW.trod enc Go.Proofs.Tryz.prog W 0 (fun _ => true) true fuel0 22 [.slice a0 n0 c0] = some (d0, p0) := by simpa [Value.cells] using hf0
  obtain ⟨s0, L0, hs0, hL0, hb0, hc0⟩ := open_terms hf0'
  have h1k := h1
  obtain ⟨fuel1, hf1⟩ := h1
  have hf1' : DataW.trod enc Go.Proofs.Tryz.prog W 0 (fun _ => true) true fuel1 89 l1 = some (d1, p1) := by simpa [Value.cells] using hf1
  obtain ⟨xa1, xb1, xc1, rfl, hxa1, hxb1, hxc1⟩ := open_three hf1' hx1
  have hc := polyAts_ok (M := fun _ => False) (a := xa1) (b := xb1) (c := xc1) hL0 (by omega) (fun t ht => by have := hc0 t ht; omega) (by omega) (by omega) (by omega)
  have hcall := hc.2 (fun b h => h.elim)
  rw [hs0]
  refine hcall.mono fun e W' ⟨v, he, hkeep, hv, _⟩ => ⟨v, he, ?_⟩
  subst hv
  have hbel := hkeep.below
  refine ⟨[d0, d1], [], _, [], p0 ++ p1, [], (by rw [← hs0]; simpa using hW'), trodAll_mk1 (shut_bool Go.Proofs.Tryz.underlying4 _), (by rw [← hs0]; exact trodAll_mk2 (Below.trod laidOut (by kernel_rfl) (of_decide_eq_true (by kernel_rfl)) h0k hbel fun x hx => hlt x (by simp [hx])) (Below.trod laidOut (by kernel_rfl) (of_decide_eq_true (by kernel_rfl)) h1k hbel fun x hx => hlt x (by simp [hx]))), rfl, hbel.frame _, fun h => by cases h⟩
theorem lifted (os : Os) (started : os.Started) (H : Type) (enc : TypeId × Value → H) (F : Stop.Interp) :
    ReturnsInHanded {} Go.Proofs.Tryz.checked os 10 .any ((Rows.OpenSpec.upto Rows.polyAtsSpec).pre6 enc Go.Proofs.Tryz.prog Go.Proofs.Tryz.f10 Rows.polyAtsUptoRow.domain false) (((Rows.OpenSpec.upto Rows.polyAtsSpec).at F).post enc Go.Proofs.Tryz.prog Go.Proofs.Tryz.f10 false true false false) := by
  refine returnsInHanded_of_cond (C := Go.Proofs.Tryz.checked) (s := Rows.OpenSpec.upto Rows.polyAtsSpec) (k := Rows.uptoSmall) rfl ownKnob_none started (by kernel_rfl) Go.Proofs.Tryz.func10
    (OpenSpec.witness (enc := enc) (C := Go.Proofs.Tryz.checked) (s := Rows.OpenSpec.upto Rows.polyAtsSpec) (k := Rows.uptoSmall) rfl false ⟨#[], #[.slice none 0 0, .agg ⟨[.string ⟨#[]⟩, .string ⟨#[]⟩, .string ⟨#[]⟩]⟩], []⟩ 8 (by kernel_rfl) (by kernel_rfl) (by kernel_rfl)
      (x := ([.nil, .agg [.lit (.string []), .lit (.string []), .lit (.string [])]], [], [])) (by kernel_rfl) rfl (by kernel_rfl)) ?_
  intro W base args ds gs before hval hW _ hk _
  exact contract H enc W base args ds gs before hval hW hk
theorem polyAts_holds : Rows.PolyAtsUptoSaid :=
  OpenClaim.holds_of_cond 10 Go.Proofs.Tryz.f10 rfl rfl rfl rfl rfl rfl rfl ⟨rfl, rfl, rfl, rfl, rfl⟩ rfl rfl rfl rfl rfl (by kernel_rfl) Go.Proofs.Tryz.func10 (by kernel_rfl)
    (of_decide_eq_true (by kernel_rfl)) (by unfold Func.isWrapper; first | (rw [if_pos (by decide +kernel)]; kernel_rfl) | (rw [if_neg (by decide +kernel)]; exact ⟨rfl, rfl⟩))
    (fun os started H enc _ F => lifted os started H enc F)
#print axioms polyAts_holds
end Go.Proofs.YtbingbjhgoanoaaGreat
