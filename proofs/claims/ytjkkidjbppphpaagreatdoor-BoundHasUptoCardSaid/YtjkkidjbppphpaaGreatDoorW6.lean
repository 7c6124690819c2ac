/- rat: the operations. -/
import Derived.Test.YtjkkidjbppphpaaGreatDoorW5
import Derived.Test.YtjkkidjbppphpaaGreatDoorR3
import Derived.Test.YtjkkidjbppphpaaGreatDoorLib2
set_option linter.unusedVariables false
set_option linter.unusedSimpArgs false
set_option maxRecDepth 100000
set_option linter.unusedVariables false
set_option linter.unusedSimpArgs false
namespace Go.Proofs.YtjkkidjbppphpaaGreatDoor
open Go Go.SX
theorem isRat_nil {t:TypeId} (W:PW):IsRat t W ⟨none,0,0⟩ false ⟨none,0,0⟩ 0:=⟨⟨isNat_nil W,by decide⟩,isNat_nil W⟩
theorem dn_zero_iff {q:Rat} :dn q=0↔q.den=1:=by
 unfold dn
 have:=q.den_pos
 split
 ·simp[*]
 ·omega
theorem dn_of_ne {q:Rat} (h:dn q≠0):dn q=q.den:=by
 unfold dn at *
 split
 ·rename_i h1;rw[if_pos h1] at h;exact absurd rfl h
 ·rfl
theorem ratden_ok {W0:PW} {M:Nat→Prop} {s t:Sl} {b:Bool} {q:Rat} {k:Nat} (h:IsRat 284 W0 s b t q) (hq:Sz k q) (hk:k≤34359738368):
  PCallsM Go.Proofs.Tryz.prog 126 [.agg #[s.v,.bool b,t.v]] W0 M fun v W'=>∃(s':Sl),v = .agg #[Sl.v s']∧IsNat 284 W' s' q.den:=by
 apply callrat_Rat_den
 have hd:=hq.dn
 refine natBits_call h.2 (by omega) fun W2 hE2 _=>⟨_,rfl,fun h0=>?_,fun h0 W8 hE8=>⟨t,rfl,?_⟩⟩
 ·have h1:q.den=1:=dn_zero_iff.1 (blen_eq_zero.1 (by omega))
  refine natOf_call (x:=1) (by decide) fun s6 W5 hE5 h6=>⟨s6,rfl,fun W7 hE7=>⟨s6,rfl,?_⟩⟩
  rw[h1]
  exact h6.ext hE7
 ·have h1:dn q≠0:=fun e=>h0 (by rw[e];rfl)
  rw[←dn_of_ne h1]
  exact(h.2.ext hE2).ext hE8
theorem ratden_call {W0 W:PW} {M:Nat→Prop} {s t:Sl} {b:Bool} {q:Rat} {k:Nat} {K:Value→PW→Prop} (h:IsRat 284 W s b t q) (hq:Sz k q) (hk:k≤34359738368) (kont: ∀(s':Sl) (W':PW),Ext W W'→(IsNat 284 W' s' q.den)→K (.agg #[Sl.v s']) W'):
  callN Go.Proofs.Tryz.prog W0 M 126 [.agg #[s.v,.bool b,t.v]] W K:=
 callN_of (fun W' hE=>ratden_ok (M:=fun _=>False) (h.ext hE) hq hk) (fun W' v W'' hE hE' hP=>by
  obtain⟨s',rfl,h⟩:=hP
  exact kont s' W'' (hE.trans hE') h)
theorem ratDen_ok {W0:PW} {M:Nat→Prop} {s t:Sl} {b:Bool} {q:Rat} {k:Nat} (h:IsRat 284 W0 s b t q) (hq:Sz k q) (hk:k≤34359738368):
  PCallsM Go.Proofs.Tryz.prog 186 [.agg #[s.v,.bool b,t.v]] W0 M fun v W'=>∃(s':Sl),∃(b':Bool),v = .agg #[Sl.v s',.bool b']∧IsInt 284 W' s' b' (q.den:Int):=by
 apply callrat_Rat_Den
 refine ratden_call h hq hk fun s3 W2 hE2 h3=>⟨s3,rfl,?_⟩
 have:=hq.2
 refine wholeFrom_call h3 (by omega) fun s6 b7 W5 hE5 h6=>⟨s6,b7,rfl,fun W8 hE8=>⟨s6,b7,rfl,?_⟩⟩
 rw[if_neg (by decide)] at h6
 exact h6.ext hE8
theorem ratDen_call {W0 W:PW} {M:Nat→Prop} {s t:Sl} {b:Bool} {q:Rat} {k:Nat} {K:Value→PW→Prop} (h:IsRat 284 W s b t q) (hq:Sz k q) (hk:k≤34359738368) (kont: ∀(s':Sl) (b':Bool) (W':PW),Ext W W'→(IsInt 284 W' s' b' (q.den:Int))→K (.agg #[Sl.v s',.bool b']) W'):
  callN Go.Proofs.Tryz.prog W0 M 186 [.agg #[s.v,.bool b,t.v]] W K:=
 callN_of (fun W' hE=>ratDen_ok (M:=fun _=>False) (h.ext hE) hq hk) (fun W' v W'' hE hE' hP=>by
  obtain⟨s',b',rfl,h⟩:=hP
  exact kont s' b' W'' (hE.trans hE') h)
theorem ratscaled_ok {W0:PW} {M:Nat→Prop} {s t s' t':Sl} {b b':Bool} {p q:Rat} {k l:Nat} (h1:IsRat 284 W0 s b t p) (h2:IsRat 284 W0 s' b' t' q) (hp:Sz k p) (hq:Sz l q) (hk:k≤34359738368) (hl:l≤34359738368):
  PCallsM Go.Proofs.Tryz.prog 121 [.agg #[s.v,.bool b,t.v],.agg #[s'.v,.bool b',t'.v]] W0 M fun v W'=>∃(r:Sl),∃(c:Bool),v = .agg #[Sl.v r,.bool c]∧IsInt 284 W' r c (p.num*(q.den:Int)):=by
 apply callrat_scaled
 have hd:=hq.dn
 have hp1:=hp.1
 have hq2:=hq.2
 refine natBits_call h2.2 (by omega) fun W2 hE2 _=>⟨_,rfl,fun h0 W4 hE4=>⟨s,b,rfl,?_⟩,fun h0=>?_⟩
 ·have h1':q.den=1:=dn_zero_iff.1 (blen_eq_zero.1 (by omega))
  rw[h1',Int.natCast_one,Int.mul_one]
  exact(h1.1.ext hE2).ext hE4
 ·refine ratDen_call (h2.ext hE2) hq hl fun s7 b8 W6 hE6 h7=>⟨s7,b8,rfl,?_⟩
  refine wholeMul_call ((h1.1.ext hE2).ext hE6) h7 (by omega) (by rw[Int.natAbs_natCast];omega) fun s11 b12 W10 hE10 h11=>⟨s11,b12,rfl,fun W13 hE13=>⟨s11,b12,rfl,h11.ext hE13⟩⟩
theorem ratscaled_call {W0 W:PW} {M:Nat→Prop} {s t s' t':Sl} {b b':Bool} {p q:Rat} {k l:Nat} {K:Value→PW→Prop} (h1:IsRat 284 W s b t p) (h2:IsRat 284 W s' b' t' q) (hp:Sz k p) (hq:Sz l q) (hk:k≤34359738368) (hl:l≤34359738368) (kont: ∀(r:Sl) (c:Bool) (W':PW),Ext W W'→(IsInt 284 W' r c (p.num*(q.den:Int)))→K (.agg #[Sl.v r,.bool c]) W'):
  callN Go.Proofs.Tryz.prog W0 M 121 [.agg #[s.v,.bool b,t.v],.agg #[s'.v,.bool b',t'.v]] W K:=
 callN_of (fun W' hE=>ratscaled_ok (M:=fun _=>False) (h1.ext hE) (h2.ext hE) hp hq hk hl) (fun W' v W'' hE hE' hP=>by
  obtain⟨r,c,rfl,h⟩:=hP
  exact kont r c W'' (hE.trans hE') h)
theorem scaled_size {p q:Rat} {k l:Nat} (hp:Sz k p) (hq:Sz l q):nl (p.num*(q.den:Int)).natAbs≤k+l:=by
 rw[Int.natAbs_mul,Int.natAbs_natCast]
 have:=nl_mul p.num.natAbs q.den
 have h1:=hp.1
 have h2:=hq.2
 omega
theorem ratCmp_ok {W0:PW} {M:Nat→Prop} {s t s' t':Sl} {b b':Bool} {p q:Rat} {k l:Nat} (h1:IsRat 284 W0 s b t p) (h2:IsRat 284 W0 s' b' t' q) (hp:Sz k p) (hq:Sz l q) (hk:k≤34359738368) (hl:l≤34359738368):
  PCallsM Go.Proofs.Tryz.prog 47 [.agg #[s.v,.bool b,t.v],.agg #[s'.v,.bool b',t'.v]] W0 M fun v W'=>v = .int .i64 (cmpQ p q)∧True:=by
 apply callrat_Cmp
 have e1:=scaled_size hp hq
 have e2:=scaled_size hq hp
 refine ratscaled_call h1 h2 hp hq hk hl fun s3 b4 W2 hE2 h3=>⟨s3,b4,rfl,?_⟩
 refine ratscaled_call (h2.ext hE2) (h1.ext hE2) hq hp hl hk fun s7 b8 W6 hE6 h7=>⟨s7,b8,rfl,?_⟩
 refine wholeCmp_call (h3.ext hE6) h7 (by omega) (by omega) fun W10 hE10 _=>⟨_,rfl,fun W12 hE12=>⟨?_,trivial⟩⟩
 rw[cmpQ_of]
theorem ratCmp_call {W0 W:PW} {M:Nat→Prop} {s t s' t':Sl} {b b':Bool} {p q:Rat} {k l:Nat} {K:Value→PW→Prop} (h1:IsRat 284 W s b t p) (h2:IsRat 284 W s' b' t' q) (hp:Sz k p) (hq:Sz l q) (hk:k≤34359738368) (hl:l≤34359738368) (kont: ∀(W':PW),Ext W W'→(True)→K (.int .i64 (cmpQ p q)) W'):
  callN Go.Proofs.Tryz.prog W0 M 47 [.agg #[s.v,.bool b,t.v],.agg #[s'.v,.bool b',t'.v]] W K:=
 callN_of (fun W' hE=>ratCmp_ok (M:=fun _=>False) (h1.ext hE) (h2.ext hE) hp hq hk hl) (fun W' v W'' hE hE' hP=>by
  obtain⟨rfl,h⟩:=hP
  exact kont W'' (hE.trans hE') h)
theorem ratNeg_ok {W0:PW} {M:Nat→Prop} {s t:Sl} {b:Bool} {q:Rat} {k:Nat} (h:IsRat 284 W0 s b t q) (hq:Sz k q) (hk:k≤34359738368):
  PCallsM Go.Proofs.Tryz.prog 230 [.agg #[s.v,.bool b,t.v]] W0 M fun v W'=>∃(s':Sl),∃(b':Bool),∃(t':Sl),v = .agg #[Sl.v s',.bool b',Sl.v t']∧IsRat 284 W' s' b' t' (-q):=by
 apply callrat_Neg
 have:=hq.1
 refine wholeNeg_call h.1 (by omega) fun s3 b4 W2 hE2 h3=>⟨s3,b4,rfl,fun W5 hE5=>⟨s3,b4,t,rfl,?_,?_⟩⟩
 ·exact h3.ext hE5
 ·exact(h.2.ext hE2).ext hE5
theorem ratNeg_call {W0 W:PW} {M:Nat→Prop} {s t:Sl} {b:Bool} {q:Rat} {k:Nat} {K:Value→PW→Prop} (h:IsRat 284 W s b t q) (hq:Sz k q) (hk:k≤34359738368) (kont: ∀(s':Sl) (b':Bool) (t':Sl) (W':PW),Ext W W'→(IsRat 284 W' s' b' t' (-q))→K (.agg #[Sl.v s',.bool b',Sl.v t']) W'):
  callN Go.Proofs.Tryz.prog W0 M 230 [.agg #[s.v,.bool b,t.v]] W K:=
 callN_of (fun W' hE=>ratNeg_ok (M:=fun _=>False) (h.ext hE) hq hk) (fun W' v W'' hE hE' hP=>by
  obtain⟨s',b',t',rfl,h⟩:=hP
  exact kont s' b' t' W'' (hE.trans hE') h)
theorem add_same {p q:Rat} (h:p.den=q.den):mkRat (p.num+q.num) p.den=p+q:=by
 rw[Rat.add_def',←h,←Int.add_mul]
 exact(Rat.mkRat_mul_right p.den_nz).symm
theorem dn_inj {p q:Rat} (h:dn p=dn q):p.den=q.den:=by
 rw[←dn_max p,←dn_max q,h]
theorem ratAdd_ok {W0:PW} {M:Nat→Prop} {s t s' t':Sl} {b b':Bool} {p q:Rat} {k l:Nat} (h1:IsRat 284 W0 s b t p) (h2:IsRat 284 W0 s' b' t' q) (hp:Sz k p) (hq:Sz l q) (hk:k≤8589934592) (hl:l≤8589934592):
  PCallsM Go.Proofs.Tryz.prog 48 [.agg #[s.v,.bool b,t.v],.agg #[s'.v,.bool b',t'.v]] W0 M fun v W'=>∃(r:Sl),∃(c:Bool),∃(u:Sl),v = .agg #[Sl.v r,.bool c,Sl.v u]∧IsRat 284 W' r c u (p+q):=by
 apply callrat_Add
 have d1:=hp.dn
 have d2:=hq.dn
 have n1:=hp.1
 have n2:=hq.1
 have n3:=hp.2
 have n4:=hq.2
 refine natCmp_call h1.2 h2.2 (by omega) (by omega) fun W2 hE2 _=>⟨_,rfl,fun h0=>?_,fun h0=>?_⟩
 ·have hd:dn p=dn q:=by
   rcases Nat.lt_trichotomy (dn p) (dn q) with h | h | h
   ·rw[cmpN_lt h] at h0;omega
   ·exact h
   ·rw[cmpN_gt h] at h0;omega
  have hs:nl (p.num+q.num).natAbs≤max (nl p.num.natAbs) (nl q.num.natAbs)+1:=Nat.le_trans (nl_mono (Int.natAbs_add_le _ _)) (nl_add _ _)
  refine wholeAdd_call (h1.1.ext hE2) (h2.1.ext hE2) (by omega) (by omega) fun s6 b7 W5 hE5 h6=>⟨s6,b7,rfl,?_⟩
  refine ratLeast_call h6 ((h1.2.ext hE2).ext hE5) (by omega) (by omega) fun s10 b11 s12 W9 hE9 h10=>⟨s10,b11,s12,rfl,fun W13 hE13=>⟨s10,b11,s12,rfl,?_⟩⟩
  rw[dn_max,add_same (dn_inj hd)] at h10
  exact h10.ext hE13
 ·have e1:=scaled_size hp hq
  have e2:=scaled_size hq hp
  have hs:nl (p.num*(q.den:Int)+q.num*(p.den:Int)).natAbs≤max (nl (p.num*(q.den:Int)).natAbs) (nl (q.num*(p.den:Int)).natAbs)+1:=Nat.le_trans (nl_mono (Int.natAbs_add_le _ _)) (nl_add _ _)
  have hm:=nl_mul p.den q.den
  refine ratscaled_call (h1.ext hE2) (h2.ext hE2) hp hq (by omega) (by omega) fun s16 b17 W15 hE15 h16=>⟨s16,b17,rfl,?_⟩
  refine ratscaled_call ((h2.ext hE2).ext hE15) ((h1.ext hE2).ext hE15) hq hp (by omega) (by omega) fun s20 b21 W19 hE19 h20=>⟨s20,b21,rfl,?_⟩
  refine wholeAdd_call (h16.ext hE19) h20 (by omega) (by omega) fun s24 b25 W23 hE23 h24=>⟨s24,b25,rfl,?_⟩
  have hEa:=((hE2.trans hE15).trans hE19).trans hE23
  refine ratden_call (h1.ext hEa) hp (by omega) fun s28 W27 hE27 h28=>⟨s28,rfl,?_⟩
  refine ratden_call ((h2.ext hEa).ext hE27) hq (by omega) fun s31 W30 hE30 h31=>⟨s31,rfl,?_⟩
  refine natMul_call (h28.ext hE30) h31 (by omega) (by omega) fun s34 W33 hE33 h34=>⟨s34,rfl,?_⟩
  refine ratLeast_call (((h24.ext hE27).ext hE30).ext hE33) h34 (by omega) (by omega) fun s37 b38 s39 W36 hE36 h37=>⟨s37,b38,s39,rfl,fun W40 hE40=>⟨s37,b38,s39,rfl,?_⟩⟩
  have hpos:1≤p.den*q.den:=Nat.mul_pos p.den_pos q.den_pos
  rw[Nat.max_eq_left hpos,←Rat.add_def'] at h37
  exact h37.ext hE40
theorem ratAdd_call {W0 W:PW} {M:Nat→Prop} {s t s' t':Sl} {b b':Bool} {p q:Rat} {k l:Nat} {K:Value→PW→Prop} (h1:IsRat 284 W s b t p) (h2:IsRat 284 W s' b' t' q) (hp:Sz k p) (hq:Sz l q) (hk:k≤8589934592) (hl:l≤8589934592) (kont: ∀(r:Sl) (c:Bool) (u:Sl) (W':PW),Ext W W'→(IsRat 284 W' r c u (p+q))→K (.agg #[Sl.v r,.bool c,Sl.v u]) W'):
  callN Go.Proofs.Tryz.prog W0 M 48 [.agg #[s.v,.bool b,t.v],.agg #[s'.v,.bool b',t'.v]] W K:=
 callN_of (fun W' hE=>ratAdd_ok (M:=fun _=>False) (h1.ext hE) (h2.ext hE) hp hq hk hl) (fun W' v W'' hE hE' hP=>by
  obtain⟨r,c,u,rfl,h⟩:=hP
  exact kont r c u W'' (hE.trans hE') h)
theorem ratSub_ok {W0:PW} {M:Nat→Prop} {s t s' t':Sl} {b b':Bool} {p q:Rat} {k l:Nat} (h1:IsRat 284 W0 s b t p) (h2:IsRat 284 W0 s' b' t' q) (hp:Sz k p) (hq:Sz l q) (hk:k≤8589934592) (hl:l≤8589934592):
  PCallsM Go.Proofs.Tryz.prog 184 [.agg #[s.v,.bool b,t.v],.agg #[s'.v,.bool b',t'.v]] W0 M fun v W'=>∃(r:Sl),∃(c:Bool),∃(u:Sl),v = .agg #[Sl.v r,.bool c,Sl.v u]∧IsRat 284 W' r c u (p-q):=by
 apply callrat_Sub
 refine ratNeg_call h2 hq (by omega) fun s3 b4 s5 W2 hE2 h3=>⟨s3,b4,s5,rfl,?_⟩
 refine ratAdd_call (h1.ext hE2) h3 hp hq.neg hk hl fun s8 b9 s10 W7 hE7 h8=>⟨s8,b9,s10,rfl,fun W11 hE11=>⟨s8,b9,s10,rfl,?_⟩⟩
 rw[Rat.sub_eq_add_neg]
 exact h8.ext hE11
theorem ratSub_call {W0 W:PW} {M:Nat→Prop} {s t s' t':Sl} {b b':Bool} {p q:Rat} {k l:Nat} {K:Value→PW→Prop} (h1:IsRat 284 W s b t p) (h2:IsRat 284 W s' b' t' q) (hp:Sz k p) (hq:Sz l q) (hk:k≤8589934592) (hl:l≤8589934592) (kont: ∀(r:Sl) (c:Bool) (u:Sl) (W':PW),Ext W W'→(IsRat 284 W' r c u (p-q))→K (.agg #[Sl.v r,.bool c,Sl.v u]) W'):
  callN Go.Proofs.Tryz.prog W0 M 184 [.agg #[s.v,.bool b,t.v],.agg #[s'.v,.bool b',t'.v]] W K:=
 callN_of (fun W' hE=>ratSub_ok (M:=fun _=>False) (h1.ext hE) (h2.ext hE) hp hq hk hl) (fun W' v W'' hE hE' hP=>by
  obtain⟨r,c,u,rfl,h⟩:=hP
  exact kont r c u W'' (hE.trans hE') h)
theorem ratMul_ok {W0:PW} {M:Nat→Prop} {s t s' t':Sl} {b b':Bool} {p q:Rat} {k l:Nat} (h1:IsRat 284 W0 s b t p) (h2:IsRat 284 W0 s' b' t' q) (hp:Sz k p) (hq:Sz l q) (hk:k≤8589934592) (hl:l≤8589934592):
  PCallsM Go.Proofs.Tryz.prog 96 [.agg #[s.v,.bool b,t.v],.agg #[s'.v,.bool b',t'.v]] W0 M fun v W'=>∃(r:Sl),∃(c:Bool),∃(u:Sl),v = .agg #[Sl.v r,.bool c,Sl.v u]∧IsRat 284 W' r c u (p*q):=by
 apply callrat_Mul
 have n1:=hp.1
 have n2:=hq.1
 have n3:=hp.2
 have n4:=hq.2
 have hm1:nl (p.num*q.num).natAbs≤nl p.num.natAbs+nl q.num.natAbs:=by rw[Int.natAbs_mul];exact nl_mul _ _
 have hm:=nl_mul p.den q.den
 refine wholeMul_call h1.1 h2.1 (by omega) (by omega) fun s3 b4 W2 hE2 h3=>⟨s3,b4,rfl,?_⟩
 refine ratden_call (h1.ext hE2) hp (by omega) fun s7 W6 hE6 h7=>⟨s7,rfl,?_⟩
 refine ratden_call ((h2.ext hE2).ext hE6) hq (by omega) fun s10 W9 hE9 h10=>⟨s10,rfl,?_⟩
 refine natMul_call (h7.ext hE9) h10 (by omega) (by omega) fun s13 W12 hE12 h13=>⟨s13,rfl,?_⟩
 refine ratLeast_call (((h3.ext hE6).ext hE9).ext hE12) h13 (by omega) (by omega) fun s16 b17 s18 W15 hE15 h16=>⟨s16,b17,s18,rfl,fun W19 hE19=>⟨s16,b17,s18,rfl,?_⟩⟩
 have hpos:1≤p.den*q.den:=Nat.mul_pos p.den_pos q.den_pos
 rw[Nat.max_eq_left hpos,←Rat.mul_def'] at h16
 exact h16.ext hE19
theorem ratMul_call {W0 W:PW} {M:Nat→Prop} {s t s' t':Sl} {b b':Bool} {p q:Rat} {k l:Nat} {K:Value→PW→Prop} (h1:IsRat 284 W s b t p) (h2:IsRat 284 W s' b' t' q) (hp:Sz k p) (hq:Sz l q) (hk:k≤8589934592) (hl:l≤8589934592) (kont: ∀(r:Sl) (c:Bool) (u:Sl) (W':PW),Ext W W'→(IsRat 284 W' r c u (p*q))→K (.agg #[Sl.v r,.bool c,Sl.v u]) W'):
  callN Go.Proofs.Tryz.prog W0 M 96 [.agg #[s.v,.bool b,t.v],.agg #[s'.v,.bool b',t'.v]] W K:=
 callN_of (fun W' hE=>ratMul_ok (M:=fun _=>False) (h1.ext hE) (h2.ext hE) hp hq hk hl) (fun W' v W'' hE hE' hP=>by
  obtain⟨r,c,u,rfl,h⟩:=hP
  exact kont r c u W'' (hE.trans hE') h)
theorem ratSign_ok {W0:PW} {M:Nat→Prop} {s t:Sl} {b:Bool} {q:Rat} {k:Nat} (h:IsRat 284 W0 s b t q) (hq:Sz k q) (hk:k≤34359738368):
  PCallsM Go.Proofs.Tryz.prog 40 [.agg #[s.v,.bool b,t.v]] W0 M fun v W'=>v = .int .i64 (cmpQ q 0)∧True:=by
 apply callrat_Rat_Sign
 have:=hq.1
 refine wholeSign_call h.1 (by omega) fun W2 hE2 _=>⟨_,rfl,fun W4 hE4=>⟨?_,trivial⟩⟩
 rw[sgnI_num]
theorem ratSign_call {W0 W:PW} {M:Nat→Prop} {s t:Sl} {b:Bool} {q:Rat} {k:Nat} {K:Value→PW→Prop} (h:IsRat 284 W s b t q) (hq:Sz k q) (hk:k≤34359738368) (kont: ∀(W':PW),Ext W W'→(True)→K (.int .i64 (cmpQ q 0)) W'):
  callN Go.Proofs.Tryz.prog W0 M 40 [.agg #[s.v,.bool b,t.v]] W K:=
 callN_of (fun W' hE=>ratSign_ok (M:=fun _=>False) (h.ext hE) hq hk) (fun W' v W'' hE hE' hP=>by
  obtain⟨rfl,h⟩:=hP
  exact kont W'' (hE.trans hE') h)
theorem inv_mk {q:Rat} (h:q≠0):mkRat (if decide (cmpQ q 0<0)=true then -(q.den:Int) else(q.den:Int)) (max q.num.natAbs 1)=q⁻¹:=by
 have hn:q.num≠0:=fun e=>h (Rat.num_eq_zero.1 e)
 have hpos:1≤q.num.natAbs:=by omega
 rw[Nat.max_eq_left hpos,Rat.inv_def,←sgnI_num]
 by_cases hneg:q.num<0
 ·have e1:sgnI q.num<0:=by simp[sgnI,hneg]
  rw[if_pos (decide_eq_true e1),←Rat.divInt_ofNat,show((q.num.natAbs:Nat):Int) = -q.num by omega,Rat.neg_divInt_neg]
 ·have e1:¬sgnI q.num<0:=by simp[sgnI,hneg,hn]
  rw[if_neg (by rw[decide_eq_false e1];decide),←Rat.divInt_ofNat,show((q.num.natAbs:Nat):Int)=q.num by omega]
theorem ratDiv_ok {W0:PW} {M:Nat→Prop} {s t s' t':Sl} {b b':Bool} {p q:Rat} {k l:Nat} (h1:IsRat 284 W0 s b t p) (h2:IsRat 284 W0 s' b' t' q) (hp:Sz k p) (hq:Sz l q) (hk:k≤8589934592) (hl:l≤8589934592) (hl1:1≤l):
  PCallsM Go.Proofs.Tryz.prog 108 [.agg #[s.v,.bool b,t.v],.agg #[s'.v,.bool b',t'.v]] W0 M fun v W'=>∃(r:Sl),∃(c:Bool),∃(u:Sl),v = .tuple #[.agg #[Sl.v r,.bool c,Sl.v u],.bool (decide (q≠0))]∧IsRat 284 W' r c u (p/q):=by
 apply callrat_Div
 have n2:=hq.1
 have n4:=hq.2
 refine ratSign_call h2 hq (by omega) fun W2 hE2 _=>⟨_,rfl,fun h0 W4 hE4=>?_,fun h0=>?_⟩
 ·have hq0:q=0:=(cmpQ_zero q 0).1 h0
  refine⟨⟨none,0,0⟩,false,⟨none,0,0⟩,?_,?_⟩
  ·rw[decide_eq_false (by intro h;exact h hq0)]
  ·rw[hq0,Rat.div_def,show(0:Rat)⁻¹ = 0 from by simp[Rat.inv_def],Rat.mul_zero]
   exact isRat_nil W4
 ·have hq0:q≠0:=fun e=>h0 ((cmpQ_zero q 0).2 e)
  rw[decide_eq_true hq0]
  refine ratSign_call (h2.ext hE2) hq (by omega) fun W6 hE6 _=>⟨_,rfl,?_⟩
  refine ratden_call ((h2.ext hE2).ext hE6) hq (by omega) fun s10 W9 hE9 h10=>⟨s10,rfl,?_⟩
  refine wholeFrom_call h10 (by omega) fun s13 b14 W12 hE12 h13=>⟨s13,b14,rfl,?_⟩
  have hEa:=((hE2.trans hE6).trans hE9).trans hE12
  refine wholeAbs_call (h2.1.ext hEa) fun s17 W16 hE16 h17=>⟨s17,rfl,?_⟩
  have hsz:nl (if decide (cmpQ q 0<0)=true then -(q.den:Int) else(q.den:Int)).natAbs≤l:=by
   split
   ·rw[Int.natAbs_neg,Int.natAbs_natCast];exact n4
   ·rw[Int.natAbs_natCast];exact n4
  refine ratLeast_call (h13.ext hE16) h17 (by omega) (by omega) fun s20 b21 s22 W19 hE19 h20=>⟨s20,b21,s22,rfl,?_⟩
  rw[inv_mk hq0] at h20
  refine ratMul_call ((h1.ext hEa).ext (hE16.trans hE19)) h20 hp (hq.inv hl1) hk hl fun s25 b26 s27 W24 hE24 h25=>⟨s25,b26,s27,rfl,fun W28 hE28=>⟨s25,b26,s27,rfl,?_⟩⟩
  rw[Rat.div_def]
  exact h25.ext hE28
theorem ratDiv_call {W0 W:PW} {M:Nat→Prop} {s t s' t':Sl} {b b':Bool} {p q:Rat} {k l:Nat} {K:Value→PW→Prop} (h1:IsRat 284 W s b t p) (h2:IsRat 284 W s' b' t' q) (hp:Sz k p) (hq:Sz l q) (hk:k≤8589934592) (hl:l≤8589934592) (hl1:1≤l) (kont: ∀(r:Sl) (c:Bool) (u:Sl) (W':PW),Ext W W'→(IsRat 284 W' r c u (p/q))→K (.tuple #[.agg #[Sl.v r,.bool c,Sl.v u],.bool (decide (q≠0))]) W'):
  callN Go.Proofs.Tryz.prog W0 M 108 [.agg #[s.v,.bool b,t.v],.agg #[s'.v,.bool b',t'.v]] W K:=
 callN_of (fun W' hE=>ratDiv_ok (M:=fun _=>False) (h1.ext hE) (h2.ext hE) hp hq hk hl hl1) (fun W' v W'' hE hE' hP=>by
  obtain⟨r,c,u,rfl,h⟩:=hP
  exact kont r c u W'' (hE.trans hE') h)
theorem ratOf_ok {W0:PW} {M:Nat→Prop} {z:Int} (hz:I64 z):
  PCallsM Go.Proofs.Tryz.prog 103 [.int .i64 z] W0 M fun v W'=>∃(s':Sl),∃(b':Bool),∃(t':Sl),v = .agg #[Sl.v s',.bool b',Sl.v t']∧IsRat 284 W' s' b' t' (z:Rat):=by
 apply callrat_Of
 refine wholeOf_call hz fun s3 b4 W2 hE2 h3=>⟨s3,b4,rfl,fun W5 hE5=>⟨s3,b4,⟨none,0,0⟩,rfl,?_,?_⟩⟩
 ·rw[Rat.num_intCast]
  exact h3.ext hE5
 ·have:dn (z:Rat)=0:=by unfold dn;rw[Rat.den_intCast];rfl
  rw[this]
  exact isNat_nil W5
theorem ratOf_call {W0 W:PW} {M:Nat→Prop} {z:Int} {K:Value→PW→Prop} (hz:I64 z) (kont: ∀(s':Sl) (b':Bool) (t':Sl) (W':PW),Ext W W'→(IsRat 284 W' s' b' t' (z:Rat))→K (.agg #[Sl.v s',.bool b',Sl.v t']) W'):
  callN Go.Proofs.Tryz.prog W0 M 103 [.int .i64 z] W K:=
 callN_of (fun W' hE=>ratOf_ok (M:=fun _=>False) hz) (fun W' v W'' hE hE' hP=>by
  obtain⟨s',b',t',rfl,h⟩:=hP
  exact kont s' b' t' W'' (hE.trans hE') h)
end Go.Proofs.YtjkkidjbppphpaaGreatDoor

/- Texts of numbers are read: nat.grow, nat.Parse. -/
set_option maxRecDepth 100000
set_option linter.unusedVariables false
set_option linter.unusedSimpArgs false
namespace Go.Proofs.YtjkkidjbppphpaaGreatDoor
open Go Go.SX
def growI (W0:PW) (g:Nat) (cs:Array Value) (us:List Nat) (b c0:Nat) (l:List PL) (W:PW):Prop:=
 match l with
 | [.val (.int .u64 c),.val (.int .i64 k)]=>∃(c' k':Nat) (ws:List Nat),c=(c':Int)∧k=(k':Int)∧PutAt W0 W g cs 284 0 (cv ws)∧ws.length=us.length∧Dig ws∧c'<B∧k'≤us.length∧
   val (ws.take k')+B^k'*c'=val (us.take k')*b+c0∧ws.drop k'=us.drop k'
 | _=>False
def growM (n:Nat) (l:List PL) (W:PW):Nat:=
 match l with
 | [_,.val (.int .i64 k)]=>n-k.toNat
 | _=>0
theorem carry_lt {c d b:Nat} (hc:c<B) (hd:d<B) (hb:b<B):(c+d*b)/B<B∧c+d*b<18446744073709551616:=by
 have h1:d*b≤(B-1)*(B-1):=Nat.mul_le_mul (by omega) (by omega)
 unfold B at *
 constructor<;>omega
theorem natGrow_ok {W0:PW} {s:Sl} {us:List Nat} {b c:Nat} (h:Go.SX.Own W0 284 1 s (cel us)) (hd:Dig us) (ht:Trim us) (hb:b<B) (hb0:0<b) (hc:c<B) (hl:us.length≤5000):
  PCallsM Go.Proofs.Tryz.prog 233 [s.v,.int .u32 (b:Int),.int .u32 (c:Int)] W0 (fun g=>s.v.ownBlock=some g) fun v W'=>∃s',v=Sl.v s'∧Go.SX.Own W' 284 1 s' (cel (dg (val us*b+c)))∧∀g,s'.v.ownBlock=some g→s.v.ownBlock=some g∨W0.w.heap.size≤g:=by
 apply callnat_grow
 have hB:B=4294967296:=rfl
 have hsn:=h.n
 rw[cel_length] at hsn
 have ew: ∀x:Nat,x<B→IntKind.wrap .u64 (x:Int)=(x:Int):=fun x hx=>wrap64n (by omega)
 by_cases hne:us = []
 ·subst hne
  refine⟨fun l W=>match l with | [.val (.int .u64 c'),.val (.int .i64 k)]=>Ext W0 W∧c'=(c:Int)∧k=0 | _=>False,fun _ _=>0,?_,?_⟩
  ·rw[ew c hc]
   exact⟨Ext.refl _,rfl,rfl⟩
  rintro i3 i4 W5 ⟨hE,rfl,rfl⟩
  simp at hsn
  refine⟨fun hlt=>(by omega),fun _=>⟨fun hpos=>?_,fun hz W11 hE11=>?_⟩⟩
  ·intro W' hE'
   refine⟨cel [],(h.ext hE).ext hE',fun g hg=>Or.inl hg,by simp[cel],fun s' W'' hX hO hN W10 hE10=>⟨s',rfl,?_,fun g hg=>(hN g hg).imp id fun h=>Nat.le_trans (Nat.le_trans hE.size hE'.size) h⟩⟩
   have e:dg (val []*b+c) = [c]:=by
    simp only[val,Nat.zero_mul,Nat.zero_add]
    rw[dg_pos (by omega),Nat.mod_eq_of_lt hc,Nat.div_eq_of_lt hc,dg_zero]
   rw[e]
   have:=hO.ext hE10
   rw[wrap32n,Nat.mod_eq_of_lt hc] at this
   exact this
  ·have:c=0:=by omega
   subst this
   refine⟨s,rfl,?_,fun g hg=>.inl hg⟩
   simpa[val,dg_zero] using(h.ext hE).ext hE11
 ·obtain⟨g,cs,hm,hg⟩:=h.mut hne
  have hlp:=List.length_pos_iff.2 hne
  refine⟨growI W0 g cs us b c,growM us.length,?_,?_⟩
  ·rw[ew c hc]
   exact⟨c,0,us,rfl,rfl,hm.start (Ext.refl _),rfl,hd,hc,by omega,by simp[val],rfl⟩
  rintro i3 i4 W5 ⟨c',k,ws,rfl,rfl,hp,hwl,hdw,hcc,hk,hv,hdr⟩
  have hm5:=hm.put hp hwl
  refine⟨fun hlt=>?_,fun hge=>?_⟩
  ·have hku:k<us.length:=by omega
   have hkw:k<ws.length:=by omega
   have hwk:ws[k]?=some us[k]:=by
    have:=congrArg (fun l=>l[0]?) hdr
    simpa[List.getElem?_drop,hku] using this
   have hdk:=hd.at hku
   have hcl:=carry_lt hcc hdk hb
   have hdb:us[k]*b<18446744073709551616:=by omega
   have e:IntKind.wrap .u64 ((c':Int)+IntKind.wrap .u64 (IntKind.wrap .u64 ((us[k]:Nat):Int)*IntKind.wrap .u64 (b:Int)))=((c'+us[k]*b:Nat):Int):=by
    rw[ew _ hdk,ew b hb,←Int.natCast_mul,wrap64n hdb,←Int.natCast_add,wrap64n hcl.2]
   have hin:=(hm5.row).inB (i:=(k:Int)) (by omega) (by omega)
   refine⟨hin,((us[k]:Nat):Int),(hm5.row).atq hwk,hin,?_⟩
   rw[e]
   rw[show Int.toNat (k:Int)=k from rfl,Nat.mul_one,Nat.add_zero,wrap32n]
   refine storeN_dig hm hp hwl hkw (Or.inl hg) fun W7 hp7=>⟨by unfold I64;omega,?_,?_⟩
   ·rw[ishr32]
    refine⟨_,k+1,_,rfl,by push_cast;rfl,hp7,by simpa using hwl,Dig.set hdw (Nat.mod_lt _ B_pos),hcl.1,by omega,?_,?_⟩
    ·rw[val_set_take hkw,val_take_succ hku,Nat.pow_succ]
     exact grow_step hv
    ·rw[drop_set_lt (by omega)]
     have:=congrArg (fun l=>l.drop 1) hdr
     simpa using this
   ·show us.length-Int.toNat ((k:Int)+1)<us.length-Int.toNat (k:Int)
    omega
  ·have hku:k=us.length:=by omega
   subst hku
   rw[←hwl,List.take_length,hwl,List.take_length] at hv
   have ho:=h.put hm hp hwl
   refine⟨fun hpos=>?_,fun hz W11 hE11=>?_⟩
   ·intro W' hE'
    refine⟨cel ws,ho.ext hE',fun g hg=>Or.inl hg,by rw[cel_length];simp;omega,fun s' W'' hX hO hN W10 hE10=>⟨s',rfl,?_,fun g hg=>(hN g hg).imp id fun h=>Nat.le_trans (Nat.le_trans hp.ext.size hE'.size) h⟩⟩
    have e:dg (val us*b+c)=ws ++ [c']:=by
     rw[←hv,←hwl,show val ws+B^ws.length*c'=val (ws ++ [c']) by rw[val_append];simp[val]]
     exact dg_val (hdw.append (Dig.cons hcc Dig.nil)) (trim_snoc (by omega))
    rw[e,←cel_append]
    have:=hO.ext hE10
    rw[wrap32n,Nat.mod_eq_of_lt hcc] at this
    exact this
   ·have hc0:c'=0:=by omega
    subst hc0
    rw[Nat.mul_zero,Nat.add_zero] at hv
    refine⟨s,rfl,?_,fun g hg=>.inl hg⟩
    have hwn:ws≠[]:=fun e=>by subst e;simp at hwl;omega
    have:dg (val us*b+c)=ws:=by
     rw[←hv]
     refine dg_val hdw (trim_ge hdw hwn ?_)
     rw[hv,hwl]
     have h1:=trim_le hne ht
     have h2:val us*1≤val us*b:=Nat.mul_le_mul_left _ hb0
     omega
    rw[this]
    exact ho.ext hE11
def er {α:Type} (o:Option α):Int:=if o.isSome then 0 else 2
theorem natParse_ok {W0:PW} {M:Nat→Prop} {a:ByteArray} :
  PCallsM Go.Proofs.Tryz.prog 193 [.string a] W0 M fun v W'=>∃(s':Sl),v = .tuple #[.agg #[Sl.v s'],.int .i64 (er (parseN a))]∧IsNat 284 W' s' ((parseN a).getD 0):=by
 apply callnat_Parse
 have bad:¬goodN a→∀W':PW,∃s':Sl,(Value.tuple #[.agg #[.slice none 0 0],.int .i64 2]) = .tuple #[.agg #[Sl.v s'],.int .i64 (er (parseN a))]∧IsNat 284 W' s' ((parseN a).getD 0):=by
  intro h W'
  rw[parseN_bad h]
  exact⟨⟨none,0,0⟩,rfl,isNat_nil W'⟩
 have hs0:sbyte a 0=(sb a 0:Int):=sbyte_sb a 0
 refine⟨fun l W=>match l with | [.cells [.slice _ _ _]]=>a.size≠0∧a.size≤4000∧¬(sb a 0=48∧1<a.size)∧W0.w.heap.size≤W.w.heap.size | _=>False,⟨fun h=>fun W2 _=>bad ?_ W2,fun h=>⟨fun hl=>fun W2 _=>bad ?_ W2,fun hl=>⟨?_,fun h0=>⟨fun h1 W6 _=>bad ?_ W6,fun h1=>?_⟩,fun h0=>?_⟩⟩⟩,?_⟩
 ·rintro⟨h1,_⟩
  exact size_ne.2 h1 h
 ·rintro⟨_,h1,_⟩
  omega
 ·have:=size_ne.1 h
  omega
 ·rintro⟨_,_,h2,_⟩
  exact h2 ⟨by omega,by omega⟩
 ·exact⟨size_ne.1 h,by omega,by omega,Nat.le_refl _⟩
 ·exact⟨size_ne.1 h,by omega,by omega,Nat.le_refl _⟩
 rintro s8 W9 ⟨hz,h4,h48,hw9⟩
 refine⟨fun l W=>match l with | [.val (.slice A n c),.val (.int .i64 i),.cells [.slice _ _ _]]=>(∃k:Nat,i=(k:Int)∧k≤a.size∧(∀j,j<k→48≤sb a j∧sb a j≤57)∧Go.SX.Own W 284 1 ⟨A,n,c⟩ (cel (dg (dv a k)))∧Fresh W0 ⟨A,n,c⟩∧W0.w.heap.size≤W.w.heap.size) | _=>False,
  fun l _=>match l with | [_,.val (.int .i64 i),_]=>a.size-i.toNat | _=>0,⟨0,rfl,Nat.zero_le _,fun j h=>(by omega),?_,?_,hw9⟩,?_⟩
 ·exact own_nil W9
 ·intro g hg
  simp[Sl.v,Value.ownBlock] at hg
 rintro s12 s13 i14 W15 ⟨k,rfl,hk,hdk,hO,hF,hw⟩
 have hO:Go.SX.Own W15 284 1 s13 (cel (dg (dv a k))):=hO
 have hF:Fresh W0 s13:=hF
 have hsk:sbyte a (Int.toNat (k:Int))=(sb a k:Int):=sbyte_sb a k
 refine⟨fun hlt=>⟨fun l W=>match l with | [_,_,_,_,_,.cells [.slice _ _ _]]=>Ext W15 W∧48≤sb a k∧sb a k≤57 | _=>False,⟨by omega,fun hb=>fun W17 _=>bad ?_ W17,fun hb=>⟨by omega,fun hb2 W18 _=>bad ?_ W18,fun hb2=>⟨Ext.refl _,by omega,by omega⟩⟩⟩,?_⟩,fun hge W29 hE29=>?_⟩
 ·rintro⟨_,_,_,h⟩
  have:=h k (by omega)
  omega
 ·rintro⟨_,_,_,h⟩
  have:=h k (by omega)
  omega
 ·rintro s19 t20 i21 b22 t23 i24 W25 ⟨hE25,hb1,hb2⟩
  refine⟨by omega,?_⟩
  rw[show Int.toNat (k:Int)=k from rfl,dgt hb1 hb2]
  intro W' hE'
  refine⟨_,_,natGrow_ok (b:=10) (c:=sb a k-48) ((hO.ext hE25).ext hE') (dig_dg _) (trim_dg _) (by decide) (by decide) (by unfold B;omega) (by have:=dv_nl hdk (by omega);unfold nl at this;omega),?_,?_⟩
  ·intro g hg
   have hO':=(hO.ext hE25).ext hE'
   exact⟨hO'.2 g hg,.inr (hF g hg)⟩
  ·rintro v W'' hX ⟨s',rfl,hO2,hN⟩
   rw[val_dg] at hO2
   refine⟨s',rfl,by unfold I64;omega,⟨k+1,by push_cast;rfl,by omega,?_,hO2,?_,Nat.le_trans (Nat.le_trans hw (Nat.le_trans hE25.size hE'.size)) hX.size⟩,?_⟩
   ·intro j hj
    by_cases e:j=k
    ·subst e;exact⟨hb1,hb2⟩
    ·exact hdk j (by omega)
   ·intro g hg
    rcases hN g hg with h | h
    ·exact hF g h
    ·exact Nat.le_trans (Nat.le_trans hw (Nat.le_trans hE25.size hE'.size)) h
   ·show a.size-Int.toNat ((k:Int)+1)<a.size-Int.toNat (k:Int)
    omega
 ·have hk':k=a.size:=by omega
  subst hk'
  have hg:goodN a:=⟨hz,h4,h48,hdk⟩
  rw[parseN_good hg]
  exact⟨s13,rfl,(hO.ext hE29).row⟩
theorem natParse_call {W0 W:PW} {M:Nat→Prop} {a:ByteArray} {K:Value→PW→Prop} (kont: ∀(s':Sl) (W':PW),Ext W W'→(IsNat 284 W' s' ((parseN a).getD 0))→K (.tuple #[.agg #[Sl.v s'],.int .i64 (er (parseN a))]) W'):
  callN Go.Proofs.Tryz.prog W0 M 193 [.string a] W K:=
 callN_of (fun W' hE=>natParse_ok (M:=fun _=>False) ) (fun W' v W'' hE hE' hP=>by
  obtain⟨s',rfl,h⟩:=hP
  exact kont s' W'' (hE.trans hE') h)
end Go.Proofs.YtjkkidjbppphpaaGreatDoor
