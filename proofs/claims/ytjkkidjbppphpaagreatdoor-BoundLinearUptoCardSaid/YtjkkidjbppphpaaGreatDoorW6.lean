/- rat: the operations. -/
import Derived.Test.YtjkkidjbppphpaaGreatDoorW5
import Derived.Test.YtjkkidjbppphpaaGreatDoorR3
import Derived.Test.YtjkkidjbppphpaaGreatDoorLib2
set_option linter.unusedVariables false
set_option linter.unusedSimpArgs false
set_option maxRecDepth 100000
namespace Go.Proofs.YtjkkidjbppphpaaGreatDoor
open Go Go.SX
theorem Ef0 {t:TypeId} (W:PW):Ab3 t W ⟨none,0,0⟩ false ⟨none,0,0⟩ 0:=⟨⟨Af6 W,by decide⟩,Af6 W⟩
theorem Aq0 {q:Rat} :dn q=0↔q.den=1:=by
 unfold dn
 have:=q.den_pos
 split
 ·simp[*]
 ·omega
theorem Cl4 {q:Rat} (h:dn q≠0):dn q=q.den:=by
 unfold dn at *
 split
 ·rename_i h1;rw[if_pos h1] at h;exact absurd rfl h
 ·rfl
theorem Ef9 {W0:PW} {M:Nat→Prop} {s t:Sl} {b:Bool} {q:Rat} {k:Nat} (h:Ab3 284 W0 s b t q) (hq:Sz k q) (hk:k≤34359738368):
  Aa0 Tryz.prog 126 [.agg #[s.v,.bool b,t.v]] W0 M fun v W'=>∃(s':Sl),v = .agg #[Sl.v s']∧Aa6 284 W' s' q.den:=by
 apply Bx2
 have hd:=hq.dn
 refine Ac9 h.2 (by omega) fun W2 hE2 _=>⟨_,rfl,fun h0=>?_,fun h0 W8 hE8=>⟨t,rfl,?_⟩⟩
 ·have h1:q.den=1:=Aq0.1 (Ag3.1 (by omega))
  refine As2 (x:=1) (by decide) fun s6 W5 hE5 h6=>⟨s6,rfl,fun W7 hE7=>⟨s6,rfl,?_⟩⟩
  rw[h1]
  exact h6.ext hE7
 ·have h1:dn q≠0:=fun e=>h0 (by rw[e];rfl)
  rw[←Cl4 h1]
  exact(h.2.ext hE2).ext hE8
theorem Ap4 {W0 W:PW} {M:Nat→Prop} {s t:Sl} {b:Bool} {q:Rat} {k:Nat} {K:Value→PW→Prop} (h:Ab3 284 W s b t q) (hq:Sz k q) (hk:k≤34359738368) (kont: ∀(s':Sl) (W':PW),Ext W W'→(Aa6 284 W' s' q.den)→K (.agg #[Sl.v s']) W'):
  Aa1 Tryz.prog W0 M 126 [.agg #[s.v,.bool b,t.v]] W K:=
 Aa2 (fun W' hE=>Ef9 (M:=fun _=>False) (h.ext hE) hq hk) (fun W' v W'' hE hE' hP=>by
  obtain⟨s',rfl,h⟩:=hP
  exact kont s' W'' (hE.trans hE') h)
theorem Er9 {W0:PW} {M:Nat→Prop} {s t:Sl} {b:Bool} {q:Rat} {k:Nat} (h:Ab3 284 W0 s b t q) (hq:Sz k q) (hk:k≤34359738368):
  Aa0 Tryz.prog 186 [.agg #[s.v,.bool b,t.v]] W0 M fun v W'=>∃(s':Sl),∃(b':Bool),v = .agg #[Sl.v s',.bool b']∧Ab5 284 W' s' b' (q.den:Int):=by
 apply Bt8
 refine Ap4 h hq hk fun s3 W2 hE2 h3=>⟨s3,rfl,?_⟩
 have:=hq.2
 refine Ad6 h3 (by omega) fun s6 b7 W5 hE5 h6=>⟨s6,b7,rfl,fun W8 hE8=>⟨s6,b7,rfl,?_⟩⟩
 rw[if_neg (by decide)] at h6
 exact h6.ext hE8
theorem Bc0 {W0 W:PW} {M:Nat→Prop} {s t:Sl} {b:Bool} {q:Rat} {k:Nat} {K:Value→PW→Prop} (h:Ab3 284 W s b t q) (hq:Sz k q) (hk:k≤34359738368) (kont: ∀(s':Sl) (b':Bool) (W':PW),Ext W W'→(Ab5 284 W' s' b' (q.den:Int))→K (.agg #[Sl.v s',.bool b']) W'):
  Aa1 Tryz.prog W0 M 186 [.agg #[s.v,.bool b,t.v]] W K:=
 Aa2 (fun W' hE=>Er9 (M:=fun _=>False) (h.ext hE) hq hk) (fun W' v W'' hE hE' hP=>by
  obtain⟨s',b',rfl,h⟩:=hP
  exact kont s' b' W'' (hE.trans hE') h)
theorem Cp5 {W0:PW} {M:Nat→Prop} {s t s' t':Sl} {b b':Bool} {p q:Rat} {k l:Nat} (h1:Ab3 284 W0 s b t p) (h2:Ab3 284 W0 s' b' t' q) (hp:Sz k p) (hq:Sz l q) (hk:k≤34359738368) (hl:l≤34359738368):
  Aa0 Tryz.prog 121 [.agg #[s.v,.bool b,t.v],.agg #[s'.v,.bool b',t'.v]] W0 M fun v W'=>∃(r:Sl),∃(c:Bool),v = .agg #[Sl.v r,.bool c]∧Ab5 284 W' r c (p.num*(q.den:Int)):=by
 apply Ca1
 have hd:=hq.dn
 have hp1:=hp.1
 have hq2:=hq.2
 refine Ac9 h2.2 (by omega) fun W2 hE2 _=>⟨_,rfl,fun h0 W4 hE4=>⟨s,b,rfl,?_⟩,fun h0=>?_⟩
 ·have h1':q.den=1:=Aq0.1 (Ag3.1 (by omega))
  rw[h1',Int.natCast_one,Int.mul_one]
  exact(h1.1.ext hE2).ext hE4
 ·refine Bc0 (h2.ext hE2) hq hl fun s7 b8 W6 hE6 h7=>⟨s7,b8,rfl,?_⟩
  refine Ak0 ((h1.1.ext hE2).ext hE6) h7 (by omega) (by rw[Int.natAbs_natCast];omega) fun s11 b12 W10 hE10 h11=>⟨s11,b12,rfl,fun W13 hE13=>⟨s11,b12,rfl,h11.ext hE13⟩⟩
theorem Al8 {W0 W:PW} {M:Nat→Prop} {s t s' t':Sl} {b b':Bool} {p q:Rat} {k l:Nat} {K:Value→PW→Prop} (h1:Ab3 284 W s b t p) (h2:Ab3 284 W s' b' t' q) (hp:Sz k p) (hq:Sz l q) (hk:k≤34359738368) (hl:l≤34359738368) (kont: ∀(r:Sl) (c:Bool) (W':PW),Ext W W'→(Ab5 284 W' r c (p.num*(q.den:Int)))→K (.agg #[Sl.v r,.bool c]) W'):
  Aa1 Tryz.prog W0 M 121 [.agg #[s.v,.bool b,t.v],.agg #[s'.v,.bool b',t'.v]] W K:=
 Aa2 (fun W' hE=>Cp5 (M:=fun _=>False) (h1.ext hE) (h2.ext hE) hp hq hk hl) (fun W' v W'' hE hE' hP=>by
  obtain⟨r,c,rfl,h⟩:=hP
  exact kont r c W'' (hE.trans hE') h)
theorem Au1 {p q:Rat} {k l:Nat} (hp:Sz k p) (hq:Sz l q):nl (p.num*(q.den:Int)).natAbs≤k+l:=by
 rw[Int.natAbs_mul,Int.natAbs_natCast]
 have:=Ae5 p.num.natAbs q.den
 have h1:=hp.1
 have h2:=hq.2
 omega
theorem Em3 {W0:PW} {M:Nat→Prop} {s t s' t':Sl} {b b':Bool} {p q:Rat} {k l:Nat} (h1:Ab3 284 W0 s b t p) (h2:Ab3 284 W0 s' b' t' q) (hp:Sz k p) (hq:Sz l q) (hk:k≤34359738368) (hl:l≤34359738368):
  Aa0 Tryz.prog 47 [.agg #[s.v,.bool b,t.v],.agg #[s'.v,.bool b',t'.v]] W0 M fun v W'=>v = .int .i64 (Co4 p q)∧True:=by
 apply Dk3
 have e1:=Au1 hp hq
 have e2:=Au1 hq hp
 refine Al8 h1 h2 hp hq hk hl fun s3 b4 W2 hE2 h3=>⟨s3,b4,rfl,?_⟩
 refine Al8 (h2.ext hE2) (h1.ext hE2) hq hp hl hk fun s7 b8 W6 hE6 h7=>⟨s7,b8,rfl,?_⟩
 refine Ci7 (h3.ext hE6) h7 (by omega) (by omega) fun W10 hE10 _=>⟨_,rfl,fun W12 hE12=>⟨?_,trivial⟩⟩
 rw[Dn0]
theorem Aj2 {W0 W:PW} {M:Nat→Prop} {s t s' t':Sl} {b b':Bool} {p q:Rat} {k l:Nat} {K:Value→PW→Prop} (h1:Ab3 284 W s b t p) (h2:Ab3 284 W s' b' t' q) (hp:Sz k p) (hq:Sz l q) (hk:k≤34359738368) (hl:l≤34359738368) (kont: ∀(W':PW),Ext W W'→(True)→K (.int .i64 (Co4 p q)) W'):
  Aa1 Tryz.prog W0 M 47 [.agg #[s.v,.bool b,t.v],.agg #[s'.v,.bool b',t'.v]] W K:=
 Aa2 (fun W' hE=>Em3 (M:=fun _=>False) (h1.ext hE) (h2.ext hE) hp hq hk hl) (fun W' v W'' hE hE' hP=>by
  obtain⟨rfl,h⟩:=hP
  exact kont W'' (hE.trans hE') h)
theorem Gu6 {W0:PW} {M:Nat→Prop} {s t:Sl} {b:Bool} {q:Rat} {k:Nat} (h:Ab3 284 W0 s b t q) (hq:Sz k q) (hk:k≤34359738368):
  Aa0 Tryz.prog 230 [.agg #[s.v,.bool b,t.v]] W0 M fun v W'=>∃(s':Sl),∃(b':Bool),∃(t':Sl),v = .agg #[Sl.v s',.bool b',Sl.v t']∧Ab3 284 W' s' b' t' (-q):=by
 apply Gq7
 have:=hq.1
 refine Gl9 h.1 (by omega) fun s3 b4 W2 hE2 h3=>⟨s3,b4,rfl,fun W5 hE5=>⟨s3,b4,t,rfl,?_,?_⟩⟩
 ·exact h3.ext hE5
 ·exact(h.2.ext hE2).ext hE5
theorem Gr3 {W0 W:PW} {M:Nat→Prop} {s t:Sl} {b:Bool} {q:Rat} {k:Nat} {K:Value→PW→Prop} (h:Ab3 284 W s b t q) (hq:Sz k q) (hk:k≤34359738368) (kont: ∀(s':Sl) (b':Bool) (t':Sl) (W':PW),Ext W W'→(Ab3 284 W' s' b' t' (-q))→K (.agg #[Sl.v s',.bool b',Sl.v t']) W'):
  Aa1 Tryz.prog W0 M 230 [.agg #[s.v,.bool b,t.v]] W K:=
 Aa2 (fun W' hE=>Gu6 (M:=fun _=>False) (h.ext hE) hq hk) (fun W' v W'' hE hE' hP=>by
  obtain⟨s',b',t',rfl,h⟩:=hP
  exact kont s' b' t' W'' (hE.trans hE') h)
theorem add_same {p q:Rat} (h:p.den=q.den):mkRat (p.num+q.num) p.den=p+q:=by
 rw[Rat.add_def',←h,←Int.add_mul]
 exact(Rat.mkRat_mul_right p.den_nz).symm
theorem Fm2 {p q:Rat} (h:dn p=dn q):p.den=q.den:=by
 rw[←En9 p,←En9 q,h]
theorem Ej4 {W0:PW} {M:Nat→Prop} {s t s' t':Sl} {b b':Bool} {p q:Rat} {k l:Nat} (h1:Ab3 284 W0 s b t p) (h2:Ab3 284 W0 s' b' t' q) (hp:Sz k p) (hq:Sz l q) (hk:k≤8589934592) (hl:l≤8589934592):
  Aa0 Tryz.prog 48 [.agg #[s.v,.bool b,t.v],.agg #[s'.v,.bool b',t'.v]] W0 M fun v W'=>∃(r:Sl),∃(c:Bool),∃(u:Sl),v = .agg #[Sl.v r,.bool c,Sl.v u]∧Ab3 284 W' r c u (p+q):=by
 apply Di2
 have d1:=hp.dn
 have d2:=hq.dn
 have n1:=hp.1
 have n2:=hq.1
 have n3:=hp.2
 have n4:=hq.2
 refine Ap6 h1.2 h2.2 (by omega) (by omega) fun W2 hE2 _=>⟨_,rfl,fun h0=>?_,fun h0=>?_⟩
 ·have hd:dn p=dn q:=by
   rcases Nat.lt_trichotomy (dn p) (dn q) with h | h | h
   ·rw[Al0 h] at h0;omega
   ·exact h
   ·rw[Aj4 h] at h0;omega
  have hs:nl (p.num+q.num).natAbs≤max (nl p.num.natAbs) (nl q.num.natAbs)+1:=Nat.le_trans (Ad1 (Int.natAbs_add_le _ _)) (By9 _ _)
  refine Be4 (h1.1.ext hE2) (h2.1.ext hE2) (by omega) (by omega) fun s6 b7 W5 hE5 h6=>⟨s6,b7,rfl,?_⟩
  refine At7 h6 ((h1.2.ext hE2).ext hE5) (by omega) (by omega) fun s10 b11 s12 W9 hE9 h10=>⟨s10,b11,s12,rfl,fun W13 hE13=>⟨s10,b11,s12,rfl,?_⟩⟩
  rw[En9,add_same (Fm2 hd)] at h10
  exact h10.ext hE13
 ·have e1:=Au1 hp hq
  have e2:=Au1 hq hp
  have hs:nl (p.num*(q.den:Int)+q.num*(p.den:Int)).natAbs≤max (nl (p.num*(q.den:Int)).natAbs) (nl (q.num*(p.den:Int)).natAbs)+1:=Nat.le_trans (Ad1 (Int.natAbs_add_le _ _)) (By9 _ _)
  have hm:=Ae5 p.den q.den
  refine Al8 (h1.ext hE2) (h2.ext hE2) hp hq (by omega) (by omega) fun s16 b17 W15 hE15 h16=>⟨s16,b17,rfl,?_⟩
  refine Al8 ((h2.ext hE2).ext hE15) ((h1.ext hE2).ext hE15) hq hp (by omega) (by omega) fun s20 b21 W19 hE19 h20=>⟨s20,b21,rfl,?_⟩
  refine Be4 (h16.ext hE19) h20 (by omega) (by omega) fun s24 b25 W23 hE23 h24=>⟨s24,b25,rfl,?_⟩
  have hEa:=((hE2.trans hE15).trans hE19).trans hE23
  refine Ap4 (h1.ext hEa) hp (by omega) fun s28 W27 hE27 h28=>⟨s28,rfl,?_⟩
  refine Ap4 ((h2.ext hEa).ext hE27) hq (by omega) fun s31 W30 hE30 h31=>⟨s31,rfl,?_⟩
  refine Bb7 (h28.ext hE30) h31 (by omega) (by omega) fun s34 W33 hE33 h34=>⟨s34,rfl,?_⟩
  refine At7 (((h24.ext hE27).ext hE30).ext hE33) h34 (by omega) (by omega) fun s37 b38 s39 W36 hE36 h37=>⟨s37,b38,s39,rfl,fun W40 hE40=>⟨s37,b38,s39,rfl,?_⟩⟩
  have hpos:1≤p.den*q.den:=Nat.mul_pos p.den_pos q.den_pos
  rw[Nat.max_eq_left hpos,←Rat.add_def'] at h37
  exact h37.ext hE40
theorem At2 {W0 W:PW} {M:Nat→Prop} {s t s' t':Sl} {b b':Bool} {p q:Rat} {k l:Nat} {K:Value→PW→Prop} (h1:Ab3 284 W s b t p) (h2:Ab3 284 W s' b' t' q) (hp:Sz k p) (hq:Sz l q) (hk:k≤8589934592) (hl:l≤8589934592) (kont: ∀(r:Sl) (c:Bool) (u:Sl) (W':PW),Ext W W'→(Ab3 284 W' r c u (p+q))→K (.agg #[Sl.v r,.bool c,Sl.v u]) W'):
  Aa1 Tryz.prog W0 M 48 [.agg #[s.v,.bool b,t.v],.agg #[s'.v,.bool b',t'.v]] W K:=
 Aa2 (fun W' hE=>Ej4 (M:=fun _=>False) (h1.ext hE) (h2.ext hE) hp hq hk hl) (fun W' v W'' hE hE' hP=>by
  obtain⟨r,c,u,rfl,h⟩:=hP
  exact kont r c u W'' (hE.trans hE') h)
theorem Gv9 {W0:PW} {M:Nat→Prop} {s t s' t':Sl} {b b':Bool} {p q:Rat} {k l:Nat} (h1:Ab3 284 W0 s b t p) (h2:Ab3 284 W0 s' b' t' q) (hp:Sz k p) (hq:Sz l q) (hk:k≤8589934592) (hl:l≤8589934592):
  Aa0 Tryz.prog 184 [.agg #[s.v,.bool b,t.v],.agg #[s'.v,.bool b',t'.v]] W0 M fun v W'=>∃(r:Sl),∃(c:Bool),∃(u:Sl),v = .agg #[Sl.v r,.bool c,Sl.v u]∧Ab3 284 W' r c u (p-q):=by
 apply Gq3
 refine Gr3 h2 hq (by omega) fun s3 b4 s5 W2 hE2 h3=>⟨s3,b4,s5,rfl,?_⟩
 refine At2 (h1.ext hE2) h3 hp hq.neg hk hl fun s8 b9 s10 W7 hE7 h8=>⟨s8,b9,s10,rfl,fun W11 hE11=>⟨s8,b9,s10,rfl,?_⟩⟩
 rw[Rat.sub_eq_add_neg]
 exact h8.ext hE11
theorem Gr0 {W0 W:PW} {M:Nat→Prop} {s t s' t':Sl} {b b':Bool} {p q:Rat} {k l:Nat} {K:Value→PW→Prop} (h1:Ab3 284 W s b t p) (h2:Ab3 284 W s' b' t' q) (hp:Sz k p) (hq:Sz l q) (hk:k≤8589934592) (hl:l≤8589934592) (kont: ∀(r:Sl) (c:Bool) (u:Sl) (W':PW),Ext W W'→(Ab3 284 W' r c u (p-q))→K (.agg #[Sl.v r,.bool c,Sl.v u]) W'):
  Aa1 Tryz.prog W0 M 184 [.agg #[s.v,.bool b,t.v],.agg #[s'.v,.bool b',t'.v]] W K:=
 Aa2 (fun W' hE=>Gv9 (M:=fun _=>False) (h1.ext hE) (h2.ext hE) hp hq hk hl) (fun W' v W'' hE hE' hP=>by
  obtain⟨r,c,u,rfl,h⟩:=hP
  exact kont r c u W'' (hE.trans hE') h)
theorem En8 {W0:PW} {M:Nat→Prop} {s t s' t':Sl} {b b':Bool} {p q:Rat} {k l:Nat} (h1:Ab3 284 W0 s b t p) (h2:Ab3 284 W0 s' b' t' q) (hp:Sz k p) (hq:Sz l q) (hk:k≤8589934592) (hl:l≤8589934592):
  Aa0 Tryz.prog 96 [.agg #[s.v,.bool b,t.v],.agg #[s'.v,.bool b',t'.v]] W0 M fun v W'=>∃(r:Sl),∃(c:Bool),∃(u:Sl),v = .agg #[Sl.v r,.bool c,Sl.v u]∧Ab3 284 W' r c u (p*q):=by
 apply Df4
 have n1:=hp.1
 have n2:=hq.1
 have n3:=hp.2
 have n4:=hq.2
 have hm1:nl (p.num*q.num).natAbs≤nl p.num.natAbs+nl q.num.natAbs:=by rw[Int.natAbs_mul];exact Ae5 _ _
 have hm:=Ae5 p.den q.den
 refine Ak0 h1.1 h2.1 (by omega) (by omega) fun s3 b4 W2 hE2 h3=>⟨s3,b4,rfl,?_⟩
 refine Ap4 (h1.ext hE2) hp (by omega) fun s7 W6 hE6 h7=>⟨s7,rfl,?_⟩
 refine Ap4 ((h2.ext hE2).ext hE6) hq (by omega) fun s10 W9 hE9 h10=>⟨s10,rfl,?_⟩
 refine Bb7 (h7.ext hE9) h10 (by omega) (by omega) fun s13 W12 hE12 h13=>⟨s13,rfl,?_⟩
 refine At7 (((h3.ext hE6).ext hE9).ext hE12) h13 (by omega) (by omega) fun s16 b17 s18 W15 hE15 h16=>⟨s16,b17,s18,rfl,fun W19 hE19=>⟨s16,b17,s18,rfl,?_⟩⟩
 have hpos:1≤p.den*q.den:=Nat.mul_pos p.den_pos q.den_pos
 rw[Nat.max_eq_left hpos,←Rat.mul_def'] at h16
 exact h16.ext hE19
theorem Ak9 {W0 W:PW} {M:Nat→Prop} {s t s' t':Sl} {b b':Bool} {p q:Rat} {k l:Nat} {K:Value→PW→Prop} (h1:Ab3 284 W s b t p) (h2:Ab3 284 W s' b' t' q) (hp:Sz k p) (hq:Sz l q) (hk:k≤8589934592) (hl:l≤8589934592) (kont: ∀(r:Sl) (c:Bool) (u:Sl) (W':PW),Ext W W'→(Ab3 284 W' r c u (p*q))→K (.agg #[Sl.v r,.bool c,Sl.v u]) W'):
  Aa1 Tryz.prog W0 M 96 [.agg #[s.v,.bool b,t.v],.agg #[s'.v,.bool b',t'.v]] W K:=
 Aa2 (fun W' hE=>En8 (M:=fun _=>False) (h1.ext hE) (h2.ext hE) hp hq hk hl) (fun W' v W'' hE hE' hP=>by
  obtain⟨r,c,u,rfl,h⟩:=hP
  exact kont r c u W'' (hE.trans hE') h)
theorem Dz2 {W0:PW} {M:Nat→Prop} {s t:Sl} {b:Bool} {q:Rat} {k:Nat} (h:Ab3 284 W0 s b t q) (hq:Sz k q) (hk:k≤34359738368):
  Aa0 Tryz.prog 40 [.agg #[s.v,.bool b,t.v]] W0 M fun v W'=>v = .int .i64 (Co4 q 0)∧True:=by
 apply Bm8
 have:=hq.1
 refine Ai5 h.1 (by omega) fun W2 hE2 _=>⟨_,rfl,fun W4 hE4=>⟨?_,trivial⟩⟩
 rw[Bo6]
theorem Bk6 {W0 W:PW} {M:Nat→Prop} {s t:Sl} {b:Bool} {q:Rat} {k:Nat} {K:Value→PW→Prop} (h:Ab3 284 W s b t q) (hq:Sz k q) (hk:k≤34359738368) (kont: ∀(W':PW),Ext W W'→(True)→K (.int .i64 (Co4 q 0)) W'):
  Aa1 Tryz.prog W0 M 40 [.agg #[s.v,.bool b,t.v]] W K:=
 Aa2 (fun W' hE=>Dz2 (M:=fun _=>False) (h.ext hE) hq hk) (fun W' v W'' hE hE' hP=>by
  obtain⟨rfl,h⟩:=hP
  exact kont W'' (hE.trans hE') h)
theorem Ge8 {q:Rat} (h:q≠0):mkRat (if decide (Co4 q 0<0)=true then -(q.den:Int) else(q.den:Int)) (max q.num.natAbs 1)=q⁻¹:=by
 have hn:q.num≠0:=fun e=>h (Rat.num_eq_zero.1 e)
 have hpos:1≤q.num.natAbs:=by omega
 rw[Nat.max_eq_left hpos,Rat.inv_def,←Bo6]
 by_cases hneg:q.num<0
 ·have e1:By8 q.num<0:=by simp[By8,hneg]
  rw[if_pos (decide_eq_true e1),←Rat.divInt_ofNat,show((q.num.natAbs:Nat):Int) = -q.num by omega,Rat.neg_divInt_neg]
 ·have e1:¬By8 q.num<0:=by simp[By8,hneg,hn]
  rw[if_neg (by rw[decide_eq_false e1];decide),←Rat.divInt_ofNat,show((q.num.natAbs:Nat):Int)=q.num by omega]
theorem Gd6 {W0:PW} {M:Nat→Prop} {s t s' t':Sl} {b b':Bool} {p q:Rat} {k l:Nat} (h1:Ab3 284 W0 s b t p) (h2:Ab3 284 W0 s' b' t' q) (hp:Sz k p) (hq:Sz l q) (hk:k≤8589934592) (hl:l≤8589934592) (hl1:1≤l):
  Aa0 Tryz.prog 108 [.agg #[s.v,.bool b,t.v],.agg #[s'.v,.bool b',t'.v]] W0 M fun v W'=>∃(r:Sl),∃(c:Bool),∃(u:Sl),v = .tuple #[.agg #[Sl.v r,.bool c,Sl.v u],.bool (decide (q≠0))]∧Ab3 284 W' r c u (p/q):=by
 apply Gb6
 have n2:=hq.1
 have n4:=hq.2
 refine Bk6 h2 hq (by omega) fun W2 hE2 _=>⟨_,rfl,fun h0 W4 hE4=>?_,fun h0=>?_⟩
 ·have hq0:q=0:=(Be6 q 0).1 h0
  refine⟨⟨none,0,0⟩,false,⟨none,0,0⟩,?_,?_⟩
  ·rw[decide_eq_false (by intro h;exact h hq0)]
  ·rw[hq0,Rat.div_def,show(0:Rat)⁻¹ = 0 from by simp[Rat.inv_def],Rat.mul_zero]
   exact Ef0 W4
 ·have hq0:q≠0:=fun e=>h0 ((Be6 q 0).2 e)
  rw[decide_eq_true hq0]
  refine Bk6 (h2.ext hE2) hq (by omega) fun W6 hE6 _=>⟨_,rfl,?_⟩
  refine Ap4 ((h2.ext hE2).ext hE6) hq (by omega) fun s10 W9 hE9 h10=>⟨s10,rfl,?_⟩
  refine Ad6 h10 (by omega) fun s13 b14 W12 hE12 h13=>⟨s13,b14,rfl,?_⟩
  have hEa:=((hE2.trans hE6).trans hE9).trans hE12
  refine Ag5 (h2.1.ext hEa) fun s17 W16 hE16 h17=>⟨s17,rfl,?_⟩
  have hsz:nl (if decide (Co4 q 0<0)=true then -(q.den:Int) else(q.den:Int)).natAbs≤l:=by
   split
   ·rw[Int.natAbs_neg,Int.natAbs_natCast];exact n4
   ·rw[Int.natAbs_natCast];exact n4
  refine At7 (h13.ext hE16) h17 (by omega) (by omega) fun s20 b21 s22 W19 hE19 h20=>⟨s20,b21,s22,rfl,?_⟩
  rw[Ge8 hq0] at h20
  refine Ak9 ((h1.ext hEa).ext (hE16.trans hE19)) h20 hp (hq.inv hl1) hk hl fun s25 b26 s27 W24 hE24 h25=>⟨s25,b26,s27,rfl,fun W28 hE28=>⟨s25,b26,s27,rfl,?_⟩⟩
  rw[Rat.div_def]
  exact h25.ext hE28
theorem Gb1 {W0 W:PW} {M:Nat→Prop} {s t s' t':Sl} {b b':Bool} {p q:Rat} {k l:Nat} {K:Value→PW→Prop} (h1:Ab3 284 W s b t p) (h2:Ab3 284 W s' b' t' q) (hp:Sz k p) (hq:Sz l q) (hk:k≤8589934592) (hl:l≤8589934592) (hl1:1≤l) (kont: ∀(r:Sl) (c:Bool) (u:Sl) (W':PW),Ext W W'→(Ab3 284 W' r c u (p/q))→K (.tuple #[.agg #[Sl.v r,.bool c,Sl.v u],.bool (decide (q≠0))]) W'):
  Aa1 Tryz.prog W0 M 108 [.agg #[s.v,.bool b,t.v],.agg #[s'.v,.bool b',t'.v]] W K:=
 Aa2 (fun W' hE=>Gd6 (M:=fun _=>False) (h1.ext hE) (h2.ext hE) hp hq hk hl hl1) (fun W' v W'' hE hE' hP=>by
  obtain⟨r,c,u,rfl,h⟩:=hP
  exact kont r c u W'' (hE.trans hE') h)
theorem Fa7 {W0:PW} {M:Nat→Prop} {z:Int} (hz:I64 z):
  Aa0 Tryz.prog 103 [.int .i64 z] W0 M fun v W'=>∃(s':Sl),∃(b':Bool),∃(t':Sl),v = .agg #[Sl.v s',.bool b',Sl.v t']∧Ab3 284 W' s' b' t' (z:Rat):=by
 apply Dz9
 refine Bk1 hz fun s3 b4 W2 hE2 h3=>⟨s3,b4,rfl,fun W5 hE5=>⟨s3,b4,⟨none,0,0⟩,rfl,?_,?_⟩⟩
 ·rw[Rat.num_intCast]
  exact h3.ext hE5
 ·have:dn (z:Rat)=0:=by unfold dn;rw[Rat.den_intCast];rfl
  rw[this]
  exact Af6 W5
theorem Ay8 {W0 W:PW} {M:Nat→Prop} {z:Int} {K:Value→PW→Prop} (hz:I64 z) (kont: ∀(s':Sl) (b':Bool) (t':Sl) (W':PW),Ext W W'→(Ab3 284 W' s' b' t' (z:Rat))→K (.agg #[Sl.v s',.bool b',Sl.v t']) W'):
  Aa1 Tryz.prog W0 M 103 [.int .i64 z] W K:=
 Aa2 (fun W' hE=>Fa7 (M:=fun _=>False) hz) (fun W' v W'' hE hE' hP=>by
  obtain⟨s',b',t',rfl,h⟩:=hP
  exact kont s' b' t' W'' (hE.trans hE') h)
end Go.Proofs.YtjkkidjbppphpaaGreatDoor
/- Texts of numbers are read: nat.grow, nat.Parse. -/
namespace Go.Proofs.YtjkkidjbppphpaaGreatDoor
open Go Go.SX
def Fp6 (W0:PW) (g:Nat) (cs:Array Value) (us:List Nat) (b c0:Nat) (l:List PL) (W:PW):Prop:=
 match l with
 | [.val (.int .u64 c),.val (.int .i64 k)]=>∃(c' k':Nat) (ws:List Nat),c=(c':Int)∧k=(k':Int)∧Aq5 W0 W g cs 284 0 (cv ws)∧ws.length=us.length∧Dig ws∧c'<B∧k'≤us.length∧
   val (ws.take k')+B^k'*c'=val (us.take k')*b+c0∧ws.drop k'=us.drop k'
 | _=>False
def Fq1 (n:Nat) (l:List PL) (W:PW):Nat:=
 match l with
 | [_,.val (.int .i64 k)]=>n-k.toNat
 | _=>0
theorem Ds7 {c d b:Nat} (hc:c<B) (hd:d<B) (hb:b<B):(c+d*b)/B<B∧c+d*b<18446744073709551616:=by
 have h1:d*b≤(B-1)*(B-1):=Nat.mul_le_mul (by omega) (by omega)
 unfold B at *
 constructor<;>omega
theorem Ec7 {W0:PW} {s:Sl} {us:List Nat} {b c:Nat} (h:Go.SX.Own W0 284 1 s (cel us)) (hd:Dig us) (ht:Trim us) (hb:b<B) (hb0:0<b) (hc:c<B) (hl:us.length≤5000):
  Aa0 Tryz.prog 233 [s.v,.int .u32 (b:Int),.int .u32 (c:Int)] W0 (fun g=>s.v.ownBlock=some g) fun v W'=>∃s',v=Sl.v s'∧Go.SX.Own W' 284 1 s' (cel (dg (val us*b+c)))∧∀g,s'.v.ownBlock=some g→s.v.ownBlock=some g∨W0.w.heap.size≤g:=by
 apply Db4
 have hB:B=4294967296:=rfl
 have hsn:=h.n
 rw[Aa5] at hsn
 have ew: ∀x:Nat,x<B→IntKind.wrap .u64 (x:Int)=(x:Int):=fun x hx=>Ab1 (by omega)
 by_cases hne:us = []
 ·subst hne
  refine⟨fun l W=>match l with | [.val (.int .u64 c'),.val (.int .i64 k)]=>Ext W0 W∧c'=(c:Int)∧k=0 | _=>False,fun _ _=>0,?_,?_⟩
  ·rw[ew c hc]
   exact⟨Ext.refl _,rfl,rfl⟩
  rintro i3 i4 W5 ⟨hE,rfl,rfl⟩
  simp at hsn
  refine⟨fun hlt=>(by omega),fun _=>⟨fun hpos=>?_,fun hz W11 hE11=>?_⟩⟩
  ·intro W' hE'
   refine⟨cel [],(h.ext hE).ext hE',fun g hg=>Or.inl hg,by simp[cel],fun s' W'' hX hO hN W10 hE10=>⟨s',rfl,?_,fun g hg=>(hN g hg).imp id fun h=>Nat.le_trans (Nat.le_trans hE.size hE'.size) h⟩⟩
   have e:dg (val []*b+c) = [c]:=by
    simp only[val,Nat.zero_mul,Nat.zero_add]
    rw[Bk2 (by omega),Nat.mod_eq_of_lt hc,Nat.div_eq_of_lt hc,Ae8]
   rw[e]
   have:=hO.ext hE10
   rw[Ab9,Nat.mod_eq_of_lt hc] at this
   exact this
  ·have:c=0:=by omega
   subst this
   refine⟨s,rfl,?_,fun g hg=>.inl hg⟩
   simpa[val,Ae8] using(h.ext hE).ext hE11
 ·obtain⟨g,cs,hm,hg⟩:=h.mut hne
  have hlp:=List.length_pos_iff.2 hne
  refine⟨Fp6 W0 g cs us b c,Fq1 us.length,?_,?_⟩
  ·rw[ew c hc]
   exact⟨c,0,us,rfl,rfl,hm.start (Ext.refl _),rfl,hd,hc,by omega,by simp[val],rfl⟩
  rintro i3 i4 W5 ⟨c',k,ws,rfl,rfl,hp,hwl,hdw,hcc,hk,hv,hdr⟩
  have hm5:=hm.put hp hwl
  refine⟨fun hlt=>?_,fun hge=>?_⟩
  ·have hku:k<us.length:=by omega
   have hkw:k<ws.length:=by omega
   have hwk:ws[k]?=some us[k]:=by
    have:=congrArg (fun l=>l[0]?) hdr
    simpa[List.getElem?_drop,hku] using this
   have hdk:=hd.at hku
   have hcl:=Ds7 hcc hdk hb
   have hdb:us[k]*b<18446744073709551616:=by omega
   have e:IntKind.wrap .u64 ((c':Int)+IntKind.wrap .u64 (IntKind.wrap .u64 ((us[k]:Nat):Int)*IntKind.wrap .u64 (b:Int)))=((c'+us[k]*b:Nat):Int):=by
    rw[ew _ hdk,ew b hb,←Int.natCast_mul,Ab1 hdb,←Int.natCast_add,Ab1 hcl.2]
   have hin:=(hm5.row).inB (i:=(k:Int)) (by omega) (by omega)
   refine⟨hin,((us[k]:Nat):Int),(hm5.row).atq hwk,hin,?_⟩
   rw[e]
   rw[show Int.toNat (k:Int)=k from rfl,Nat.mul_one,Nat.add_zero,Ab9]
   refine Ar7 hm hp hwl hkw (Or.inl hg) fun W7 hp7=>⟨by unfold I64;omega,?_,?_⟩
   ·rw[Ao0]
    refine⟨_,k+1,_,rfl,by push_cast;rfl,hp7,by simpa using hwl,Dig.set hdw (Nat.mod_lt _ Ad3),hcl.1,by omega,?_,?_⟩
    ·rw[Ac1 hkw,Aa4 hku,Nat.pow_succ]
     exact grow_step hv
    ·rw[Ah5 (by omega)]
     have:=congrArg (fun l=>l.drop 1) hdr
     simpa using this
   ·show us.length-Int.toNat ((k:Int)+1)<us.length-Int.toNat (k:Int)
    omega
  ·have hku:k=us.length:=by omega
   subst hku
   rw[←hwl,List.take_length,hwl,List.take_length] at hv
   have ho:=h.put hm hp hwl
   refine⟨fun hpos=>?_,fun hz W11 hE11=>?_⟩
   ·intro W' hE'
    refine⟨cel ws,ho.ext hE',fun g hg=>Or.inl hg,by rw[Aa5];simp;omega,fun s' W'' hX hO hN W10 hE10=>⟨s',rfl,?_,fun g hg=>(hN g hg).imp id fun h=>Nat.le_trans (Nat.le_trans hp.ext.size hE'.size) h⟩⟩
    have e:dg (val us*b+c)=ws ++ [c']:=by
     rw[←hv,←hwl,show val ws+B^ws.length*c'=val (ws ++ [c']) by rw[Ag8];simp[val]]
     exact Bk0 (hdw.append (Dig.cons hcc Dig.nil)) (Cx9 (by omega))
    rw[e,←Bh9]
    have:=hO.ext hE10
    rw[Ab9,Nat.mod_eq_of_lt hcc] at this
    exact this
   ·have hc0:c'=0:=by omega
    subst hc0
    rw[Nat.mul_zero,Nat.add_zero] at hv
    refine⟨s,rfl,?_,fun g hg=>.inl hg⟩
    have hwn:ws≠[]:=fun e=>by subst e;simp at hwl;omega
    have:dg (val us*b+c)=ws:=by
     rw[←hv]
     refine Bk0 hdw (Ek5 hdw hwn ?_)
     rw[hv,hwl]
     have h1:=Ee4 hne ht
     have h2:val us*1≤val us*b:=Nat.mul_le_mul_left _ hb0
     omega
    rw[this]
    exact ho.ext hE11
def er {α:Type} (o:Option α):Int:=if o.isSome then 0 else 2
theorem Df6 {W0:PW} {M:Nat→Prop} {a:ByteArray} :
  Aa0 Tryz.prog 193 [.string a] W0 M fun v W'=>∃(s':Sl),v = .tuple #[.agg #[Sl.v s'],.int .i64 (er (Ad2 a))]∧Aa6 284 W' s' ((Ad2 a).getD 0):=by
 apply Ch1
 have bad:¬Cv5 a→∀W':PW,∃s':Sl,(Value.tuple #[.agg #[.slice none 0 0],.int .i64 2]) = .tuple #[.agg #[Sl.v s'],.int .i64 (er (Ad2 a))]∧Aa6 284 W' s' ((Ad2 a).getD 0):=by
  intro h W'
  rw[Bh4 h]
  exact⟨⟨none,0,0⟩,rfl,Af6 W'⟩
 have hs0:Ae2 a 0=(sb a 0:Int):=Ao5 a 0
 refine⟨fun l W=>match l with | [.cells [.slice _ _ _]]=>a.size≠0∧a.size≤4000∧¬(sb a 0=48∧1<a.size)∧W0.w.heap.size≤W.w.heap.size | _=>False,⟨fun h=>fun W2 _=>bad ?_ W2,fun h=>⟨fun hl=>fun W2 _=>bad ?_ W2,fun hl=>⟨?_,fun h0=>⟨fun h1 W6 _=>bad ?_ W6,fun h1=>?_⟩,fun h0=>?_⟩⟩⟩,?_⟩
 ·rintro⟨h1,_⟩
  exact Bi0.2 h1 h
 ·rintro⟨_,h1,_⟩
  omega
 ·have:=Bi0.1 h
  omega
 ·rintro⟨_,_,h2,_⟩
  exact h2 ⟨by omega,by omega⟩
 ·exact⟨Bi0.1 h,by omega,by omega,Nat.le_refl _⟩
 ·exact⟨Bi0.1 h,by omega,by omega,Nat.le_refl _⟩
 rintro s8 W9 ⟨hz,h4,h48,hw9⟩
 refine⟨fun l W=>match l with | [.val (.slice A n c),.val (.int .i64 i),.cells [.slice _ _ _]]=>(∃k:Nat,i=(k:Int)∧k≤a.size∧(∀j,j<k→48≤sb a j∧sb a j≤57)∧Go.SX.Own W 284 1 ⟨A,n,c⟩ (cel (dg (dv a k)))∧Aq4 W0 ⟨A,n,c⟩∧W0.w.heap.size≤W.w.heap.size) | _=>False,
  fun l _=>match l with | [_,.val (.int .i64 i),_]=>a.size-i.toNat | _=>0,⟨0,rfl,Nat.zero_le _,fun j h=>(by omega),?_,?_,hw9⟩,?_⟩
 ·exact Dd0 W9
 ·intro g hg
  simp[Sl.v,Value.ownBlock] at hg
 rintro s12 s13 i14 W15 ⟨k,rfl,hk,hdk,hO,hF,hw⟩
 have hO:Go.SX.Own W15 284 1 s13 (cel (dg (dv a k))):=hO
 have hF:Aq4 W0 s13:=hF
 have hsk:Ae2 a (Int.toNat (k:Int))=(sb a k:Int):=Ao5 a k
 refine⟨fun hlt=>⟨fun l W=>match l with | [_,_,_,_,_,.cells [.slice _ _ _]]=>Ext W15 W∧48≤sb a k∧sb a k≤57 | _=>False,⟨by omega,fun hb=>fun W17 _=>bad ?_ W17,fun hb=>⟨by omega,fun hb2 W18 _=>bad ?_ W18,fun hb2=>⟨Ext.refl _,by omega,by omega⟩⟩⟩,?_⟩,fun hge W29 hE29=>?_⟩
 ·rintro⟨_,_,_,h⟩
  have:=h k (by omega)
  omega
 ·rintro⟨_,_,_,h⟩
  have:=h k (by omega)
  omega
 ·rintro s19 t20 i21 b22 t23 i24 W25 ⟨hE25,hb1,hb2⟩
  refine⟨by omega,?_⟩
  rw[show Int.toNat (k:Int)=k from rfl,dgt hb1 hb2]
  intro W' hE'
  refine⟨_,_,Ec7 (b:=10) (c:=sb a k-48) ((hO.ext hE25).ext hE') (Ad8 _) (Df1 _) (by decide) (by decide) (by unfold B;omega) (by have:=Fn5 hdk (by omega);unfold nl at this;omega),?_,?_⟩
  ·intro g hg
   have hO':=(hO.ext hE25).ext hE'
   exact⟨hO'.2 g hg,.inr (hF g hg)⟩
  ·rintro v W'' hX ⟨s',rfl,hO2,hN⟩
   rw[Ac5] at hO2
   refine⟨s',rfl,by unfold I64;omega,⟨k+1,by push_cast;rfl,by omega,?_,hO2,?_,Nat.le_trans (Nat.le_trans hw (Nat.le_trans hE25.size hE'.size)) hX.size⟩,?_⟩
   ·intro j hj
    by_cases e:j=k
    ·subst e;exact⟨hb1,hb2⟩
    ·exact hdk j (by omega)
   ·intro g hg
    rcases hN g hg with h | h
    ·exact hF g h
    ·exact Nat.le_trans (Nat.le_trans hw (Nat.le_trans hE25.size hE'.size)) h
   ·show a.size-Int.toNat ((k:Int)+1)<a.size-Int.toNat (k:Int)
    omega
 ·have hk':k=a.size:=by omega
  subst hk'
  have hg:Cv5 a:=⟨hz,h4,h48,hdk⟩
  rw[Bu4 hg]
  exact⟨s13,rfl,(hO.ext hE29).row⟩
theorem Au3 {W0 W:PW} {M:Nat→Prop} {a:ByteArray} {K:Value→PW→Prop} (kont: ∀(s':Sl) (W':PW),Ext W W'→(Aa6 284 W' s' ((Ad2 a).getD 0))→K (.tuple #[.agg #[Sl.v s'],.int .i64 (er (Ad2 a))]) W'):
  Aa1 Tryz.prog W0 M 193 [.string a] W K:=
 Aa2 (fun W' hE=>Df6 (M:=fun _=>False) ) (fun W' v W'' hE hE' hP=>by
  obtain⟨s',rfl,h⟩:=hP
  exact kont s' W'' (hE.trans hE') h)
end Go.Proofs.YtjkkidjbppphpaaGreatDoor
