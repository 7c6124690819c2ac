/- cmp.Compare, cmp.Or, slices.Compare; mono.Degree, mono.Mul, mono.Cmp. -/
import Derived.Test.YtjgpenfndnhdnaaGreatW6
import Derived.Test.YtjgpenfndnhdnaaGreatR14
import Derived.Test.YtjgpenfndnhdnaaGreatLib3
import Derived.Shelf.SlSortCmp.WholeK
import Derived.Shelf.SlGeneric
import Derived.Test.YtjgpenfndnhdnaaGreatProg
import Derived.Maps.Keyed
import Derived.DeepKeys5
import Derived.Test.YtjgpenfndnhdnaaGreatR15
set_option linter.unusedVariables false
set_option linter.unusedSimpArgs false
set_option maxRecDepth 100000
set_option linter.unusedVariables false
set_option linter.unusedSimpArgs false
namespace Go.Proofs.YtjgpenfndnhdnaaGreat
open Go Go.SX
theorem isNaNint_ok {W0:PW} {M:Nat→Prop} {x:Int} :
  PCallsM Go.Proofs.Tryz.prog 187 [.int .i64 x] W0 M fun v W'=>v = .bool false∧True:=by
 apply callcmp_isNaN_int
 exact fun W1 _=>⟨by simp,trivial⟩
theorem isNaNint_call {W0 W:PW} {M:Nat→Prop} {x:Int} {K:Value→PW→Prop} (kont: ∀(W':PW),Ext W W'→(True)→K (.bool false) W'):
  callN Go.Proofs.Tryz.prog W0 M 187 [.int .i64 x] W K:=
 callN_of (fun W' hE=>isNaNint_ok (M:=fun _=>False) ) (fun W' v W'' hE hE' hP=>by
  obtain⟨rfl,h⟩:=hP
  exact kont W'' (hE.trans hE') h)
theorem isNaNu8_ok {W0:PW} {M:Nat→Prop} {x:Int} :
  PCallsM Go.Proofs.Tryz.prog 211 [.int .u8 x] W0 M fun v W'=>v = .bool false∧True:=by
 apply callcmp_isNaN_uint8
 exact fun W1 _=>⟨by simp,trivial⟩
theorem isNaNu8_call {W0 W:PW} {M:Nat→Prop} {x:Int} {K:Value→PW→Prop} (kont: ∀(W':PW),Ext W W'→(True)→K (.bool false) W'):
  callN Go.Proofs.Tryz.prog W0 M 211 [.int .u8 x] W K:=
 callN_of (fun W' hE=>isNaNu8_ok (M:=fun _=>False) ) (fun W' v W'' hE hE' hP=>by
  obtain⟨rfl,h⟩:=hP
  exact kont W'' (hE.trans hE') h)
theorem cmpInt_ok {W0:PW} {M:Nat→Prop} {x y:Int} :
  PCallsM Go.Proofs.Tryz.prog 162 [.int .i64 x,.int .i64 y] W0 M fun v W'=>v = .int .i64 (cmpI x y)∧True:=by
 apply callcmp_Compare_int
 refine isNaNint_call fun W2 _ _=>⟨false,rfl,isNaNint_call fun W5 _ _=>⟨false,rfl,fun h=>(by cases h),fun _=>⟨fun h=>(by cases h),fun _=>⟨fun h W _=>⟨?_,trivial⟩,fun h=>⟨fun h' W _=>⟨?_,trivial⟩,fun h' W _=>⟨?_,trivial⟩⟩⟩⟩⟩⟩
 ·unfold cmpI;rw[if_pos h]
 ·unfold cmpI;rw[if_neg h,if_neg (by omega)]
 ·unfold cmpI;rw[if_neg h,if_pos (by omega)]
theorem cmpInt_call {W0 W:PW} {M:Nat→Prop} {x y:Int} {K:Value→PW→Prop} (kont: ∀(W':PW),Ext W W'→(True)→K (.int .i64 (cmpI x y)) W'):
  callN Go.Proofs.Tryz.prog W0 M 162 [.int .i64 x,.int .i64 y] W K:=
 callN_of (fun W' hE=>cmpInt_ok (M:=fun _=>False) ) (fun W' v W'' hE hE' hP=>by
  obtain⟨rfl,h⟩:=hP
  exact kont W'' (hE.trans hE') h)
theorem cmpU8_ok {W0:PW} {M:Nat→Prop} {x y:Int} :
  PCallsM Go.Proofs.Tryz.prog 188 [.int .u8 x,.int .u8 y] W0 M fun v W'=>v = .int .i64 (cmpI x y)∧True:=by
 apply callcmp_Compare_uint8
 refine isNaNu8_call fun W2 _ _=>⟨false,rfl,isNaNu8_call fun W5 _ _=>⟨false,rfl,fun h=>(by cases h),fun _=>⟨fun h=>(by cases h),fun _=>⟨fun h W _=>⟨?_,trivial⟩,fun h=>⟨fun h' W _=>⟨?_,trivial⟩,fun h' W _=>⟨?_,trivial⟩⟩⟩⟩⟩⟩
 ·unfold cmpI;rw[if_pos h]
 ·unfold cmpI;rw[if_neg h,if_neg (by omega)]
 ·unfold cmpI;rw[if_neg h,if_pos (by omega)]
theorem cmpU8_call {W0 W:PW} {M:Nat→Prop} {x y:Int} {K:Value→PW→Prop} (kont: ∀(W':PW),Ext W W'→(True)→K (.int .i64 (cmpI x y)) W'):
  callN Go.Proofs.Tryz.prog W0 M 188 [.int .u8 x,.int .u8 y] W K:=
 callN_of (fun W' hE=>cmpU8_ok (M:=fun _=>False) ) (fun W' v W'' hE hE' hP=>by
  obtain⟨rfl,h⟩:=hP
  exact kont W'' (hE.trans hE') h)
theorem cmpOr_ok {W0:PW} {M:Nat→Prop} {s:Sl} {x y:Int} (h:RowA W0 1 s [[.int .i64 x],[.int .i64 y]]):
  PCallsM Go.Proofs.Tryz.prog 161 [s.v] W0 M fun v W'=>v = .int .i64 (if x≠0 then x else y)∧True:=by
 apply callcmp_Or_int
 have hn:s.n=2:=let⟨_,h⟩:=h;h.1
 refine⟨fun l W=>match l with | [.val (.int .i64 i)]=>Ext W0 W∧∃k:Nat,i=(k:Int)∧k≤2∧(0<k→x=0)∧(1<k→y=0) | _=>False,fun l _=>match l with | [.val (.int .i64 i)]=>2-i.toNat | _=>0,⟨Ext.refl _,0,rfl,by omega,by omega,by omega⟩,?_⟩
 rintro i3 W4 ⟨hE,k,rfl,hk,hx,hy⟩
 refine⟨fun hlt=>?_,fun hge W7 _=>⟨?_,trivial⟩⟩
 ·have hk2:k<2:=by omega
  obtain⟨t,h⟩:=h.ext hE
  have hel:ElemAt W4 s 1 k 0 [.int .i64 (if k=0 then x else y)]:=by
   rcases(by omega:k=0∨k=1) with rfl | rfl
   ·exact h.part (x:=[.int .i64 x]) rfl 0 rfl
   ·exact h.part (x:=[.int .i64 y]) rfl 0 rfl
  refine⟨h.inB (by omega) (by simp;omega),_,hel,fun hne W6 _=>⟨?_,trivial⟩,fun heq=>⟨by unfold I64;omega,⟨hE,k+1,by push_cast;rfl,by omega,fun _=>?_,fun h1=>?_⟩,?_⟩⟩
  ·rcases(by omega:k=0∨k=1) with rfl | rfl
   ·rw[if_pos rfl] at hne
    rw[if_pos rfl,if_pos hne]
   ·rw[if_neg (by omega),if_neg (fun h=>h (hx (by omega)))]
  ·rcases(by omega:k=0∨k=1) with rfl | rfl
   ·rw[if_pos rfl] at heq
    omega
   ·exact hx (by omega)
  ·have:k=1:=by omega
   subst this
   rw[if_neg (by omega)] at heq
   omega
  ·show 2-Int.toNat ((k:Int)+1)<2-Int.toNat (k:Int)
   omega
 ·rw[if_neg (fun h=>h (hx (by omega))),hy (by omega)]
theorem cmpOr_call {W0 W:PW} {M:Nat→Prop} {s:Sl} {x y:Int} {K:Value→PW→Prop} (h:RowA W 1 s [[.int .i64 x],[.int .i64 y]]) (kont: ∀(W':PW),Ext W W'→(True)→K (.int .i64 (if x≠0 then x else y)) W'):
  callN Go.Proofs.Tryz.prog W0 M 161 [s.v] W K:=
 callN_of (fun W' hE=>cmpOr_ok (M:=fun _=>False) (h.ext hE)) (fun W' v W'' hE hE' hP=>by
  obtain⟨rfl,h⟩:=hP
  exact kont W'' (hE.trans hE') h)
def eget (m:Mon) (k:Nat):Int:=if k=0 then m.x else if k=1 then m.y else m.z
theorem boxAt_mon (m:Mon) {k:Nat} (hk:k<3) (a b c:Int) (ha:a=m.x) (hb:b=m.y) (hc:c=m.z):BoxAt [.int .u8 a,.int .u8 b,.int .u8 c] (0+Int.toNat (k:Int)*1+0) [.int .u8 (eget m k)]:=by
 subst ha;subst hb;subst hc
 rcases(by omega:k=0∨k=1∨k=2) with rfl | rfl | rfl<;>exact⟨by simp,rfl⟩
theorem take_mon (m:Mon) {k:Nat} (hk:k<3):List.take 1 (List.drop (Int.toNat (k:Int)*1) [Value.int .u8 m.x,.int .u8 m.y,.int .u8 m.z]) = [.int .u8 (eget m k)]:=by
 rcases(by omega:k=0∨k=1∨k=2) with rfl | rfl | rfl<;>rfl
theorem eget_ok {m:Mon} (h:m.ok) (k:Nat):0≤eget m k∧eget m k≤255:=by
 unfold Mon.ok at h
 unfold eget
 split
 ·omega
 ·split<;>omega
theorem monoDegree_ok {W0:PW} {M:Nat→Prop} {m:Mon} (hm:m.ok):
  PCallsM Go.Proofs.Tryz.prog 111 [.agg ⟨[.int .u8 m.x,.int .u8 m.y,.int .u8 m.z]⟩] W0 M fun v W'=>v = .int .i64 m.deg∧True:=by
 apply callmono_Degree
 refine⟨fun l W=>match l with | [.val (.int .i64 a),.val (.int .i64 i)]=>Ext W0 W∧∃k:Nat,i=(k:Int)∧k≤3∧a=(if 0<k then m.x else 0)+(if 1<k then m.y else 0)+(if 2<k then m.z else 0) | _=>False,fun l _=>match l with | [_,.val (.int .i64 i)]=>3-i.toNat | _=>0,⟨Ext.refl _,0,rfl,by omega,by simp⟩,?_⟩
 rintro i3 i4 W5 ⟨hE,k,rfl,hk,rfl⟩
 have ho:=hm
 unfold Mon.ok at ho
 refine⟨fun hlt=>?_,fun hge W7 _=>⟨?_,trivial⟩⟩
 ·have hk3:k<3:=by omega
  have hek:=eget_ok hm k
  have hs:0≤(if 0<k then m.x else 0)+(if 1<k then m.y else 0)+(if 2<k then m.z else 0)∧(if 0<k then m.x else 0)+(if 1<k then m.y else 0)+(if 2<k then m.z else 0)≤765:=by
   repeat' split
   all_goals omega
  refine⟨⟨by omega,by omega⟩,_,take_mon m hk3,by unfold I64;omega,by unfold I64;omega,by unfold I64;omega,⟨hE,k+1,by push_cast;rfl,by omega,?_⟩,?_⟩
  ·rcases(by omega:k=0∨k=1∨k=2) with rfl | rfl | rfl<;>simp[eget]
  ·show 3-Int.toNat ((k:Int)+1)<3-Int.toNat (k:Int)
   omega
 ·have:k=3:=by omega
  subst this
  simp[Mon.deg]
theorem monoDegree_call {W0 W:PW} {M:Nat→Prop} {m:Mon} {K:Value→PW→Prop} (hm:m.ok) (kont: ∀(W':PW),Ext W W'→(True)→K (.int .i64 m.deg) W'):
  callN Go.Proofs.Tryz.prog W0 M 111 [.agg ⟨[.int .u8 m.x,.int .u8 m.y,.int .u8 m.z]⟩] W K:=
 callN_of (fun W' hE=>monoDegree_ok (M:=fun _=>False) hm) (fun W' v W'' hE hE' hP=>by
  obtain⟨rfl,h⟩:=hP
  exact kont W'' (hE.trans hE') h)
def lexM (a b:Mon):Int:=if a.x≠b.x then cmpI a.x b.x else if a.y≠b.y then cmpI a.y b.y else cmpI a.z b.z
theorem lexM_at {a b:Mon} {k:Nat} (hk:k<3) (h: ∀j,j<k→eget a j=eget b j) (hne:eget a k≠eget b k):lexM a b=cmpI (eget a k) (eget b k):=by
 unfold lexM
 rcases(by omega:k=0∨k=1∨k=2) with rfl | rfl | rfl
 ·rw[if_pos (by simpa[eget] using hne)];rfl
 ·have h0:=h 0 (by omega)
  rw[if_neg (fun e=>e (by simpa[eget] using h0)),if_pos (by simpa[eget] using hne)];rfl
 ·have h0:=h 0 (by omega)
  have h1:=h 1 (by omega)
  rw[if_neg (fun e=>e (by simpa[eget] using h0)),if_neg (fun e=>e (by simpa[eget] using h1))];rfl
theorem lexM_eq {a b:Mon} (h: ∀j,j<3→eget a j=eget b j):lexM a b=0:=by
 have h0:a.x=b.x:=by simpa[eget] using h 0 (by omega)
 have h1:a.y=b.y:=by simpa[eget] using h 1 (by omega)
 have h2:a.z=b.z:=by simpa[eget] using h 2 (by omega)
 unfold lexM cmpI
 rw[if_neg (fun e=>e h0),if_neg (fun e=>e h1),if_neg (by omega),if_pos h2]
theorem cmpM_eq (a b:Mon):a.cmp b=(if cmpI a.deg b.deg≠0 then cmpI a.deg b.deg else lexM a b):=by
 unfold Mon.cmp Mon.lt lexM cmpI
 by_cases h1:a.deg<b.deg
 ·simp[h1]
 ·by_cases h2:a.deg=b.deg
  ·by_cases h3:a.x=b.x
   ·by_cases h4:a.y=b.y
    ·by_cases h5:a.z=b.z
     ·have:a=b:=Mon.ext3 h3 h4 h5
      subst this
      simp
     ·have:a≠b:=fun e=>h5 (by rw[e])
      simp[h2,h3,h4,h5,this]
    ·have:a≠b:=fun e=>h4 (by rw[e])
     simp[h2,h3,h4,this]
   ·have:a≠b:=fun e=>h3 (by rw[e])
    simp[h2,h3,this]
  ·have:a≠b:=fun e=>h2 (by rw[e])
   simp[h1,h2,this]
theorem row_mon {W:PW} {t:TypeId} {s:Sl} {m:Mon} (h:Row W t 1 s [[.int .u8 m.x],[.int .u8 m.y],[.int .u8 m.z]]) {k:Nat} (hk:k<3):ElemAt W s 1 k 0 [.int .u8 (eget m k)]:=by
 rcases(by omega:k=0∨k=1∨k=2) with rfl | rfl | rfl
 ·exact h.part (x:=[.int .u8 m.x]) rfl 0 rfl
 ·exact h.part (x:=[.int .u8 m.y]) rfl 0 rfl
 ·exact h.part (x:=[.int .u8 m.z]) rfl 0 rfl
theorem cmpSl_ok {W0:PW} {M:Nat→Prop} {s t:Sl} {a b:Mon} (h1:RowA W0 1 s [[.int .u8 a.x],[.int .u8 a.y],[.int .u8 a.z]]) (h2:RowA W0 1 t [[.int .u8 b.x],[.int .u8 b.y],[.int .u8 b.z]]):
  PCallsM Go.Proofs.Tryz.prog 163 [s.v,t.v] W0 M fun v W'=>v = .int .i64 (lexM a b)∧True:=by
 apply callslices_Compare_uint8_uint8
 have hn1:s.n=3:=let⟨_,h⟩:=h1;h.1
 have hn2:t.n=3:=let⟨_,h⟩:=h2;h.1
 refine⟨fun l W=>match l with | [.val (.int .i64 i)]=>Ext W0 W∧∃k:Nat,i=(k:Int)∧k≤3∧∀j,j<k→eget a j=eget b j | _=>False,fun l _=>match l with | [.val (.int .i64 i)]=>3-i.toNat | _=>0,⟨Ext.refl _,0,rfl,by omega,fun j hj=>by omega⟩,?_⟩
 rintro i3 W4 ⟨hE,k,rfl,hk,hj⟩
 refine⟨fun hlt=>?_,fun hge=>⟨fun h=>by omega,fun _ W13 _=>⟨?_,trivial⟩⟩⟩
 ·have hk3:k<3:=by omega
  obtain⟨_,r1⟩:=h1.ext hE
  obtain⟨_,r2⟩:=h2.ext hE
  refine⟨r1.inB (by omega) (by simp;omega),_,row_mon (k:=k) r1 hk3,fun h=>by omega,fun _=>⟨r2.inB (by omega) (by simp;omega),_,row_mon (k:=k) r2 hk3,cmpU8_call fun W9 hE9 _=>⟨_,rfl,fun hne W11 _=>⟨?_,trivial⟩,fun heq=>⟨by unfold I64;omega,⟨hE.trans hE9,k+1,by push_cast;rfl,by omega,fun j h=>?_⟩,?_⟩⟩⟩⟩
  ·have:eget a k≠eget b k:=fun e=>hne (by rw[e];unfold cmpI;simp)
   rw[lexM_at hk3 hj this]
  ·by_cases e:j=k
   ·subst e
    unfold cmpI at heq
    by_cases h1:eget a j<eget b j
    ·simp[h1] at heq
    ·by_cases h2:eget a j=eget b j
     ·exact h2
     ·simp[h1,h2] at heq
   ·exact hj j (by omega)
  ·show 3-Int.toNat ((k:Int)+1)<3-Int.toNat (k:Int)
   omega
 ·have:k=3:=by omega
  subst this
  rw[lexM_eq hj]
theorem cmpSl_call {W0 W:PW} {M:Nat→Prop} {s t:Sl} {a b:Mon} {K:Value→PW→Prop} (h1:RowA W 1 s [[.int .u8 a.x],[.int .u8 a.y],[.int .u8 a.z]]) (h2:RowA W 1 t [[.int .u8 b.x],[.int .u8 b.y],[.int .u8 b.z]]) (kont: ∀(W':PW),Ext W W'→(True)→K (.int .i64 (lexM a b)) W'):
  callN Go.Proofs.Tryz.prog W0 M 163 [s.v,t.v] W K:=
 callN_of (fun W' hE=>cmpSl_ok (M:=fun _=>False) (h1.ext hE) (h2.ext hE)) (fun W' v W'' hE hE' hP=>by
  obtain⟨rfl,h⟩:=hP
  exact kont W'' (hE.trans hE') h)
theorem monoCmp_ok {W0:PW} {M:Nat→Prop} {a b:Mon} (ha:a.ok) (hb:b.ok):
  PCallsM Go.Proofs.Tryz.prog 110 [.agg ⟨[.int .u8 a.x,.int .u8 a.y,.int .u8 a.z]⟩,.agg ⟨[.int .u8 b.x,.int .u8 b.y,.int .u8 b.z]⟩] W0 M fun v W'=>v = .int .i64 (a.cmp b)∧True:=by
 apply callmono_Cmp
 refine monoDegree_call ha fun W2 _ _=>⟨_,rfl,monoDegree_call hb fun W5 _ _=>⟨_,rfl,cmpInt_call fun W8 _ _=>⟨_,rfl,fun s10 W11 hE11 h11 _ s12 W13 hE13 h13 _=>cmpSl_call (h11.ext hE13) h13 fun W15 _ _=>⟨_,rfl,fun s17 W18 _ hO _=>cmpOr_call ⟨_,hO.row⟩ fun W20 _ _=>⟨_,rfl,fun W22 _=>⟨?_,trivial⟩⟩⟩⟩⟩⟩
 rw[cmpM_eq]
theorem monoCmp_call {W0 W:PW} {M:Nat→Prop} {a b:Mon} {K:Value→PW→Prop} (ha:a.ok) (hb:b.ok) (kont: ∀(W':PW),Ext W W'→(True)→K (.int .i64 (a.cmp b)) W'):
  callN Go.Proofs.Tryz.prog W0 M 110 [.agg ⟨[.int .u8 a.x,.int .u8 a.y,.int .u8 a.z]⟩,.agg ⟨[.int .u8 b.x,.int .u8 b.y,.int .u8 b.z]⟩] W K:=
 callN_of (fun W' hE=>monoCmp_ok (M:=fun _=>False) ha hb) (fun W' v W'' hE hE' hP=>by
  obtain⟨rfl,h⟩:=hP
  exact kont W'' (hE.trans hE') h)
theorem wrap8 {z:Int} (h0:0≤z) (h:z≤255):IntKind.wrap .u8 z=z:=by simp[IntKind.wrap,IntKind.bits,IntKind.signed];omega
instance (m:Mon):Decidable m.ok:=by unfold Mon.ok;infer_instance
end Go.Proofs.YtjgpenfndnhdnaaGreat

/- Layings of the library's generic functions, as the kit's command says them. -/
set_option maxRecDepth 100000
namespace Go.Proofs.YtjgpenfndnhdnaaGreat
open Go Go.Shelf Go.Proofs
end Go.Proofs.YtjgpenfndnhdnaaGreat

/- slices.SortFunc of a polynomial's terms. -/
set_option maxRecDepth 100000
set_option linter.unusedVariables false
set_option linter.unusedSimpArgs false
namespace Go.Proofs.YtjgpenfndnhdnaaGreat
open Go Go.SX
abbrev TmE:Type:={m:Mon // m.ok}×Sl×Bool×Sl
instance:Inhabited TmE:=⟨⟨⟨0,0,0⟩,by decide⟩,⟨none,0,0⟩,false,⟨none,0,0⟩⟩
end Go.Proofs.YtjgpenfndnhdnaaGreat

/- poly: sums.add, sums.poly, New. -/
set_option maxRecDepth 100000
set_option linter.unusedVariables false
set_option linter.unusedSimpArgs false
namespace Go.Proofs.YtjgpenfndnhdnaaGreat
open Go Go.SX
end Go.Proofs.YtjgpenfndnhdnaaGreat

/- poly: sums.add, sums.poly, New. -/
set_option maxRecDepth 100000
set_option linter.unusedVariables false
set_option linter.unusedSimpArgs false
namespace Go.Proofs.YtjgpenfndnhdnaaGreat
open Go Go.SX
theorem nodup_inj {α:Type} : ∀{l:List α},l.Nodup→∀{i j:Nat} {a:α},l[i]?=some a→l[j]?=some a→i=j
 | [],_,i,j,a,h,_=>by simp at h
 | x :: l,hn,0,0,a,_,_=>rfl
 | x :: l,hn,0,j+1,a,h,k=>by
  simp only[List.getElem?_cons_zero,Option.some.injEq,List.getElem?_cons_succ] at h k
  subst h
  exact absurd (List.mem_of_getElem? k) (List.nodup_cons.1 hn).1
 | x :: l,hn,i+1,0,a,h,k=>by
  simp only[List.getElem?_cons_zero,Option.some.injEq,List.getElem?_cons_succ] at h k
  subst k
  exact absurd (List.mem_of_getElem? h) (List.nodup_cons.1 hn).1
 | x :: l,hn,i+1,j+1,a,h,k=>by
  simp only[List.getElem?_cons_succ] at h k
  rw[nodup_inj (List.nodup_cons.1 hn).2 h k]
end Go.Proofs.YtjgpenfndnhdnaaGreat
