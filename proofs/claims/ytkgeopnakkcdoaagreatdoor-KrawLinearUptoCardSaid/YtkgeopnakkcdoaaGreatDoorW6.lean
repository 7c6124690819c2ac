import Derived.Test.YtkgeopnakkcdoaaGreatDoorW4
import Derived.Test.YtkgeopnakkcdoaaGreatDoorR4
import Derived.Test.YtkgeopnakkcdoaaGreatDoorLib3
import Derived.Test.YtkgeopnakkcdoaaGreatDoorW5
import Derived.Test.YtkgeopnakkcdoaaGreatDoorW3
import Derived.Test.YtkgeopnakkcdoaaGreatDoorR5
import Derived.Shelf.SlSortCmp.WholeK
import Derived.Shelf.SlGeneric
import Derived.Test.YtkgeopnakkcdoaaGreatDoorProg
import Derived.Maps.Keyed
import Derived.DeepKeys5
set_option linter.unusedVariables false
set_option linter.unusedSimpArgs false
set_option maxRecDepth 100000
namespace Go.Proofs.YtkgeopnakkcdoaaGreatDoor
open Go Go.SX
end Go.Proofs.YtkgeopnakkcdoaaGreatDoor
namespace Go.Proofs.YtkgeopnakkcdoaaGreatDoor
open Go Go.SX
end Go.Proofs.YtkgeopnakkcdoaaGreatDoor
namespace Go.Proofs.YtkgeopnakkcdoaaGreatDoor
open Go Go.SX
variable {K:Value->PW->Prop}{M:Nat->Prop}{W W0:PW}{a b m:Mon}{k:Nat}{s:Sl}{x y:Int}
theorem De3:
  Aa0 Tryz.prog 262 [.int .i64 x] W0 M λ v W'=>v = .bool false/\True:=by
 apply Bi1;exact λ c _=>⟨by simp,trivial⟩
theorem Bf6 (d: ∀(W':PW),Ext W W'->(True)->K (.bool false) W'):
  Aa1 Tryz.prog W0 M 262 [.int .i64 x] W K:=
 Mi4 (λ _ c=>De3 ) fun | _,W',c,⟨rfl,h⟩=>d W' c h
theorem Du6:
  Aa0 Tryz.prog 277 [.int .u8 x] W0 M λ v W'=>v = .bool false/\True:=by
 apply Bb5;exact λ c _=>⟨by simp,trivial⟩
theorem Bk7 (d: ∀(W':PW),Ext W W'->(True)->K (.bool false) W'):
  Aa1 Tryz.prog W0 M 277 [.int .u8 x] W K:=
 Mi4 (λ _ c=>Du6 ) fun | _,W',c,⟨rfl,h⟩=>d W' c h
theorem Ed4:
  Aa0 Tryz.prog 239 [.int .i64 x,.int .i64 y] W0 M λ v W'=>v = .int .i64 (As4 x y)/\True:=by
 apply Ba9;refine Bf6 λ d _ _=>⟨false,rfl,Bf6 λ e _ _=>⟨false,rfl,λ h=>(by cases h),λ _=>⟨λ h=>(by cases h),λ _=>⟨λ h W _=>⟨?_,trivial⟩,λ h=>⟨λ c W _=>⟨?_,trivial⟩,λ c W _=>⟨?_,trivial⟩⟩⟩⟩⟩⟩
 ·unfold As4;rw[if_pos h]
 ·unfold As4;rw[if_neg h,if_neg (by omega)]
 ·unfold As4;rw[if_neg h,if_pos (by omega)]
theorem Dj2 (d: ∀(W':PW),Ext W W'->(True)->K (.int .i64 (As4 x y)) W'):
  Aa1 Tryz.prog W0 M 239 [.int .i64 x,.int .i64 y] W K:=
 Mi4 (λ _ c=>Ed4 ) fun | _,W',c,⟨rfl,h⟩=>d W' c h
theorem Eu5:
  Aa0 Tryz.prog 263 [.int .u8 x,.int .u8 y] W0 M λ v W'=>v = .int .i64 (As4 x y)/\True:=by
 apply Aw3;refine Bk7 λ d _ _=>⟨false,rfl,Bk7 λ e _ _=>⟨false,rfl,λ h=>(by cases h),λ _=>⟨λ h=>(by cases h),λ _=>⟨λ h W _=>⟨?_,trivial⟩,λ h=>⟨λ c W _=>⟨?_,trivial⟩,λ c W _=>⟨?_,trivial⟩⟩⟩⟩⟩⟩
 ·unfold As4;rw[if_pos h]
 ·unfold As4;rw[if_neg h,if_neg (by omega)]
 ·unfold As4;rw[if_neg h,if_pos (by omega)]
theorem Dy4 (d: ∀(W':PW),Ext W W'->(True)->K (.int .i64 (As4 x y)) W'):
  Aa1 Tryz.prog W0 M 263 [.int .u8 x,.int .u8 y] W K:=
 Mi4 (λ _ c=>Eu5 ) fun | _,W',c,⟨rfl,h⟩=>d W' c h
theorem Ew1 (h:Bf9 W0 1 s [[.int .i64 x],[.int .i64 y]]):
  Aa0 Tryz.prog 238 [s.v] W0 M λ v W'=>v = .int .i64 (if x≠0 then x else y)/\True:=by
 apply Cd0;have o:s.n=2:=let⟨_,h⟩:=h;h.1
 refine⟨λ l W=>match l with | [.val (.int .i64 i)]=>Ext W0 W/\∃k:Nat,i=(k:Int)/\k<=2/\(0<k->x=0)/\(1<k->y=0) | _=>False,λ l _=>match l with | [.val (.int .i64 i)]=>2-i.toNat | _=>0,⟨Ext.refl _,0,rfl,by omega,by omega,by omega⟩,?_⟩;rintro i3 f ⟨d,k,rfl,hk,c,j⟩;refine⟨λ r=>?_,λ u w _=>⟨?_,trivial⟩⟩
 ·have z:k<2:=by omega
  obtain⟨t,h⟩:=h.ext d;have n:Aa7 f s 1 k 0 [.int .i64 (if k=0 then x else y)]:=by
   rcases(by omega:k=0\/k=1) with rfl | rfl
   ·exact h.part (x:=[.int .i64 x]) rfl 0 rfl
   ·exact h.part (x:=[.int .i64 y]) rfl 0 rfl
  refine⟨h.inB (by omega) (by simp;omega),_,n,λ e A _=>⟨?_,trivial⟩,λ heq=>⟨by unfold I64;omega,⟨d,k+1,by push_cast;rfl,by omega,λ _=>?_,λ h1=>?_⟩,?_⟩⟩
  ·rcases(by omega:k=0\/k=1) with rfl | rfl
   ·rw[if_pos rfl] at e
    rw[if_pos rfl,if_pos e]
   ·rw[if_neg (by omega),if_neg (λ h=>h (c (by omega)))]
  ·rcases(by omega:k=0\/k=1) with rfl | rfl
   ·rw[if_pos rfl] at heq
    omega
   ·exact c (by omega)
  ·have:k=1:=by omega
   subst this;rw[if_neg (by omega)] at heq;omega
  ·show 2-Int.toNat ((k:Int)+1)<2-Int.toNat (k:Int)
   omega
 ·rw[if_neg (λ h=>h (c (by omega))),j (by omega)]
theorem Dw1 (h:Bf9 W 1 s [[.int .i64 x],[.int .i64 y]])(d: ∀(W':PW),Ext W W'->(True)->K (.int .i64 (if x≠0 then x else y)) W'):
  Aa1 Tryz.prog W0 M 238 [s.v] W K:=
 Mi4 (λ _ c=>Ew1 (h.ext c)) fun | _,W',c,⟨rfl,h⟩=>d W' c h
def An6 (m:Mon) (k:Nat):Int:=if k=0 then m.x else if k=1 then m.y else m.z
theorem Cn5 (m:Mon)(hk:k<3):List.take 1 (List.drop (Int.toNat (k:Int)*1) [Value.int .u8 m.x,.int .u8 m.y,.int .u8 m.z]) = [.int .u8 (An6 m k)]:=by
 rcases(by omega:k=0\/k=1\/k=2) with rfl | rfl | rfl<;>rfl
theorem Dg9 (h:m.ok)(k:Nat):0<=An6 m k/\An6 m k<=255:=by
 unfold Mon.ok at h;unfold An6;split
 ·omega
 ·split<;>omega
theorem Ck8 (hm:m.ok):
  Aa0 Tryz.prog 240 [.agg ⟨[.int .u8 m.x,.int .u8 m.y,.int .u8 m.z]⟩] W0 M λ v W'=>v = .int .i64 m.deg/\True:=by
 apply Bp2;refine⟨λ l W=>match l with | [.val (.int .i64 a),.val (.int .i64 i)]=>Ext W0 W/\∃k:Nat,i=(k:Int)/\k<=3/\a=(if 0<k then m.x else 0)+(if 1<k then m.y else 0)+(if 2<k then m.z else 0) | _=>False,λ l _=>match l with | [_,.val (.int .i64 i)]=>3-i.toNat | _=>0,⟨Ext.refl _,0,rfl,by omega,by simp⟩,?_⟩;rintro i3 i4 f ⟨c,k,rfl,hk,rfl⟩;have d:=hm;unfold Mon.ok at d;refine⟨λ h=>?_,λ j n _=>⟨?_,trivial⟩⟩
 ·have e:k<3:=by omega
  have o:=Dg9 hm k;have r:0<=(if 0<k then m.x else 0)+(if 1<k then m.y else 0)+(if 2<k then m.z else 0)/\(if 0<k then m.x else 0)+(if 1<k then m.y else 0)+(if 2<k then m.z else 0)<=765:=by
   repeat' split
   all_goals omega
  refine⟨⟨by omega,by omega⟩,_,Cn5 m e,by unfold I64;omega,by unfold I64;omega,by unfold I64;omega,⟨c,k+1,by push_cast;rfl,by omega,?_⟩,?_⟩
  ·rcases(by omega:k=0\/k=1\/k=2) with rfl | rfl | rfl<;>simp[An6]
  ·show 3-Int.toNat ((k:Int)+1)<3-Int.toNat (k:Int)
   omega
 ·have:k=3:=by omega
  subst this;simp[Mon.deg]
theorem Ax1 (hm:m.ok)(d: ∀(W':PW),Ext W W'->(True)->K (.int .i64 m.deg) W'):
  Aa1 Tryz.prog W0 M 240 [.agg ⟨[.int .u8 m.x,.int .u8 m.y,.int .u8 m.z]⟩] W K:=
 Mi4 (λ _ c=>Ck8 hm) fun | _,W',c,⟨rfl,h⟩=>d W' c h
def Ey8 (a b:Mon):Int:=if a.x≠b.x then As4 a.x b.x else if a.y≠b.y then As4 a.y b.y else As4 a.z b.z
theorem Dh1 (hk:k<3)(h: ∀j,j<k->An6 a j=An6 b j)(d:An6 a k≠An6 b k):Ey8 a b=As4 (An6 a k) (An6 b k):=by
 unfold Ey8;rcases(by omega:k=0\/k=1\/k=2) with rfl | rfl | rfl
 ·rw[if_pos (by simpa[An6] using d)];rfl
 ·have c:=h 0 (by omega)
  rw[if_neg (λ e=>e (by simpa[An6] using c)),if_pos (by simpa[An6] using d)];rfl
 ·have c:=h 0 (by omega)
  have h1:=h 1 (by omega);rw[if_neg (λ e=>e (by simpa[An6] using c)),if_neg (λ e=>e (by simpa[An6] using h1))];rfl
theorem Eq5 (h: ∀j,j<3->An6 a j=An6 b j):Ey8 a b=0:=by
 have c:a.x=b.x:=by simpa[An6] using h 0 (by omega)
 have h1:a.y=b.y:=by simpa[An6] using h 1 (by omega)
 have d:a.z=b.z:=by simpa[An6] using h 2 (by omega)
 unfold Ey8 As4;rw[if_neg (λ e=>e c),if_neg (λ e=>e h1),if_neg (by omega),if_pos d]
theorem Ch0 (a b:Mon):a.cmp b=(if As4 a.deg b.deg≠0 then As4 a.deg b.deg else Ey8 a b):=by
 unfold Mon.cmp Mon.lt Ey8 As4
 by_cases h1:a.deg<b.deg
 ·simp[h1]
 ·by_cases c:a.deg=b.deg
  ·by_cases d:a.x=b.x
   ·by_cases f:a.y=b.y
    ·by_cases h:a.z=b.z
     ·have:a=b:=Mon.Fp2 d f h
      subst this;simp
     ·have:a≠b:=λ e=>h (by rw[e])
      simp[c,d,f,h,this]
    ·have:a≠b:=λ e=>f (by rw[e])
     simp[c,d,f,this]
   ·have:a≠b:=λ e=>d (by rw[e])
    simp[c,d,this]
  ·have:a≠b:=λ e=>c (by rw[e])
   simp[h1,c,this]
theorem Ef2 {t:TypeId}(h:Row W t 1 s [[.int .u8 m.x],[.int .u8 m.y],[.int .u8 m.z]])(hk:k<3):Aa7 W s 1 k 0 [.int .u8 (An6 m k)]:=by
 rcases(by omega:k=0\/k=1\/k=2) with rfl | rfl | rfl
 ·exact h.part (x:=[.int .u8 m.x]) rfl 0 rfl
 ·exact h.part (x:=[.int .u8 m.y]) rfl 0 rfl
 ·exact h.part (x:=[.int .u8 m.z]) rfl 0 rfl
theorem Ex1 {t:Sl}(h1:Bf9 W0 1 s [[.int .u8 a.x],[.int .u8 a.y],[.int .u8 a.z]])(c:Bf9 W0 1 t [[.int .u8 b.x],[.int .u8 b.y],[.int .u8 b.z]]):
  Aa0 Tryz.prog 241 [s.v,t.v] W0 M λ v W'=>v = .int .i64 (Ey8 a b)/\True:=by
 apply Am4;have w:s.n=3:=let⟨_,h⟩:=h1;h.1
 have z:t.n=3:=let⟨_,h⟩:=c;h.1
 refine⟨λ l W=>match l with | [.val (.int .i64 i)]=>Ext W0 W/\∃k:Nat,i=(k:Int)/\k<=3/\∀j,j<k->An6 a j=An6 b j | _=>False,λ l _=>match l with | [.val (.int .i64 i)]=>3-i.toNat | _=>0,⟨Ext.refl _,0,rfl,by omega,λ j d=>by omega⟩,?_⟩;rintro i3 A ⟨f,k,rfl,hk,d⟩;refine⟨λ B=>?_,λ C=>⟨λ h=>by omega,λ _ D _=>⟨?_,trivial⟩⟩⟩
 ·have n:k<3:=by omega
  obtain⟨_,r1⟩:=h1.ext f;obtain⟨_,o⟩:=c.ext f;refine⟨r1.inB (by omega) (by simp;omega),_,Ef2 (k:=k) r1 n,λ h=>by omega,λ _=>⟨o.inB (by omega) (by simp;omega),_,Ef2 (k:=k) o n,Dy4 λ F r _=>⟨_,rfl,λ u G _=>⟨?_,trivial⟩,λ heq=>⟨by unfold I64;omega,⟨f.trans r,k+1,by push_cast;rfl,by omega,λ j h=>?_⟩,?_⟩⟩⟩⟩
  ·have:An6 a k≠An6 b k:=λ e=>u (by rw[e];unfold As4;simp)
   rw[Dh1 n d this]
  ·by_cases e:j=k
   ·subst e
    unfold As4 at heq
    by_cases h1:An6 a j<An6 b j
    ·simp[h1] at heq
    ·by_cases c:An6 a j=An6 b j
     ·exact c
     ·simp[h1,c] at heq
   ·exact d j (by omega)
  ·show 3-Int.toNat ((k:Int)+1)<3-Int.toNat (k:Int)
   omega
 ·have:k=3:=by omega
  subst this;rw[Eq5 d]
theorem Eb5 {t:Sl}(h1:Bf9 W 1 s [[.int .u8 a.x],[.int .u8 a.y],[.int .u8 a.z]])(d:Bf9 W 1 t [[.int .u8 b.x],[.int .u8 b.y],[.int .u8 b.z]])(e: ∀(W':PW),Ext W W'->(True)->K (.int .i64 (Ey8 a b)) W'):
  Aa1 Tryz.prog W0 M 241 [s.v,t.v] W K:=
 Mi4 (λ _ c=>Ex1 (h1.ext c) (d.ext c)) fun | _,W',c,⟨rfl,h⟩=>e W' c h
theorem Dy0 (c:a.ok)(d:b.ok):
  Aa0 Tryz.prog 193 [.agg ⟨[.int .u8 a.x,.int .u8 a.y,.int .u8 a.z]⟩,.agg ⟨[.int .u8 b.x,.int .u8 b.y,.int .u8 b.z]⟩] W0 M λ v W'=>v = .int .i64 (a.cmp b)/\True:=by
 apply Cp6;refine Ax1 c λ i _ _=>⟨_,rfl,Ax1 d λ j _ _=>⟨_,rfl,Dj2 λ l _ _=>⟨_,rfl,λ n o r e _ t u f h _=>Eb5 (e.ext f) h λ w _ _=>⟨_,rfl,λ z A _ hO _=>Dw1 ⟨_,hO.row⟩ λ B _ _=>⟨_,rfl,λ C _=>⟨?_,trivial⟩⟩⟩⟩⟩⟩;rw[Ch0]
theorem Bk9 (d:a.ok)(e:b.ok)(f: ∀(W':PW),Ext W W'->(True)->K (.int .i64 (a.cmp b)) W'):
  Aa1 Tryz.prog W0 M 193 [.agg ⟨[.int .u8 a.x,.int .u8 a.y,.int .u8 a.z]⟩,.agg ⟨[.int .u8 b.x,.int .u8 b.y,.int .u8 b.z]⟩] W K:=
 Mi4 (λ _ c=>Dy0 d e) fun | _,W',c,⟨rfl,h⟩=>f W' c h
theorem Du1 {z:Int}(c:0<=z)(h:z<=255):IntKind.wrap .u8 z=z:=by simp[IntKind.wrap,IntKind.bits,IntKind.signed];omega
instance (m:Mon):Decidable m.ok:=by unfold Mon.ok;infer_instance
theorem Dz4 {s1:Sl}{s2:Sl}{s3:Sl}{s4:Sl}{b1:Bool}{b2:Bool}(c:a.ok)(d:b.ok):
  Aa0 Tryz.prog 231 [.agg ⟨[.int .u8 a.x,.int .u8 a.y,.int .u8 a.z,s1.v,.bool b1,s2.v]⟩,.agg ⟨[.int .u8 b.x,.int .u8 b.y,.int .u8 b.z,s3.v,.bool b2,s4.v]⟩] W0 M λ v W'=>v = .int .i64 (a.cmp b)/\True:=by
 apply Az1;exact Bk9 c d λ e _ _=>⟨_,rfl,λ f _=>⟨rfl,trivial⟩⟩
end Go.Proofs.YtkgeopnakkcdoaaGreatDoor
namespace Go.Proofs.YtkgeopnakkcdoaaGreatDoor
open Go Go.Shelf Go.Proofs
def Dt7:Go.Shelf.Ren:=⟨fun | 6=>230 | 15=>261 | 14=>260 | 28=>173 | 29=>276 | 20=>268 | 21=>269 | 22=>270 | 23=>271 | 24=>272 | 25=>273 | 26=>274 | 27=>275 | 46=>278 | 47=>279 | 48=>280 | 49=>281 | 50=>282 | 57=>283 | n=>n,fun | 22=>65 | 24=>169 | 25=>313 | 3=>3 | 39=>290 | 0=>0 | 53=>257 | 55=>244 | 4=>4 | 46=>343 | 45=>342 | 50=>347 | 5=>5 | 9=>9 | 66=>352 | 70=>355 | 76=>357 | 77=>358 | n=>n,fun | n=>n⟩
theorem Fe0:Go.Proofs.SlLaysF0.n6 Tryz.prog Dt7 where
 mixed:=by kernel_rfl
 f6:=⟨ "slices.SortFunc[[]cincture/poly.Term,cincture/poly.Term]",by decide,Tryz.func230.trans (congrArg some (by kernel_rfl))⟩
 f14:=⟨ "slices.pdqsortCmpFunc[cincture/poly.Term]",by decide,Tryz.func260.trans (congrArg some (by kernel_rfl))⟩
 f15:=Tryz.func261.trans (congrArg some (by kernel_rfl))
 f20:=⟨ "slices.insertionSortCmpFunc[cincture/poly.Term]",by decide,Tryz.func268.trans (congrArg some (by kernel_rfl))⟩
 f21:=⟨ "slices.heapSortCmpFunc[cincture/poly.Term]",by decide,Tryz.func269.trans (congrArg some (by kernel_rfl))⟩
 f22:=⟨ "slices.breakPatternsCmpFunc[cincture/poly.Term]",by decide,Tryz.func270.trans (congrArg some (by kernel_rfl))⟩
 f23:=⟨ "slices.choosePivotCmpFunc[cincture/poly.Term]",by decide,Tryz.func271.trans (congrArg some (by kernel_rfl))⟩
 f24:=⟨ "slices.reverseRangeCmpFunc[cincture/poly.Term]",by decide,Tryz.func272.trans (congrArg some (by kernel_rfl))⟩
 f25:=⟨ "slices.partialInsertionSortCmpFunc[cincture/poly.Term]",by decide,Tryz.func273.trans (congrArg some (by kernel_rfl))⟩
 f26:=⟨ "slices.partitionEqualCmpFunc[cincture/poly.Term]",by decide,Tryz.func274.trans (congrArg some (by kernel_rfl))⟩
 f27:=⟨ "slices.partitionCmpFunc[cincture/poly.Term]",by decide,Tryz.func275.trans (congrArg some (by kernel_rfl))⟩
 f28:=Tryz.func173.trans (congrArg some (by kernel_rfl))
 f29:=Tryz.func276.trans (congrArg some (by kernel_rfl))
 f46:=⟨ "slices.siftDownCmpFunc[cincture/poly.Term]",by decide,Tryz.func278.trans (congrArg some (by kernel_rfl))⟩
 f47:=Tryz.func279.trans (congrArg some (by kernel_rfl))
 f48:=Tryz.func280.trans (congrArg some (by kernel_rfl))
 f49:=⟨ "slices.medianAdjacentCmpFunc[cincture/poly.Term]",by decide,Tryz.func281.trans (congrArg some (by kernel_rfl))⟩
 f50:=⟨ "slices.medianCmpFunc[cincture/poly.Term]",by decide,Tryz.func282.trans (congrArg some (by kernel_rfl))⟩
 f57:=⟨ "slices.order2CmpFunc[cincture/poly.Term]",by decide,Tryz.func283.trans (congrArg some (by kernel_rfl))⟩
 t0:=Tryz.underlying0
 a0:=Tryz.isAgg0
 z0:=Tryz.sizeOf0
 v0:=Tryz.zeroValue0
 t3:=Tryz.underlying3
 a3:=Tryz.isAgg3
 z3:=Tryz.sizeOf3
 v3:=Tryz.zeroValue3
 t4:=Tryz.underlying4
 a4:=Tryz.isAgg4
 z4:=Tryz.sizeOf4
 v4:=Tryz.zeroValue4
 t5:=Tryz.underlying5
 a5:=Tryz.isAgg5
 z5:=Tryz.sizeOf5
 v5:=Tryz.zeroValue5
 t9:=Tryz.underlying9
 a9:=Tryz.isAgg9
 z9:=Tryz.sizeOf9
 v9:=Tryz.zeroValue9
 t22:=Tryz.underlying65
 a22:=Tryz.isAgg65
 z22:=Tryz.sizeOf65
 v22:=Tryz.zeroValue65
 t25:=Tryz.underlying313
 a25:=Tryz.isAgg313
 z25:=Tryz.sizeOf313
 v25:=Tryz.zeroValue313
 t39:=Tryz.underlying290
 a39:=Tryz.isAgg290
 z39:=Tryz.sizeOf290
 v39:=Tryz.zeroValue290
 t45:=Tryz.underlying342
 a45:=Tryz.isAgg342
 z45:=Tryz.sizeOf342
 v45:=Tryz.zeroValue342
 t46:=Tryz.underlying343
 a46:=Tryz.isAgg343
 z46:=Tryz.sizeOf343
 v46:=Tryz.zeroValue343
 t50:=Tryz.underlying347
 a50:=Tryz.isAgg347
 z50:=Tryz.sizeOf347
 v50:=Tryz.zeroValue347
 t53:=Tryz.underlying257
 a53:=Tryz.isAgg257
 z53:=Tryz.sizeOf257
 v53:=Tryz.zeroValue257
 t55:=Tryz.underlying244
 a55:=Tryz.isAgg244
 z55:=Tryz.sizeOf244
 v55:=Tryz.zeroValue244
 t66:=Tryz.underlying352
 a66:=Tryz.isAgg352
 z66:=Tryz.sizeOf352
 v66:=Tryz.zeroValue352
 t70:=Tryz.underlying355
 a70:=Tryz.isAgg355
 z70:=Tryz.sizeOf355
 v70:=Tryz.zeroValue355
 t76:=Tryz.underlying357
 a76:=Tryz.isAgg357
 z76:=Tryz.sizeOf357
 v76:=Tryz.zeroValue357
 t77:=Tryz.underlying358
 a77:=Tryz.isAgg358
 z77:=Tryz.sizeOf358
 v77:=Tryz.zeroValue358
end Go.Proofs.YtkgeopnakkcdoaaGreatDoor
namespace Go.Proofs.YtkgeopnakkcdoaaGreatDoor
open Go Go.SX
variable {W:PW}{p:List Tm}{s:Sl}{xs:List (List Value)}
abbrev TmE:Type:={m:Mon // m.ok}×Sl×Bool×Sl
variable {L:List TmE}
instance:Inhabited TmE:=⟨⟨⟨0,0,0⟩,by decide⟩,⟨none,0,0⟩,false,⟨none,0,0⟩⟩
def Bq7 (x:TmE):List Value:=[.int .u8 x.1.1.x,.int .u8 x.1.1.y,.int .u8 x.1.1.z,x.2.1.v,.bool x.2.2.1,x.2.2.2.v]
def Er5 (x y:TmE):Int:=x.1.1.cmp y.1.1
theorem Bp1 (x:TmE):(Bq7 x).length=6:=rfl
theorem Cu3 (x:TmE): ∀v∈Bq7 x,v.oneCell'=true:=by
 intro v c;simp only[Bq7,List.mem_cons,List.not_mem_nil,or_false] at c;rcases c with rfl | rfl | rfl | rfl | rfl | rfl<;>rfl
theorem Fo8 (x y:TmE):Proofs.ltOf Er5 x y=decide (x.1.1.lt y.1.1):=by
 unfold Proofs.ltOf Er5;simp only[Mon.Dm2]
theorem Fr8:Go.Sort.SWO (Proofs.ltOf Er5) where
 irrefl x:=by rw[Fo8];exact decide_eq_false (Mon.lt_irrefl _)
 trans x y z h1 c:=by
  rw[Fo8] at *;exact decide_eq_true (Mon.lt_trans (of_decide_eq_true h1) (of_decide_eq_true c))
 ntrans x y z h1 c:=by
  rw[Fo8] at *;have h1:=of_decide_eq_false h1;have c:=of_decide_eq_false c;refine decide_eq_false λ h=>?_
  by_cases e:x.1.1=y.1.1
  ·rw[e] at h;exact c h
  ·have:=Mon.Bo9 h1 e
   exact c (Mon.lt_trans this h)
theorem Ej6 (g n:Nat)(w:World):Proofs.CmpLays Tryz.prog 231 #[] Bq7 6 Er5 g 0 n w:=by
 intro m os c _ x y;have h:=(Dz4 (W0:=⟨Proofs.sortWorldK Bq7 6 w g 0 m c os,λ _=>False⟩) (M:=λ _=>False) (a:=x.1.1) (b:=y.1.1) (s1:=x.2.1) (s2:=x.2.2.2) (s3:=y.2.1) (s4:=y.2.2.2) (b1:=x.2.2.1) (b2:=y.2.2.1) x.1.2 y.1.2).2 (λ b d=>d.elim);refine Calls.mono h ?_;rintro e w' ⟨v,rfl,f,rfl,_⟩;exact⟨rfl,Cw5 f⟩
theorem Ev8 (h:An5 (PT 257 W) xs p): ∃L:List TmE,xs=L.map Bq7/\An5 (λ(a:TmE) (t:Tm)=>a.1.1=t.1/\Ab3 257 W a.2.1 a.2.2.1 a.2.2.2 t.2) L p:=by
 induction xs generalizing p with
 | nil=>
  cases p with
  | nil=>exact⟨[],rfl,trivial⟩
  | cons t p=>exact h.elim
 | cons x xs ih=>
  cases p with
  | nil=>exact h.elim
  | cons t p=>
   obtain⟨L,h1,c⟩:=ih h.2;obtain⟨d,s,b,s',e,f⟩:=h.1;exact⟨(⟨t.1,d⟩,s,b,s')::L,by rw[List.map_cons,<-h1,e];rfl,⟨rfl,f⟩,c⟩
theorem Ew4 (h:An5 (λ(a:TmE) (t:Tm)=>a.1.1=t.1/\Ab3 257 W a.2.1 a.2.2.1 a.2.2.2 t.2) L p):An5 (PT 257 W) (L.map Bq7) p:=by
 induction L generalizing p with
 | nil=>
  cases p with
  | nil=>trivial
  | cons t p=>exact h.elim
 | cons x xs ih=>
  cases p with
  | nil=>exact h.elim
  | cons t p=>
   obtain⟨h1,c⟩:=h.1;refine⟨⟨by rw[<-h1];exact x.1.2,_,_,_,?_,c⟩,ih h.2⟩;rw[<-h1];rfl
theorem Ci0 (h:An5 (λ(a:TmE) (t:Tm)=>a.1.1=t.1/\Ab3 257 W a.2.1 a.2.2.1 a.2.2.2 t.2) L p)(c:L.Pairwise λ a b=>¬b.1.1.lt a.1.1):p.Pairwise λ a b=>¬b.1.lt a.1:=by
 have d:p.map (·.1)=L.map (·.1.1):=by
  clear c
  induction L generalizing p with
  | nil=>
   cases p with
   | nil=>rfl
   | cons t p=>exact h.elim
  | cons x xs ih=>
   cases p with
   | nil=>exact h.elim
   | cons t p=>rw[List.map_cons,List.map_cons,ih h.2,h.1.1]
 have h1:(L.map (·.1.1)).Pairwise λ a b:Mon=>¬b.lt a:=List.pairwise_map.2 c;rw[<-d] at h1;exact List.pairwise_map.1 h1
theorem Do0 {q:List Tm}(c:q.Perm p)(d:(p.map (·.1)).Nodup)(f: ∀t∈p,t.2≠0)(h:q.Pairwise λ a b=>¬b.1.lt a.1):q=Ag2 p:=by
 refine(Ds8 ⟨?_,λ t i=>f t (c.mem_iff.1 i)⟩ λ m=>Da7 c m).symm;have j:(q.map (·.1)).Nodup:=(c.map _).nodup_iff.2 d;have l:q.Pairwise λ a b=>a.1≠b.1:=List.pairwise_map.1 j;exact(h.and l).imp λ⟨h1,n⟩=>Mon.Bo9 h1 (λ e=>n e.symm)
theorem Ab3.wr {tu:TypeId}{g:Nat}{W':PW}{s':Sl}{b:Bool}{cs:Array Value}{tt:TypeId}{q:Rat}(h:Ab3 tu W s b s' q)(c:Au9 (· = g) W W')(d:W.w.heap[g]?=some (.cells cs tt (0,0)))(e:tu≠tt):Ab3 tu W' s b s' q:=
 ⟨⟨Row.put h.1.1 c d e,h.1.2⟩,Row.put h.2 c d e⟩
theorem Dh7 {W0:PW}(hO:Go.SX.Own W0 169 6 s xs)(C:An5 (PT 257 W0) xs p)(D:(p.map (·.1)).Nodup)(F: ∀t∈p,t.2≠0)(S:p.length<=1099511627776):
  Aa0 Tryz.prog 230 [s.v,.func (.func 231) #[] #[]] W0 (λ b=>s.v.ownBlock=some b) λ v W'=>v = .tuple #[]/\Ch2 257 169 W' s (Ag2 p):=by
 refine⟨⟨_,Tryz.func230,by kernel_rfl,by kernel_rfl⟩,λ T=>?_⟩;obtain⟨L,rfl,r⟩:=Ev8 C;have f:s.n=L.length:=by rw[hO.row.1];simp
 have hlen:L.length=p.length:=r.len
 by_cases u:L = []
 ·subst u
  have i:p = []:=List.eq_nil_of_length_eq_zero hlen.symm;subst i;have:=Proofs.AnyF.slices_SortFunc_none Fe0 s.A s.c (.func (.func 231) #[] #[]) W0.w
  change Calls Tryz.prog 230 _ _ _ at this
  have e:s.v = .slice s.A 0 s.c:=by simp only[Sl.v,f];rfl
  rw[e];refine Calls.mono this ?_;rintro e w' ⟨rfl,rfl⟩;exact⟨_,rfl,Am7.refl _ _,rfl,[],hO,trivial⟩
 ·obtain⟨d,rfl⟩: ∃d:Array TmE,d.toList=L:=⟨L.toArray,rfl⟩
  have w:d.size≠0:=λ e=>u (by simpa using e);obtain⟨g,cur,G,H,U,j,hle,hH⟩:=Eh6 Bq7 Bp1 d hO w;have I:=(Array.getElem?_eq_some_iff.1 j).1;have z:=Proofs.AnyQ.slices_SortFunc Fe0 6 Tryz.isAgg169 Tryz.sizeOf169 Bq7 Bp1 Cu3 Er5 Fr8 231 #[] g 0 s.c d W0.w (enters_of Tryz.func231 (by kernel_rfl) rfl) (Ej6 g d.size W0.w) hH I (by simp at hlen;omega)
  change Calls Tryz.prog 230 _ _ _ at z
  have e:s.v = .slice (some ⟨g,0,none⟩) d.size s.c:=by simp only[Sl.v,f,G,Array.length_toList]
  rw[e];refine Calls.mono z ?_;rintro e w' ⟨rfl,J,n,os,i,l,rfl⟩;obtain⟨A,N⟩:=Dh2 i;obtain⟨V,c⟩:=Az2 Bq7 (k:=6) j n J os;obtain⟨q,O,B⟩:=r.perm N.symm;have P:=Ch4 l A;have Q:q=Ag2 p:=by
   refine Do0 O.symm D F (Ci0 B (P.imp fun {a b} h=>?_));rw[Fo8] at h;exact of_decide_eq_false h
  refine⟨_,rfl,?_,rfl,?_⟩
  ·refine⟨c.os,c.tape,c.output,c.size,λ b o f=>c.block b o λ e=>f ?_,c.drawn⟩
   subst e;rfl
  ·rw[<-Q]
   have R:=Et6 Bq7 Bp1 Cu3 hO w A H n os;refine⟨_,R,Ew4 (B.mono λ a t h=>⟨h.1,?_⟩)⟩;refine Ab3.wr (g:=g) (tt:=169) h.2 ⟨c.size,λ b o l f=>⟨c.block b o f,l⟩⟩ j (by decide)
end Go.Proofs.YtkgeopnakkcdoaaGreatDoor
namespace Go.Proofs.YtkgeopnakkcdoaaGreatDoor
open Go Go.SX
theorem Fa9:laidOutB Tryz.prog=true:=by kernel_rfl
theorem Ck1:Maps.Keyed Tryz.prog 146:=Maps.Keyed.of_law (deep_law_laid Fa9 (m:=2) (by omega) (of_decide_eq_true (by kernel_rfl)) (by kernel_rfl) (by kernel_rfl))
theorem Ep2: ∃d,Tryz.prog.types.size+1=d+2:=⟨Tryz.prog.types.size-1,by
 have:1<=Tryz.prog.types.size:=of_decide_eq_true (by kernel_rfl);omega⟩
theorem Dr7 {m:Mon}(h:m.ok): ∃l,keyOf Tryz.prog 146 m.v=some l:=by
 have h1:Tryz.prog.keyType 146=true:=by kernel_rfl
 have c:Tryz.prog.cellsOf 146=3:=by kernel_rfl
 have e:Tryz.prog.cellsOf 5=1:=by kernel_rfl
 have f:m.v.formed Tryz.prog 146=true:=by
  simp only[Mon.v,Value.formed,Tryz.underlying146,c];rfl
 obtain⟨d,i⟩:=Ep2;unfold Mon.ok at h;have wf: ∀z:Int,0<=z/\z<=255->(Lit.int .u8 z).wf=true:=by
  intro z r;simp[Lit.wf,IntKind.min,IntKind.max,IntKind.bits,IntKind.signed];omega
 have j:=wf _ h.1;have n:=wf _ h.2.1;have o:=wf _ h.2.2;unfold keyOf;rw[Tryz.underlying146];simp only[h1,f,Bool.and_self,if_true,i];simp[Program.keyLits,Tryz.underlying146,Tryz.underlying5,c,e,Value.cells,j,n,o,List.range_succ]
theorem Er2 {W:PW}{g:Nat}{es:Array MapEntry}{E:List Tm}{c:Nat}(h:Ai4 257 W g es c E):En1 Tryz.prog 146 es:=λ e he=>by
 obtain⟨i,hi⟩:=List.mem_iff_getElem?.1 he;obtain⟨t,_,d,hk,_⟩:=h.all.Fo1 hi;rw[hk];exact Dr7 d
end Go.Proofs.YtkgeopnakkcdoaaGreatDoor
namespace Go.Proofs.YtkgeopnakkcdoaaGreatDoor
open Go Go.SX
variable {E:List Tm}{W0:PW}{b:Bool}{es:Array MapEntry}{g k:Nat}{m:Mon}{q:Rat}{s s':Sl}
theorem Aw2 {α:Type}: ∀{l:List α},l.Nodup->∀{i j:Nat} {a:α},l[i]?=some a->l[j]?=some a->i=j
 | [],_,i,j,a,h,_=>by simp at h
 | x::l,c,0,0,a,_,_=>rfl
 | x::l,c,0,j+1,a,h,k=>by
  simp only[List.getElem?_cons_zero,Option.some.injEq,List.getElem?_cons_succ] at h k;subst h;exact absurd (List.mem_of_getElem? k) (List.nodup_cons.1 c).1
 | x::l,c,i+1,0,a,h,k=>by
  simp only[List.getElem?_cons_zero,Option.some.injEq,List.getElem?_cons_succ] at h k;subst k;exact absurd (List.mem_of_getElem? h) (List.nodup_cons.1 c).1
 | x::l,c,i+1,j+1,a,h,k=>by
  simp only[List.getElem?_cons_succ] at h k;rw[Aw2 (List.nodup_cons.1 c).2 h k]
theorem Bg9 {i:Nat}{e:MapEntry}(h:es[i]?=some e)(f:MapEntry->MapEntry):(es.modify i f).toList=es.toList.set i (f e):=by
 apply List.ext_getElem?;intro j;rw[Array.getElem?_toList,Array.getElem?_modify,List.getElem?_set];have c:=(Array.getElem?_eq_some_iff.1 h).1;split
 ·rename_i d
  subst d;rw[h];simp[c]
 ·rw[Array.getElem?_toList]
theorem Dr3 {W':PW}{n:PW}{v:Nat}{w:Array MapEntry}{W0:PW}{c:Nat}(h:Ai4 257 W' g es c E)(hm:m.ok)(F:Au9 (· = g) W' n)(G:¬n.S g)(H:n.w.heap[g]?=some (.map w v))(P:Eg5 es c m.v (.agg ⟨[s.v,.bool b,s'.v]⟩) w v)(l:Rat)(I:(∃i:Nat,E[i]?=some (m,l))\/(∀t∈E,t.1≠m)/\l=0)(Q:Ab3 257 W' s b s' (l+q)):
  ∃E',Ai4 257 n g w v E'/\Du7 E (m,q) E':=by
 have z:Ab3 257 n s b s' (l+q):=Q.map F h.heap;have J:An5 (ME 257 n) es.toList E:=h.all.mono λ _ _ k=>k.map F h.heap;rcases P with⟨i,e,hi,hk,rfl,rfl⟩ | ⟨R,rfl,rfl⟩
 ·have A:es.toList[i]?=some e:=by rw[Array.getElem?_toList];exact hi
  obtain⟨t,f,B,S,_⟩:=h.all.Fo1 A;have N:t.1=m:=Mon.Ck0 (S.symm.trans hk);have O:E[i]?=some (m,l):=by
   rcases I with⟨j,r⟩ | ⟨u,_⟩
   ·have C:(E.map (·.1))[i]?=some m:=by rw[List.getElem?_map,f];simp[N]
    have T:(E.map (·.1))[j]?=some m:=by rw[List.getElem?_map,r];rfl
    rw[Aw2 h.nd C T];exact r
   ·exact absurd N (u t (List.mem_of_getElem? f))
  refine⟨E.set i (m,l+q),⟨G,H,?_,?_,?_,?_⟩,Ei3 O⟩
  ·rw[Bg9 hi]
   exact J.set i ⟨hm,rfl,s,b,s',rfl,z⟩
  ·rw[Dk2 O]
   exact h.nd
  ·rw[Bg9 hi]
   have C:((es.toList.set i {e with key:=m.v,val:=.agg ⟨[s.v,.bool b,s'.v]⟩ }).map (·.born))=es.toList.map (·.born):=by
    rw[List.map_set];refine List.ext_getElem? λ j=>?_;rw[List.getElem?_set];split
    ·rename_i U
     subst U;rw[if_pos (by simpa using(Array.getElem?_eq_some_iff.1 hi).1),List.getElem?_map,A];rfl
    ·rfl
   rw[C];exact h.born
  ·rw[Bg9 hi]
   intro x d;rcases List.mem_or_eq_of_mem_set d with d | rfl
   ·exact h.lt x d
   ·exact h.lt e (List.mem_of_getElem? A)
 ·have u: ∀t∈E,t.1≠m:=by
   intro t f V;obtain⟨i,hi⟩:=List.mem_iff_getElem?.1 f;obtain⟨e,he,B,hk,_⟩:=h.all.get hi;exact R e (List.mem_of_getElem? he) (by rw[hk,V])
  have X:l=0:=by
   rcases I with⟨j,r⟩ | ⟨_,B⟩
   ·exact absurd rfl (u _ (List.mem_of_getElem? r))
   ·exact B
  subst X;rw[Rat.zero_add] at z;refine⟨E ++ [(m,q)],⟨G,H,?_,?_,?_,?_⟩,Du2 E m q⟩
  ·rw[Array.toList_push]
   exact J.snoc ⟨hm,rfl,s,b,s',rfl,z⟩
  ·rw[List.map_append,List.nodup_append]
   refine⟨h.nd,by simp,λ a D b' o=>?_⟩;obtain⟨t,f,rfl⟩:=List.mem_map.1 D;simp only[List.map_cons,List.map_nil,List.mem_singleton] at o;subst o;exact u t f
  ·rw[Array.toList_push,List.map_append,List.nodup_append]
   refine⟨h.born,by simp,λ a D b' o=>?_⟩;obtain⟨t,f,rfl⟩:=List.mem_map.1 D;simp only[List.map_cons,List.map_nil,List.mem_singleton] at o;subst o;have:=h.lt t f;omega
  ·rw[Array.toList_push]
   intro x d;rcases List.mem_append.1 d with d | d
   ·have:=h.lt x d;omega
   ·simp only[List.mem_singleton] at d
    subst d;exact Nat.lt_succ_self _
theorem Ea1 {c:Nat}(h:Ai4 257 W0 g es c E)(hm:m.ok)(I:Ab3 257 W0 s b s' q)(N: ∀t∈E,Sz k t.2)(J:Sz k q)(hk:k<=1073741824)(O:1<=k):
  Aa0 Tryz.prog 177 [.map (some g),.agg ⟨[.int .u8 m.x,.int .u8 m.y,.int .u8 m.z]⟩,.agg ⟨[s.v,.bool b,s'.v]⟩] W0 (· = g) λ v W'=>v = .tuple ⟨[]⟩/\∃f j E',Ai4 257 W' g f j E'/\Du7 E (m,q) E':=by
 apply Bi9;refine⟨g,rfl,Ck1,Dr7 hm,es,c,h.pub,h.heap,Er2 h,?_,?_⟩
 ·intro e he P
  obtain⟨i,hi⟩:=List.mem_iff_getElem?.1 he;obtain⟨t,n,Q,o,s0,b0,R,S,T⟩:=h.all.Fo1 hi;have U:t.1=m:=Mon.Ck0 (o.symm.trans P);refine⟨s0,b0,R,S,At2 T I (N t (List.mem_of_getElem? n)) J (by omega) (by omega) λ r j u V w z=>⟨r,j,u,rfl,g,rfl,Ck1,Dr7 hm,λ W' l=>?_⟩⟩;have d:=h.ext (w.trans l);refine⟨es,c,d.pub,d.heap,Er2 d,.inl rfl,λ X f A B C D F Y G=>?_⟩;obtain⟨E',h1,H⟩:=Dr3 (W0:=W0) d hm B C D F t.2 (.inl ⟨i,by rw[<-U];exact n⟩) (z.ext l);exact⟨rfl,f,A,E',h1.ext G,H⟩
 ·intro Z
  refine⟨⟨none,0,0⟩,false,⟨none,0,0⟩,rfl,At2 (Ar9 W0) I (Sz.zero O) J (by omega) (by omega) λ r j u V w z=>⟨r,j,u,rfl,g,rfl,Ck1,Dr7 hm,λ W' l=>?_⟩⟩;have d:=h.ext (w.trans l);refine⟨es,c,d.pub,d.heap,Er2 d,.inl rfl,λ X f A B C D F Y G=>?_⟩;have aa: ∀t∈E,t.1≠m:=λ t n ab=>by
   obtain⟨i,hi⟩:=List.mem_iff_getElem?.1 n;obtain⟨e,he,Q,o,_⟩:=h.all.get hi;exact Z e (List.mem_of_getElem? he) (by rw[o,ab])
  obtain⟨E',h1,H⟩:=Dr3 (W0:=W0) d hm B C D F 0 (.inr ⟨aa,rfl⟩) (z.ext l);exact⟨rfl,f,A,E',h1.ext G,H⟩
theorem Bj5 {W:PW}{M:Nat->Prop}{K:Value->PW->Prop}{c:Nat}(h:Ai4 257 W g es c E)(hm:m.ok)(n:Ab3 257 W s b s' q)(o: ∀t∈E,Sz k t.2)(r:Sz k q)(hk:k<=1073741824)(u:1<=k)(w:may W0 M g)(z: ∀W' d f i E',Ext W W'->Au9 (· = g) W' d->Ai4 257 W' g es c E->Ai4 257 d g f i E'->Du7 E (m,q) E'->K (.tuple ⟨[]⟩) d):
  Aa1 Tryz.prog W0 M 177 [.map (some g),.agg ⟨[.int .u8 m.x,.int .u8 m.y,.int .u8 m.z]⟩,.agg ⟨[s.v,.bool b,s'.v]⟩] W K:=by
 intro W' j;have l:=h.ext j;refine⟨(· = g),_,Ea1 l hm (n.ext j) o r hk u,λ D e=>?_,λ v d A B=>?_⟩
 ·subst e
  exact⟨l.pub,w⟩
 ·obtain⟨rfl,f,i,E',h1,C⟩:=B
  exact z W' d f i E' j A l h1 C
end Go.Proofs.YtkgeopnakkcdoaaGreatDoor
namespace Go.Proofs.YtkgeopnakkcdoaaGreatDoor
open Go Go.SX
variable {E:List Tm}{M:Nat->Prop}{W0:PW}{es:Array MapEntry}{g k:Nat}{sn:Array Nat}
def nzT (t:Tm):Bool:=decide (t.2≠0)
theorem Ff0 (l:List Tm)(m:Mon):Aj5 (l.filter nzT) m=Aj5 l m:=by
 induction l with
 | nil=>rfl
 | cons t r ih=>
  by_cases h:t.2=0
  ·rw[List.filter_cons_of_neg (by simp[nzT,h]),ih,Aj5,h]
   split<;>rw[Rat.zero_add]
  ·rw[List.filter_cons_of_pos (by simp[nzT,h]),Aj5,Aj5,ih]
theorem Dz3 {e:MapEntry}(h:e∈(leftOf es sn).toList):e∈es.toList/\sn.contains e.born=false:=by
 unfold leftOf at h;rw[Array.toList_filter,List.mem_filter] at h;exact⟨h.1,by simpa using h.2⟩
theorem Eb0 (h:(leftOf es sn).size=0): ∀e∈es.toList,sn.contains e.born=true:=by
 intro e he;refine Classical.byContradiction λ c=>?_;have:e∈(leftOf es sn).toList:=by
  unfold leftOf;rw[Array.toList_filter,List.mem_filter];exact⟨he,by simpa using c⟩
 rw[<-Array.length_toList] at h;rw[List.eq_nil_of_length_eq_zero h] at this;cases this
def spI (W0:PW) (c:Nat) (es:List MapEntry) (E:List Tm) (l:List PL) (W:PW):Prop:=match l with
 | [.row d,PL.seen sn n]=>Ext W0 W/\n=c/\∃L,An5 (PT 257 W) d L/\(L ++ (At5 sn es E).filter nzT).Perm (E.filter nzT)
 | _=>False
def spM (es:List MapEntry) (E:List Tm) (l:List PL) (W:PW):Nat:=match l with
 | [_,PL.seen sn n]=>(At5 sn es E).length
 | _=>0
theorem De1 {c:Nat}(h:Ai4 257 W0 g es c E)(I: ∀t∈E,Sz k t.2)(hk:k<=1073741824)(hl:E.length<=1073741824):
  Aa0 Tryz.prog 178 [.map (some g)] W0 M λ v W'=>∃s:Sl,v = .agg ⟨[s.v]⟩/\Aq4 W0 s/\Ch2 257 169 W' s (Ag2 E):=by
 apply Bf8;have hlen:es.toList.length=E.length:=h.all.len;refine⟨g,rfl,es,c,h.pub,h.heap,⟨rfl,rfl⟩,spI W0 c es.toList E,spM es.toList E,⟨Ext.refl _,rfl,[],trivial,?_⟩,?_⟩
 ·rw[show(⟨[]⟩:Array Nat) = #[] from rfl,Bw6 hlen]
  exact .refl _
 rintro J N O ah ai hF;obtain⟨sn,P⟩: ∃sn,Ae4 J O=sn:=⟨_,rfl⟩;rw[P] at hF⊢;obtain⟨r,rfl,L,n,d⟩:=hF;have f:=h.ext r;have aj:L.length<=E.length:=by
  have h1:=d.length_eq;have w:=List.length_filter_le nzT E;simp only[List.length_append] at h1;omega
 have ak:=n.len;refine⟨es,N,f.pub,f.heap,λ e he=>h.lt e he,Nat.le_refl _,λ Q R al S hO z=>?_,λ e he=>?_⟩
 ·have T:=Cp2 (sn:=sn) (es:=es.toList) (E:=E) (Eb0 Q)
  rw[T,List.filter_nil,List.append_nil] at d;have U:(L.map (·.1)).Nodup:=(d.map _).nodup_iff.2 (List.Nodup.sublist (List.filter_sublist.map _) h.nd);have j: ∀t∈L,t.2≠0:=λ t o=>by
   have:=List.mem_filter.1 (d.mem_iff.1 o)
   simpa[nzT] using this.2
  have V:Ag2 L=Ag2 E:=Bc1 λ m=>by rw[Da7 d,Ff0]
  intro W' A;have B:=hO.ext A;refine⟨_,_,Dh7 B (n.mono λ _ _ h=>h.ext (S.trans A)) U j (by omega),λ C D=>⟨B.2 C D,.inr (z C D).1⟩,λ v am hX X=>?_⟩;obtain⟨rfl,Y⟩:=X;refine⟨rfl,λ ao Z=>⟨R,rfl,λ g hg=>(z g hg).1,?_⟩⟩;rw[<-V];exact Y.ext Z
 ·obtain⟨F,ab⟩:=Dz3 he
  obtain⟨i,hi⟩:=List.mem_iff_getElem?.1 F;obtain⟨t,o,h0,ad,s,b,s',hv,G⟩:=f.all.Fo1 hi;have u:=Ce4 h.born hi o ab;have H:(At5 (sn.push e.born) es.toList E).length<(At5 sn es.toList E).length:=by
   rw[u.length_eq];simp
  refine⟨⟨es,f.pub,f.heap,F,h.born⟩,t.1.x,t.1.y,t.1.z,ad,s,b,s',hv,Bk6 G (I t (List.mem_of_getElem? o)) (by omega) λ ap l _=>⟨_,rfl,λ af=>⟨by simp;omega,⟨rfl,rfl⟩,⟨r.trans l,rfl,L ++ [t],(n.mono λ _ _ h=>h.ext l).snoc ⟨h0,s,b,s',rfl,G.ext l⟩,?_⟩,H⟩,λ heq=>⟨⟨rfl,rfl⟩,⟨r.trans l,rfl,L,n.mono λ _ _ h=>h.ext l,?_⟩,H⟩⟩⟩
  ·have j:nzT t=true:=by
    have:t.2≠0:=λ e=>af ((Be6 _ _).2 e);simp[nzT,this]
   have h1:=u.filter nzT;rw[List.filter_cons_of_pos j] at h1;have w:(L ++ [t] ++ (At5 (sn.push e.born) es.toList E).filter nzT).Perm (L ++ (At5 sn es.toList E).filter nzT):=by
    rw[List.append_assoc];exact(h1.symm.append_left L)
   exact w.trans d
  ·have j:¬nzT t=true:=by
    have:t.2=0:=(Be6 _ _).1 (by omega);simp[nzT,this]
   have h1:=u.filter nzT;rw[List.filter_cons_of_neg j] at h1;exact(h1.symm.append_left L).trans d
theorem Ba0 {W:PW}{K:Value->PW->Prop}{c:Nat}(h:Ai4 257 W g es c E)(e: ∀t∈E,Sz k t.2)(hk:k<=1073741824)(f:E.length<=1073741824)(i: ∀(s:Sl) (W':PW),Ext W W'->Aq4 W s->Ch2 257 169 W' s (Ag2 E)->K (.agg ⟨[s.v]⟩) W'):Aa1 Tryz.prog W0 M 178 [.map (some g)] W K:=
 Aa2 (λ W' d=>De1 (M:=λ _=>False) (h.ext d) e hk f) (λ W' v j d l n=>by
  obtain⟨s,rfl,o,r⟩:=n;exact i s j (d.trans l) (o.back d) r)
end Go.Proofs.YtkgeopnakkcdoaaGreatDoor
