/- cinctureref1: Degree, MonoCmp, MonoMul; put, PolyOf. -/
import Derived.Test.YtjkkidjbppphpaaGreatDoorW11
import Derived.Test.YtjkkidjbppphpaaGreatDoorW10
import Derived.Test.YtjkkidjbppphpaaGreatDoorR9
import Derived.Test.YtjkkidjbppphpaaGreatDoorW12
import Derived.Test.YtjkkidjbppphpaaGreatDoorLib3
set_option linter.unusedVariables false
set_option linter.unusedSimpArgs false
set_option maxRecDepth 100000
namespace Go.Proofs.YtjkkidjbppphpaaGreatDoor
open Go Go.SX
end Go.Proofs.YtjkkidjbppphpaaGreatDoor
/- cinctureref1: put, PolyOf. -/
namespace Go.Proofs.YtjkkidjbppphpaaGreatDoor
open Go Go.SX
theorem Ce0 {α:Type} {l:List α} {j:Nat} (h:j<l.length):l.take (j+1)=l.take j ++ [l[j]]:=by
 rw[List.take_add_one,List.getElem?_eq_getElem h];rfl
end Go.Proofs.YtjkkidjbppphpaaGreatDoor
/- cinctureref1: PolyOf, PolyPlain; poly.Plain; book.SameTerms, law8.Is. -/
namespace Go.Proofs.YtjkkidjbppphpaaGreatDoor
open Go Go.SX
def cnL (n:Nat) (l:List PL) (W:PW):Nat:=match l with
 | [_,.val (.int .i64 i)]=>n-i.toNat
 | _=>0
end Go.Proofs.YtjkkidjbppphpaaGreatDoor
/- cincturelaw8.alive. -/
namespace Go.Proofs.YtjkkidjbppphpaaGreatDoor
open Go Go.SX
theorem Fn8:Sz 1 (-1:Rat):=(Sz.one (Nat.le_refl 1)).neg
theorem Fl0:Sz 1 (1:Rat):=Sz.one (Nat.le_refl 1)
theorem En2:Bd 7 (Dc6 0):=(Cq4 (m:=Da3 0) Fl0).mono (by decide)
end Go.Proofs.YtjkkidjbppphpaaGreatDoor
/- cinctureref1.PolyParse, poly.Parse, book.Terms, law8.Of. -/
namespace Go.Proofs.YtjkkidjbppphpaaGreatDoor
open Go Go.SX
theorem Dd0 {W:PW} {t:TypeId} {sz:Nat} :Go.SX.Own W t sz ⟨none,0,0⟩ []:=⟨⟨by simp,by simp,.inl ⟨rfl,rfl⟩⟩,fun g hg=>by simp[Sl.v,Value.ownBlock] at hg⟩
end Go.Proofs.YtjkkidjbppphpaaGreatDoor
