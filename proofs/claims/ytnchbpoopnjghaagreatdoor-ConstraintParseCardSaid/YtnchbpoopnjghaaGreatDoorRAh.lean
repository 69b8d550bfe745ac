/- Same of the reference, same of the laws. cp of the laws. small of the laws. Parse of the program at the two texts of awake. Sqrt of the program, leaning on what divide gives. -/
import Derived.Test.YtnchbpoopnjghaaGreatDoorRAg
set_option maxHeartbeats 100000000
set_option linter.all false
namespace Go.Proofs.YtnchbpoopnjghaaGreatDoor
open Go.RowKit
section
attribute [local go_sem ↓] Go.wp_at_zero Go.wp_at_succ
def U5(b:Bool)(w:World)(e:Ending)(w':World):Prop:=e= .returned (.bool b)/\Below w.heap.size w w'
def sameB(na nb:Bool)(xs ys:List Nat):Bool:=na == nb && decide (xs=ys)
def Fr(x y:Int):sameB (decide (x<0)) (decide (y<0)) (digs x.natAbs) (digs y.natAbs)=decide (x=y):=by
 unfold sameB;by_cases h:x=y
 ·subst h;simp
 ·have:¬(decide (x<0)=decide (y<0)/\digs x.natAbs=digs y.natAbs):=by
   rintro⟨a,b⟩;have c:x.natAbs=y.natAbs:=by rw[<- ae x.natAbs,b,ae]
   have d:(x<0)↔(y<0):=by simpa using a
   apply h;omega
  rw[F_ h];cases hb:(decide (x<0) == decide (y<0) && decide (digs x.natAbs=digs y.natAbs))
  ·rfl
  ·rw[B_]at hb;exact absurd ⟨by simpa using hb.1,by simpa using hb.2⟩ this
end
end Go.Proofs.YtnchbpoopnjghaaGreatDoor
