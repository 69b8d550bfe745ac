/- A region that draws its order, as a set of facts: each operation is shown once, from the facts of those that it waits for. Pow of the program. Facts of a region with one new box: what the slots hold, kept from operation to operation. -/
import Derived.Test.YtnchbpoopnjghaaGreatDoorRAh
set_option maxHeartbeats 100000000
set_option linter.all false
namespace Go.Proofs.YtnchbpoopnjghaaGreatDoor
open Go.RowKit
section
variable {P:Program}{Q:Exit->Act->World->Prop}{id:Nat}{a:Act}{w:World}
def held(a:Act):Tmp->Value:=fun k=>a.tmps.getD k undef
end
section
attribute [local go_sem ↓] Go.wp_at_zero Go.wp_at_succ
section
variable {N:Nat}{s t p q l:Tmp}{va:Value}{z1 z2:Int}{x:Tmp->Value}{w w':World}
end
section
variable {w w1 w2:World}{va0 va1:Value}{x y:Tmp->Value}
end
def a6(a:Int):bv (decide (a<0)) (digs a.natAbs)=a:=by unfold bv;rw[ae];by_cases h:a<0<;>simp[h]<;>omega
def F7(z:Int)(i k K:Nat)(h:(max 1 z.natAbs)^k<4294967296^K)(c:i<=k)(b:K<=2147483648):(digs (z^i).natAbs).length<=2147483648:=by
 rw[Int.natAbs_pow];refine V_ (aL (k:=K) (Nat.lt_of_le_of_lt ?_ h)) b
 calc z.natAbs^i<=(max 1 z.natAbs)^i:=Nat.pow_le_pow_left O_ i
  _<=(max 1 z.natAbs)^k:=Nat.pow_le_pow_right O_ c
end
inductive S9 where
 |is (l:Tmp) (v:Value)
 |int (p:Tmp) (z:Int)
 |box (s:Tmp)
 |done (s:Tmp) (z:Int)
 |any
section
variable {N:Nat}{fs:List S9}{x:Tmp->Value}{w w':World}{k:Nat}
end
section
variable {N:Nat}{fs:List S9}{x:Tmp->Value}{w w':World}{k:Nat}
end
end Go.Proofs.YtnchbpoopnjghaaGreatDoor
