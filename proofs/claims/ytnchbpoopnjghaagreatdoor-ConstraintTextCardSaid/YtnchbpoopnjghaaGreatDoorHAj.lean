/- Add of the program. Cmp of the program; Sign, Add, Sub and Cmp of the reference. Sign, Add, Sub and Cmp of the reference. Sub and Cmp of the reference; the sums' law. -/
import Derived.Test.YtnchbpoopnjghaaGreatDoorHAi
set_option maxHeartbeats 100000000
set_option linter.all false
namespace Go.Proofs.YtnchbpoopnjghaaGreatDoor
open Go.RowKit
section
attribute [local go_sem ↓] Go.wp_at_zero Go.wp_at_succ
theorem E1 (na:Bool) (xs:List Nat):CI na xs= -1∨CI na xs=0∨CI na xs=1:=by unfold CI;split <;>(try split)<;>simp
theorem QT (na nb:Bool) (xs ys:List Nat) (h:CI na xs≠CI nb ys):bI (CI na xs) (CI nb ys)=bI (bC na xs) (bC nb ys):=by
 unfold CI bC bI at *;cases na<;>cases nb<;>by_cases h1:val xs=0<;>by_cases h2:val ys=0<;>simp_all <;>(repeat' split)<;>omega
theorem Ru (na nb:Bool) (xs ys:List Nat) (s:Int) (h1:CI na xs=s) (h2:CI nb ys=s):s*bI (val xs) (val ys)=bI (bC na xs) (bC nb ys):=by
 subst h1;unfold CI bC bI at *;cases na<;>cases nb<;>by_cases h1:val xs=0<;>by_cases h3:val ys=0<;>simp_all <;>(repeat' split)<;>omega
end
section
attribute [local go_sem ↓] Go.wp_at_zero Go.wp_at_succ
theorem Kb {o:Int} {A B:Option Addr} {n m c d:Nat} {a b:Nat} (ho:bI a b=o) (W:World) (h1:ba W A n c (digs a)) (h2:ba W B m d (digs b)):Calls Tryz.prog 222 #[.slice A n c, .slice B m d] W (Tj o W):=by
 have:=rZ A B n m c d (digs a) (digs b) W h1 h2;exact Tu
end
end Go.Proofs.YtnchbpoopnjghaaGreatDoor
