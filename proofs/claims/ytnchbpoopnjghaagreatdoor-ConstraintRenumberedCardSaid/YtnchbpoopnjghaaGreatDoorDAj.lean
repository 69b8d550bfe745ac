/- Add of the program. Cmp of the program; Sign, Add, Sub and Cmp of the reference. Sign, Add, Sub and Cmp of the reference. Sub and Cmp of the reference; the sums' law. -/
import Derived.Test.YtnchbpoopnjghaaGreatDoorDAi
set_option maxHeartbeats 100000000
set_option linter.all false
namespace Go.Proofs.YtnchbpoopnjghaaGreatDoor
open Go.RowKit
section
attribute [local go_sem ↓] Go.wp_at_zero Go.wp_at_succ
theorem Dt (na:Bool) (xs:List Nat):BF na xs= -1∨BF na xs=0∨BF na xs=1:=by unfold BF;split <;>(try split)<;>simp
theorem Qo (na nb:Bool) (xs ys:List Nat) (h:BF na xs≠BF nb ys):bE (BF na xs) (BF nb ys)=bE (bC na xs) (bC nb ys):=by
 unfold BF bC bE at *;cases na<;>cases nb<;>by_cases h1:val xs=0<;>by_cases h2:val ys=0<;>simp_all <;>(repeat' split)<;>omega
theorem P7 (na nb:Bool) (xs ys:List Nat) (s:Int) (h1:BF na xs=s) (h2:BF nb ys=s):s*bE (val xs) (val ys)=bE (bC na xs) (bC nb ys):=by
 subst h1;unfold BF bC bE at *;cases na<;>cases nb<;>by_cases h1:val xs=0<;>by_cases h3:val ys=0<;>simp_all <;>(repeat' split)<;>omega
end
section
attribute [local go_sem ↓] Go.wp_at_zero Go.wp_at_succ
theorem Fo {o:Int} {A B:Option Addr} {n m c d:Nat} {a b:Nat} (ho:bE a b=o) (W:World) (h1:a6 W A n c (digs a)) (h2:a6 W B m d (digs b)):Calls Tryz.prog 222 #[.slice A n c, .slice B m d] W (Q9 o W):=by
 have:=rj A B n m c d (digs a) (digs b) W h1 h2;exact SM
end
end Go.Proofs.YtnchbpoopnjghaaGreatDoor
