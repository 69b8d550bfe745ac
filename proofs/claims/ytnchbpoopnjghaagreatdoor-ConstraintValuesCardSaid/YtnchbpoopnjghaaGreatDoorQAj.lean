/- Add of the program. Cmp of the program; Sign, Add, Sub and Cmp of the reference. Sign, Add, Sub and Cmp of the reference. Sub and Cmp of the reference; the sums' law. -/
import Derived.Test.YtnchbpoopnjghaaGreatDoorQAi
set_option maxHeartbeats 100000000
set_option linter.all false
namespace Go.Proofs.YtnchbpoopnjghaaGreatDoor
open Go.RowKit
section
attribute [local go_sem ↓] Go.wp_at_zero Go.wp_at_succ
theorem FQ (na:Bool) (xs:List Nat):EP na xs= -1∨EP na xs=0∨EP na xs=1:=by unfold EP;split <;>(try split)<;>simp
theorem Rb (na nb:Bool) (xs ys:List Nat) (h:EP na xs≠EP nb ys):bQ (EP na xs) (EP nb ys)=bQ (bI na xs) (bI nb ys):=by
 unfold EP bI bQ at *;cases na<;>cases nb<;>by_cases h1:val xs=0<;>by_cases h2:val ys=0<;>simp_all <;>(repeat' split)<;>omega
theorem Si (na nb:Bool) (xs ys:List Nat) (s:Int) (h1:EP na xs=s) (h2:EP nb ys=s):s*bQ (val xs) (val ys)=bQ (bI na xs) (bI nb ys):=by
 subst h1;unfold EP bI bQ at *;cases na<;>cases nb<;>by_cases h1:val xs=0<;>by_cases h3:val ys=0<;>simp_all <;>(repeat' split)<;>omega
end
section
attribute [local go_sem ↓] Go.wp_at_zero Go.wp_at_succ
theorem HZ {o:Int} {A B:Option Addr} {n m c d:Nat} {a b:Nat} (ho:bQ a b=o) (W:World) (h1:bi W A n c (digs a)) (h2:bi W B m d (digs b)):Calls Tryz.prog 222 #[.slice A n c, .slice B m d] W (Tq o W):=by
 have:=rT A B n m c d (digs a) (digs b) W h1 h2;exact S7
end
end Go.Proofs.YtnchbpoopnjghaaGreatDoor
