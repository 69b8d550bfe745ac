/- Add of the program. Cmp of the program; Sign, Add, Sub and Cmp of the reference. Sign, Add, Sub and Cmp of the reference. Sub and Cmp of the reference; the sums' law. -/
import Derived.Test.YtnchbpoopnjghaaGreatDoorRAi
set_option maxHeartbeats 100000000
set_option linter.all false
namespace Go.Proofs.YtnchbpoopnjghaaGreatDoor
open Go.RowKit
section
attribute [local go_sem ↓] Go.wp_at_zero Go.wp_at_succ
def Gi(na:Bool)(xs:List Nat):Dd na xs= -1∨Dd na xs=0∨Dd na xs=1:=by unfold Dd;split <;>(try split)<;>simp
def Q5(na nb:Bool)(xs ys:List Nat)(h:Dd na xs≠Dd nb ys):bG (Dd na xs) (Dd nb ys)=bG (bv na xs) (bv nb ys):=by unfold Dd bv bG at *;cases na<;>cases nb<;>by_cases a:val xs=0<;>by_cases b:val ys=0<;>simp_all <;>(repeat' split)<;>omega
def QT(na nb:Bool)(xs ys:List Nat)(s:Int)(a:Dd na xs=s)(b:Dd nb ys=s):s*bG (val xs) (val ys)=bG (bv na xs) (bv nb ys):=by subst a;unfold Dd bv bG at *;cases na<;>cases nb<;>by_cases a:val xs=0<;>by_cases c:val ys=0<;>simp_all <;>(repeat' split)<;>omega
end
section
attribute [local go_sem ↓] Go.wp_at_zero Go.wp_at_succ
def KU{o:Int}{A B:Option Addr}{n m c d:Nat}{a b:Nat}(ho:bG a b=o)(W:World)(f:a7 W A n c (digs a))(g:a7 W B m d (digs b)):Calls Tryz.prog 222 #[.slice A n c, .slice B m d] W (Tj o W):=by have:=tG A B n m c d (digs a) (digs b) W f g;exact TH
end
end Go.Proofs.YtnchbpoopnjghaaGreatDoor
