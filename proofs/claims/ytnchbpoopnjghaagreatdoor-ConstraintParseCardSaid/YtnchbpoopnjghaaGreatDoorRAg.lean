/- DivMod of the program, leaning on what divide gives at these numbers. DivMod of the program, where the quotient is rounded down. DivMod of the program: the quotient rounded down, and the remainder. -/
import Derived.Test.YtnchbpoopnjghaaGreatDoorRAf
set_option maxHeartbeats 100000000
set_option linter.all false
namespace Go.Proofs.YtnchbpoopnjghaaGreatDoor
open Go.RowKit
section
attribute [local go_sem ↓] Go.wp_at_zero Go.wp_at_succ
def SD(a b:Nat):Prop:=∀(A:Option Addr)(n c:Nat)(B:Option Addr)(m d:Nat)(w:World),a7 w A n c (digs a)->a7 w B m d (digs b) ->
 Calls Tryz.prog 282 #[.slice A n c, .slice B m d] w (j2 (a/b) (a%b) w)
section
variable {X Y:World}{A B:Option Addr}{n c m d rq rr:Nat}{q r:Int}
end
section
variable {w w' w2:World}{na nb:Bool}{A1 B1:Option Addr}{n1 c1 m1 d1:Nat}{qs rs:List Nat}
end
end
def zp(s:Bool)(k:Nat):bv s (digs k)=if s then -(k:Int)else k:=by unfold bv;rw[ae]
def fd{x y q r:Int}(h:x=q*y+r)(b:(0<=r/\r<y)∨(y<r/\r<=0)):x.fdiv y=q/\x.fmod y=r:=by
 rcases b with⟨h0,a⟩| ⟨h0,a⟩
 ·exact(Int.fdiv_fmod_unique O_).2 ⟨by rw[h,Int.mul_comm];omega,h0,a⟩
 ·exact(Int.fdiv_fmod_unique' O_).2 ⟨by rw[h,Int.mul_comm];omega,h0,a⟩
end Go.Proofs.YtnchbpoopnjghaaGreatDoor
