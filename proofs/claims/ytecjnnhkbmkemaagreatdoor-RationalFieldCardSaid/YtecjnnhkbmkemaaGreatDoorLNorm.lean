/- IntegerNorm answers true. -/
import Derived.Test.YtecjnnhkbmkemaaGreatDoorLMul
import Derived.Test.YtecjnnhkbmkemaaGreatDoorAk
namespace Go.Proofs.YtecjnnhkbmkemaaGreatDoor
open Go.ChangeShapes Go.WideShapes Go.ChangeAt Go.RowKit Go.Joins
attribute [local go_sem ↓] Go.wp_at_zero Go.wp_at_succ

theorem r1_SignS (va : Value) (na : Bool) (xs : List Nat) (w : World) (ha : IntR w va na xs) : Calls Tryz.prog 66 #[va] w (RetN (sgn na xs) w) := by
  rw [sgn_sign]; exact r1_Sign va na xs w ha

end Go.Proofs.YtecjnnhkbmkemaaGreatDoor
