/- IntegerMul answers true. -/
import Derived.Test.YtecjnnhkbmkemaaGreatDoorLaw
import Derived.Test.YtecjnnhkbmkemaaGreatDoorAj
namespace Go.Proofs.YtecjnnhkbmkemaaGreatDoor
open Go.ChangeShapes Go.WideShapes Go.ChangeAt Go.RowKit Go.Joins
attribute [local go_sem ↓] Go.wp_at_zero Go.wp_at_succ

theorem four_cells (w : World) (a b c d : Value) (t : TypeId) :
    (w.alloc (.cells #[a, b, c, d] t)).cell? ⟨w.heap.size, 0, none⟩ = some a ∧ (w.alloc (.cells #[a, b, c, d] t)).cell? ⟨w.heap.size, 1, none⟩ = some b ∧ (w.alloc (.cells #[a, b, c, d] t)).cell? ⟨w.heap.size, 2, none⟩ = some c ∧ (w.alloc (.cells #[a, b, c, d] t)).cell? ⟨w.heap.size, 3, none⟩ = some d := by simp [go_sem]

end Go.Proofs.YtecjnnhkbmkemaaGreatDoor
