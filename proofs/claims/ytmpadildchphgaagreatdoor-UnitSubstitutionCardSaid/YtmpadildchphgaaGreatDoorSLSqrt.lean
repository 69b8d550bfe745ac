/- IntegerSqrt answers true. -/
import Derived.Test.YtmpadildchphgaaGreatDoorSLNorm
import Derived.Test.YtmpadildchphgaaGreatDoorSDivAll
import Derived.Test.YtmpadildchphgaaGreatDoorSAi
namespace Go.Proofs.YtmpadildchphgaaGreatDoor
open Go.ChangeShapes Go.WideShapes Go.ChangeAt Go.RowKit Go.Joins
attribute [local go_sem ↓] Go.wp_at_zero Go.wp_at_succ
theorem validB_int (z : Int) : validB (decide (z < 0)) (digs z.natAbs) = true := by
  unfold validB
  rw [trim_digs, decide_eq_true rfl]
  by_cases h : z < 0
  · have : 0 < (digs z.natAbs).length := by
      rcases Nat.eq_zero_or_pos (digs z.natAbs).length with h1 | h1
      · have := digs_eq_nil.1 (List.eq_nil_of_length_eq_zero h1); omega
      · exact h1
    simp [h, this]
  · simp [h]
theorem r1_AddV {va vb : Value} {a b z : Int} {w : World} (ha : IntV w va a) (hb : IntV w vb b) (hz : a + b = z) (h1 : (digs a.natAbs).length ≤ 2147483648) (h2 : (digs b.natAbs).length ≤ 2147483648) :
    Calls Tryz.prog 76 #[va, vb] w (RetInt z w) := by
  have := r1_Add va vb _ _ _ _ w ha hb h1 h2
  rwa [toZ_int, toZ_int, hz] at this
end Go.Proofs.YtmpadildchphgaaGreatDoor
