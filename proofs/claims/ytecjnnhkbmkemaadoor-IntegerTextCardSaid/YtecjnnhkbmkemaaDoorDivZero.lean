/- DivMod of the program and of the reference, where the divisor is zero. -/
import Derived.Test.YtecjnnhkbmkemaaDoorRDivMod
namespace Go.Proofs.YtecjnnhkbmkemaaDoor
open Go.RowKit
attribute [local go_sem ↓] Go.wp_at_zero Go.wp_at_succ

/-- what DivMod gives at a divisor of zero -/
def RetDZ (w : World) (e : Ending) (w' : World) : Prop := ∃ v1 v2, e = .returned (.tuple #[v1, v2, .int .i64 6]) ∧ IntV w' v1 0 ∧ IntV w' v2 0 ∧ Below w.heap.size w w'

set_option maxHeartbeats 1600000 in
theorem i_DivMod_zero (va vb : Value) (na nb : Bool) (xs ys : List Nat) (w : World) (ha : IntR w va na xs) (hb : IntR w vb nb ys) (hy0 : val ys = 0) :
    Calls Tryd.prog 14 #[va, vb] w (RetDZ w) := by
  obtain ⟨A, n, c, rfl, hx⟩ := ha
  obtain ⟨B, m, d, rfl, hy⟩ := hb
  obtain ⟨W, hW⟩ : ∃ W, W = (((w.alloc (.cells #[.bool na, .slice A n c] 24)).alloc (.cells #[.bool nb, .slice B m d] 24)).alloc (.cells #[.bool false, .slice none 0 0] 24)).alloc (.cells #[.bool false, .slice none 0 0] 24) := ⟨_, rfl⟩
  obtain ⟨⟨ca0, ca1, cb0, cb1⟩, ⟨cq0, cq1, fq0, fq1⟩, ⟨cr0, cr1, fr0, fr1⟩, hbW⟩ := four_boxes w _ _ _ _ _ _ _ _ _ W hW
  have hyl : (trim ys).length = 0 := by unfold trim; rw [hy0, digs_zero]; rfl
  have Hx := Lib.hid (hx.ext hbW)
  have Hy := Lib.hid (hy.ext hbW)
  have Hyl := Lib.hid hyl
  clear hx hy hyl hy0
  go_enter Tryd.func14, Tryd.ntmps14
  go_wp2_with fail
  rw [← hW]
  clear hW
  go_wp2_with (first
    | (go_at_call 18; (with_reducible refine (i_trim B m d ys _ Hy.out).mono ?_); rw [Hyl.out]; rintro e w' ⟨rfl, rfl⟩)
    | (go_at_call 18; (with_reducible refine (i_trim A n c xs _ Hx.out).mono ?_); rintro e w' ⟨rfl, rfl⟩))
  exact bodyPost_ret (v := .tuple #[.agg #[.bool false, .slice none 0 0], .agg #[.bool false, .slice none 0 0], .int .i64 6]) (by simp [results, Tryd.results14, go_sem, cq0, cq1, cr0, cr1]) rfl ⟨_, _, rfl, intV_zero _, intV_zero _, by first | exact hbW | exact (hbW.set2 (by omega) _ _).set2 (by omega) _ _⟩

end Go.Proofs.YtecjnnhkbmkemaaDoor
