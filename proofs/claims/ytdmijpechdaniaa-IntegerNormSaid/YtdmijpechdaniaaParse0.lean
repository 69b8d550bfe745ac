/- Parse of the program at the two texts of awake. -/
import Derived.Test.YtdmijpechdaniaaSmall
namespace Go.Proofs.Ytdmijpechdaniaa
open Go.RowKit

/-- an integer and an error number -/
def RetE (z : Int) (n : Int) (w : World) (e : Ending) (w' : World) : Prop := ∃ v, e = .returned (.tuple #[v, .int .i64 n]) ∧ IntV w' v z ∧ Below w.heap.size w w'
theorem intV_zero (w : World) : IntV w (.agg #[.bool false, .slice none 0 0]) 0 := ⟨none, 0, 0, by simp, by rw [show (0 : Int).natAbs = 0 from rfl, digs_zero]; exact .nil _⟩

set_option maxRecDepth 100000 in
set_option maxHeartbeats 800000 in
theorem i_Parse_neg0 (w : World) : Calls Try.prog 28 #[.string ⟨#[45, 48]⟩] w (RetE 0 2 w) := by
  obtain ⟨⟨cr0, cr1⟩, ⟨fr0, fr1⟩, hbW⟩ := res_box w (.bool false) (.slice none 0 0) 24
  obtain ⟨W, hW⟩ : ∃ W, W = w.alloc (.cells #[.bool false, .slice none 0 0] 24) := ⟨_, rfl⟩
  rw [← hW] at cr0 cr1 fr0 fr1 hbW
  have hc := Try.strings_CutPrefix ⟨#[45, 48]⟩ ⟨#[45]⟩ W
  rw [show (⟨(Lib.trimPrefix (⟨#[45, 48]⟩ : ByteArray).data.toList (⟨#[45]⟩ : ByteArray).data.toList).toArray⟩ : ByteArray) = ⟨#[48]⟩ from by decide, show Lib.hasPrefix (⟨#[45, 48]⟩ : ByteArray).data.toList (⟨#[45]⟩ : ByteArray).data.toList = true from by decide] at hc
  have Hc := Lib.hid hc
  clear hc
  go_enter Try.func28, Try.ntmps28
  go_wp2_with fail
  rw [← hW]
  clear hW
  go_wp2_with (go_at_call 66; (with_reducible refine Hc.out.mono ?_); rintro e w1 ⟨rfl, rfl⟩)
  exact bodyPost_ret (v := .tuple #[.agg #[.bool false, .slice none 0 0], .int .i64 2]) (by simp [results, Try.results28, go_sem, cr0, cr1]) rfl ⟨_, rfl, intV_zero _, Ext.set2 hbW (Nat.le_refl _) _ _⟩

set_option maxRecDepth 100000 in
set_option maxHeartbeats 800000 in
theorem i_Parse_01 (w : World) : Calls Try.prog 28 #[.string ⟨#[48, 49]⟩] w (RetE 0 2 w) := by
  obtain ⟨⟨cr0, cr1⟩, ⟨fr0, fr1⟩, hbW⟩ := res_box w (.bool false) (.slice none 0 0) 24
  obtain ⟨W, hW⟩ : ∃ W, W = w.alloc (.cells #[.bool false, .slice none 0 0] 24) := ⟨_, rfl⟩
  rw [← hW] at cr0 cr1 fr0 fr1 hbW
  have hc := Try.strings_CutPrefix ⟨#[48, 49]⟩ ⟨#[45]⟩ W
  rw [show (⟨(Lib.trimPrefix (⟨#[48, 49]⟩ : ByteArray).data.toList (⟨#[45]⟩ : ByteArray).data.toList).toArray⟩ : ByteArray) = ⟨#[48, 49]⟩ from by decide, show Lib.hasPrefix (⟨#[48, 49]⟩ : ByteArray).data.toList (⟨#[45]⟩ : ByteArray).data.toList = false from by decide] at hc
  have Hc := Lib.hid hc
  clear hc
  go_enter Try.func28, Try.ntmps28
  go_wp2_with fail
  rw [← hW]
  clear hW
  go_wp2_with (go_at_call 66; (with_reducible refine Hc.out.mono ?_); rintro e w1 ⟨rfl, rfl⟩)
  exact bodyPost_ret (v := .tuple #[.agg #[.bool false, .slice none 0 0], .int .i64 2]) (by simp [results, Try.results28, go_sem, cr0, cr1]) rfl ⟨_, rfl, intV_zero _, Ext.set2 hbW (Nat.le_refl _) _ _⟩


end Go.Proofs.Ytdmijpechdaniaa
