/- Pow of the reference. Valid, Int64 and Bits of both packages. Int64 of both packages. Bits of the reference. -/
import Derived.Test.YtecjnnhkbmkemaaDoorAj
namespace Go.Proofs.YtecjnnhkbmkemaaDoor
open Go.RowKit

theorem intV_open {w : World} {v : Value} {z : Int} {b : Bool} (h : IntV w v z) (hb : decide (z < 0) = b) : ∃ A n c, v = .agg #[.bool b, .slice A n c] ∧ Wrd w A n c (digs z.natAbs) := by
  obtain ⟨A, n, c, h1, h2⟩ := h
  exact ⟨A, n, c, by rw [h1, hb], h2⟩
theorem intV_of {w : World} {A : Option Addr} {n c : Nat} {z : Int} {b : Bool} (hb : decide (z < 0) = b) (h : Wrd w A n c (digs z.natAbs)) : IntV w (.agg #[.bool b, .slice A n c]) z := ⟨A, n, c, by rw [hb], h⟩
/-- the cells of a box just made -/
theorem new_box (w : World) (a0 a1 : Value) (t : TypeId) : ((w.alloc (.cells #[a0, a1] t)).cell? ⟨w.heap.size, 0, none⟩ = some a0 ∧ (w.alloc (.cells #[a0, a1] t)).cell? ⟨w.heap.size, 1, none⟩ = some a1) ∧ ((w.alloc (.cells #[a0, a1] t)).frozen? ⟨w.heap.size, 0, none⟩ = false ∧ (w.alloc (.cells #[a0, a1] t)).frozen? ⟨w.heap.size, 1, none⟩ = false) := by
  simp [go_sem]

set_option maxHeartbeats 800000 in
theorem i_Pow_lo (va : Value) (na : Bool) (xs : List Nat) (k : Int) (w : World) (ha : IntR w va na xs) (hk : k < 0) :
    Calls Tryd.prog 12 #[va, .int .i64 k] w (RetE 0 1 w) := by
  obtain ⟨A, n, c, rfl, hx⟩ := ha
  obtain ⟨W, hW⟩ : ∃ W, W = (w.alloc (.cells #[.bool na, .slice A n c] 24)).alloc (.cells #[.bool false, .slice none 0 0] 24) := ⟨_, rfl⟩
  obtain ⟨⟨ca0, ca1⟩, ⟨cr0, cr1, fr0, fr1⟩, hbW⟩ := one_box w _ _ _ _ _ W hW
  have t0 : k < 0 := hk
  clear hx
  go_enter Tryd.func12, Tryd.ntmps12
  go_wp2_with fail
  rw [← hW]
  clear hW
  go_wp2_with fail
  exact bodyPost_ret (v := .tuple #[.agg #[.bool false, .slice none 0 0], .int .i64 1]) (by simp [results, Tryd.results12, go_sem, cr0, cr1]) rfl ⟨_, rfl, intV_zero _, by first | exact hbW | exact hbW.set2 (by omega) _ _⟩

set_option maxHeartbeats 800000 in
theorem i_Pow_hi (va : Value) (na : Bool) (xs : List Nat) (k : Int) (w : World) (ha : IntR w va na xs) (hk : 4096 < k) :
    Calls Tryd.prog 12 #[va, .int .i64 k] w (RetE 0 1 w) := by
  obtain ⟨A, n, c, rfl, hx⟩ := ha
  obtain ⟨W, hW⟩ : ∃ W, W = (w.alloc (.cells #[.bool na, .slice A n c] 24)).alloc (.cells #[.bool false, .slice none 0 0] 24) := ⟨_, rfl⟩
  obtain ⟨⟨ca0, ca1⟩, ⟨cr0, cr1, fr0, fr1⟩, hbW⟩ := one_box w _ _ _ _ _ W hW
  have t0 : ¬ k < 0 := (by omega); have t1 : k > 4096 := hk
  clear hx
  go_enter Tryd.func12, Tryd.ntmps12
  go_wp2_with fail
  rw [← hW]
  clear hW
  go_wp2_with fail
  exact bodyPost_ret (v := .tuple #[.agg #[.bool false, .slice none 0 0], .int .i64 1]) (by simp [results, Tryd.results12, go_sem, cr0, cr1]) rfl ⟨_, rfl, intV_zero _, by first | exact hbW | exact hbW.set2 (by omega) _ _⟩

end Go.Proofs.YtecjnnhkbmkemaaDoor

namespace Go.Proofs.YtecjnnhkbmkemaaDoor
open Go.RowKit
attribute [local go_sem ↓] Go.wp_at_zero Go.wp_at_succ

/-- in normal form -/
def validB (na : Bool) (xs : List Nat) : Bool := decide ((trim xs).length = xs.length) && (!na || decide (0 < xs.length))
theorem ext2e {W w : World} {p1 p2 : Addr} {v1 v2 : Value} (h : w.cell? p1 = some v1 ∧ w.cell? p2 = some v2 ∧ Ext W w) : Ext W w := h.2.2
theorem trim_top {xs : List Nat} (hw : Wd xs) (h : 0 < xs.length) : (trim xs).length = xs.length ↔ xs.getD (xs.length - 1) 0 ≠ 0 := by
  constructor
  · intro h1 h2
    have h3 := trim_step_zero (xs := xs) (k := xs.length) (Nat.le_refl _) h h2
    rw [List.take_length] at h3
    have h4 := trim_length (xs := xs.take (xs.length - 1)) (hw.take _)
    rw [h3, h1, List.length_take] at h4
    omega
  · intro h1
    have h2 := trim_step_done hw (k := xs.length) (Nat.le_refl _) (.inr h1)
    rw [List.take_length] at h2
    rw [h2]

end Go.Proofs.YtecjnnhkbmkemaaDoor

namespace Go.Proofs.YtecjnnhkbmkemaaDoor
open Go.RowKit
attribute [local go_sem ↓] Go.wp_at_zero Go.wp_at_succ

/-- a number, and whether it is one -/
def RetIB (r : Int) (b : Bool) (w : World) (e : Ending) (w' : World) : Prop := e = .returned (.tuple #[.int .i64 r, .bool b]) ∧ Below w.heap.size w w'
theorem toUint_d {A : Option Addr} {n c : Nat} {u : Nat} (h2 : n ≤ 2) (W : World) (h : Wrd W A n c (digs u)) : Calls Tryd.prog 53 #[.slice A n c] W fun e W' => e = .returned (.int .u64 (u : Int)) ∧ Below W.heap.size W W' := by
  have := i_toUint A n c (digs u) W h h2
  rwa [val_digs] at this
theorem wrap_pos {u : Int} (h : 0 ≤ u ∧ u ≤ 9223372036854775807) : IntKind.i64.wrap u = u := IntWalk.i64_in _ (by omega)
theorem wrap_neg {u : Int} (h : 0 ≤ u ∧ u ≤ 9223372036854775808) : IntKind.i64.wrap (IntKind.u64.wrap (-u)) = -u := by rw [IntKind.wrap_u64, IntKind.wrap_i64]; omega
theorem pos64 {u : Int} (h : 0 ≤ u ∧ u ≤ 9223372036854775807) : wrap64 u = u := by unfold wrap64; omega
theorem neg64 {u : Int} (h : 0 ≤ u ∧ u ≤ 9223372036854775808) : wrap64 (-wrap64 u) = -u := by unfold wrap64; omega
theorem neg64' {u : Int} (h : 0 ≤ u ∧ u ≤ 9223372036854775808) : wrap64 (IntKind.u64.wrap (-u)) = -u := by rw [IntKind.wrap_u64]; unfold wrap64; omega
theorem neg_wrap {u : Int} (h : 0 ≤ u ∧ u ≤ 9223372036854775808) : IntKind.i64.wrap (-IntKind.i64.wrap u) = -u := by rw [IntKind.wrap_i64, IntKind.wrap_i64]; omega

/-- a number that fits 64 bits, and whether it does -/
def fit64 (z : Int) : Int × Bool := if -9223372036854775808 ≤ z ∧ z ≤ 9223372036854775807 then (z, true) else (0, false)
end Go.Proofs.YtecjnnhkbmkemaaDoor


namespace Go.Proofs.YtecjnnhkbmkemaaDoor
open Go.RowKit

theorem bitLen_half {y : Nat} (h : 0 < y) : bitLen y = bitLen (y / 2) + 1 := by
  by_cases h1 : y / 2 = 0
  · have : y = 1 := by omega
    subst this; decide
  · have := bitLen_shift y 1 h1
    simp only [Nat.pow_one] at this
    omega

end Go.Proofs.YtecjnnhkbmkemaaDoor
