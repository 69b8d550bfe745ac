/- Newton's square root: the plain law. -/
import Derived.Test.YtdmijpechdaniaaW
namespace Go.Proofs.Ytdmijpechdaniaa

theorem amgm (x t : Nat) : 4 * (x * t) ≤ (x + t) * (x + t) := by
  have h : 0 ≤ ((x : Int) - t) * ((x : Int) - t) := by
    rcases Int.le_total 0 ((x : Int) - t) with h | h
    · exact Int.mul_nonneg h h
    · exact Int.mul_nonneg_of_nonpos_of_nonpos h h
  have e : ((x : Int) + t) * ((x : Int) + t) = ((x : Int) - t) * ((x : Int) - t) + 4 * ((x : Int) * t) := by grind
  have h2 : (4 * ((x : Int) * t)) ≤ ((x : Int) + t) * ((x : Int) + t) := by omega
  exact_mod_cast h2
/-- one step stays above the root -/
theorem newton_above (a x : Nat) (hx : 0 < x) : a < ((x + a / x) / 2 + 1) * ((x + a / x) / 2 + 1) := by
  have h1 : a < x * (a / x + 1) := Nat.lt_mul_div_succ a hx
  have h2 := amgm x (a / x + 1)
  generalize hq : a / x = q at *
  generalize hy : (x + q) / 2 = y at *
  have h3 : x + (q + 1) ≤ 2 * (y + 1) := by omega
  have h4 : (x + (q + 1)) * (x + (q + 1)) ≤ (2 * (y + 1)) * (2 * (y + 1)) := Nat.mul_le_mul h3 h3
  have h5 : (2 * (y + 1)) * (2 * (y + 1)) = 4 * ((y + 1) * (y + 1)) := by grind
  omega
/-- the last step: the root -/
theorem newton_end (a x : Nat) (hx : 0 < x) (h : x ≤ (x + a / x) / 2) : x * x ≤ a := by
  have h1 : x ≤ a / x := by omega
  exact (Nat.le_div_iff_mul_le hx).1 h1
theorem newton_pos (a y : Nat) (ha : 0 < a) (h : a < (y + 1) * (y + 1)) : 0 < y := by
  rcases Nat.eq_zero_or_pos y with rfl | h0
  · simp at h; omega
  · exact h0

end Go.Proofs.Ytdmijpechdaniaa
