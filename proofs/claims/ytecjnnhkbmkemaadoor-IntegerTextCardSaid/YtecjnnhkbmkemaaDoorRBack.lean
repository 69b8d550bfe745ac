/- back of the reference: a list shifted to the right. -/
import Derived.Test.YtecjnnhkbmkemaaDoorAf
import Derived.Test.YtecjnnhkbmkemaaDoorAe
namespace Go.Proofs.YtecjnnhkbmkemaaDoor
open Go.RowKit

theorem or_word' (a x : Nat) (ha : a < 4294967296) (hx : x < 4294967296) : bits BinOp.or IntKind.u64 (x : Int) ((a : Int) * 4294967296) = ((a * 4294967296 + x : Nat) : Int) := by
  have h := or_word a x ha hx
  have e : (a : Int) * 4294967296 = ((a * 4294967296 : Nat) : Int) := by omega
  rw [e, u64_or_nat _ _ (by omega) (by omega)] at h ⊢
  rw [Nat.or_comm]
  exact h
theorem back_word (s x x2 : Nat) (h31 : s ≤ 31) (hx : x < 4294967296) : (x2 * 4294967296 + x) / 2 ^ s % 4294967296 = x / 2 ^ s + x2 % 2 ^ s * 2 ^ (32 - s) ∧ x / 2 ^ s + x2 % 2 ^ s * 2 ^ (32 - s) < 4294967296 := by
  have hp := pow_s s h31
  have e1 : x2 * 4294967296 + x = x + 2 ^ s * (x2 * 2 ^ (32 - s)) := by
    have : x2 * 4294967296 = x2 * (2 ^ s * 2 ^ (32 - s)) := by rw [hp]
    rw [this]; grind
  rw [e1, Nat.add_mul_div_left _ _ (Nat.two_pow_pos s)]
  have hd := Nat.div_add_mod x2 (2 ^ s)
  have hm := Nat.mod_lt x2 (Nat.two_pow_pos s)
  have hq : x / 2 ^ s < 2 ^ (32 - s) := by
    rw [Nat.div_lt_iff_lt_mul (Nat.two_pow_pos s), Nat.mul_comm, hp]; exact hx
  have h1 : (x2 % 2 ^ s + 1) * 2 ^ (32 - s) ≤ 2 ^ s * 2 ^ (32 - s) := Nat.mul_le_mul_right _ hm
  rw [hp, Nat.add_mul, Nat.one_mul] at h1
  have e2 : x2 * 2 ^ (32 - s) = 4294967296 * (x2 / 2 ^ s) + x2 % 2 ^ s * 2 ^ (32 - s) := by
    conv => lhs; rw [← hd]
    rw [← hp]; grind
  rw [e2]
  generalize x2 % 2 ^ s * 2 ^ (32 - s) = M at *
  generalize x / 2 ^ s = D at *
  generalize x2 / 2 ^ s = H at *
  exact ⟨by omega, by omega⟩

end Go.Proofs.YtecjnnhkbmkemaaDoor
