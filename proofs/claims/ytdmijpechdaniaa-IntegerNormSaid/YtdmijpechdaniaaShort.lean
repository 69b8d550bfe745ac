/- short of the reference: the number of at most two words. -/
import Derived.Test.YtdmijpechdaniaaFrom
namespace Go.Proofs.Ytdmijpechdaniaa
open Go.RowKit

theorem or_word (a x : Nat) (ha : a < 4294967296) (hx : x < 4294967296) : bits BinOp.or IntKind.u64 ((a : Int) * 4294967296) (x : Int) = ((a * 4294967296 + x : Nat) : Int) := by
  have e : (a : Int) * 4294967296 = ((a * 4294967296 : Nat) : Int) := by omega
  rw [e, u64_or_nat _ _ (by omega) (by omega)]
  congr 1
  have h := Nat.shiftLeft_add_eq_or_of_lt (i := 32) (b := x) (Nat.lt_of_lt_of_eq hx (by decide)) a
  rw [Nat.shiftLeft_eq] at h
  exact h.symm

set_option maxHeartbeats 400000 in
theorem r1_short (A : Option Addr) (n c : Nat) (xs : List Nat) (w : World) (hx : Wrd w A n c xs) (hn : n ≤ 2) :
    Calls Try.prog 71 #[.slice A n c] w fun e w' => e = .returned (.int .u64 (val xs)) ∧ w = w' := by
  have Hx := Lib.hid hx
  clear hx
  go_enter Try.func71, Try.ntmps71
  go_wp2
  go_loop [3, 4] (fun a i => ∃ (k acc : Nat), k ≤ n ∧ i = .int .i64 ((k : Int) - 1) ∧ a = .int .u64 acc ∧ acc = val (xs.drop k) ∧ acc < 4294967296 ^ (n - k)) (fun _ i => (intOf i + 1).toNat)
  case atStart => exact ⟨n, 0, Nat.le_refl _, rfl, rfl, by rw [List.drop_of_length_le (by rw [Hx.out.len]; exact Nat.le_refl _)]; rfl, Nat.pow_pos (by omega)⟩
  case round =>
    obtain ⟨k, acc, hk, rfl, rfl, ha, hab⟩ := hrel
    by_cases h0 : 0 < k
    · obtain ⟨b1, o1, rfl, _, hc1⟩ := Hx.out.at (by omega)
      have hc1 := hc1 (k - 1) (by omega)
      have g1 : (0 : Int) ≤ (k : Int) - 1 := by omega
      have g2 : (k : Int) - 1 < n := by omega
      have hx1 := Hx.out.wd.getD (k - 1)
      generalize hxx : xs.getD (k - 1) 0 = x at hc1 hx1
      have hacc : acc < 4294967296 := by
        have : 4294967296 ^ (n - k) ≤ 4294967296 ^ 1 := Nat.pow_le_pow_right (by omega) (by omega)
        omega
      have Hxx := Lib.hid hxx
      have Ha := Lib.hid ha
      have Hab := Lib.hid hab
      clear hxx ha hab
      go_wp2
      go_round
      case rel =>
        rw [or_word acc x hacc hx1]
        refine ⟨k - 1, acc * 4294967296 + x, by omega, by go_num, rfl, ?_, ?_⟩
        · rw [drop_step xs k h0 (by rw [Hx.out.len]; exact hk), Hxx.out]; simp only [val]; rw [← Ha.out]; omega
        · have e : n - (k - 1) = (n - k) + 1 := by omega
          rw [e, pow_succ_B]
          have := Hab.out
          omega
      case measure => simp [intOf]; omega
    · have hk0 : k = 0 := by omega
      subst hk0
      have Ha := Lib.hid ha
      clear ha hab
      go_wp2
      go_ret
      exact ⟨by rw [show val xs = acc from Ha.out.symm]; rfl, rfl⟩

end Go.Proofs.Ytdmijpechdaniaa
