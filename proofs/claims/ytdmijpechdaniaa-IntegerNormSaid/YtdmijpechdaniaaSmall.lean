/- small of the laws. -/
import Derived.Test.YtdmijpechdaniaaCp
namespace Go.Proofs.Ytdmijpechdaniaa
open Go.RowKit

set_option maxHeartbeats 800000 in
theorem l1_small (b o n c : Nat) (f : Nat → Bool) (A : Nat → Option Addr) (l k : Nat → Nat) (w : World) (hnc : n ≤ c) (hcm : c ≤ 4294967296)
    (hc : ∀ i, i < n → w.cell? ⟨b, o + i * 2, none⟩ = some (.bool (f i)) ∧ w.cell? ⟨b, o + i * 2 + 1, none⟩ = some (.slice (A i) (l i) (k i))) :
    Calls Try.prog 12 #[.slice (some ⟨b, o, none⟩) n c] w (RetB (decide (∀ i, i < n → l i ≤ 20)) w) := by
  have Hc := Lib.hid hc
  clear hc
  go_enter Try.func12, Try.ntmps12
  go_wp2_with fail
  go_loopw [7] (fun i wr => ∃ j : Nat, j ≤ n ∧ i = .int .i64 j ∧ (∀ i, i < j → l i ≤ 20) ∧ Ext w wr) (fun i _ => n - (intOf i).toNat)
  case atStart => exact ⟨0, Nat.zero_le _, by go_num, fun i h => absurd h (Nat.not_lt_zero _), Ext.refl _⟩
  case round =>
    obtain ⟨j, hj, rfl, hall, hE⟩ := hrel
    have Hall := Lib.hid hall
    have HE := Lib.hid hE
    clear hall hE
    by_cases hjn : j < n
    · obtain ⟨h0, h1⟩ := Hc.out j hjn
      have h0' := kc' h0 HE.out
      have h1' := kc' h1 HE.out
      have hjn' : (j : Int) < n := by omega
      have HE2 := Lib.hid (fun o : Obj => HE.out.alloc o)
      clear h0 h1
      by_cases h20 : l j ≤ 20
      · have g20 : ¬ ((l j : Int) > 20) := by omega
        go_wp2_with fail
        refine ⟨⟨j + 1, by omega, by go_num, fun i hi => ?_, HE2.out _⟩, by simp [intOf]; omega⟩
        rcases Nat.lt_succ_iff_lt_or_eq.1 hi with h | rfl
        · exact Hall.out i h
        · exact h20
      · have g20 : (l j : Int) > 20 := by omega
        go_wp2_with fail
        go_ret
        exact ⟨by rw [decide_eq_false (fun h => h20 (h j hjn))]; rfl, HE2.out _⟩
    · obtain rfl : j = n := by omega
      have hjn' : ¬ (j : Int) < j := by omega
      go_wp2_with fail
      go_ret
      exact ⟨by rw [decide_eq_true Hall.out]; rfl, HE.out⟩

end Go.Proofs.Ytdmijpechdaniaa
