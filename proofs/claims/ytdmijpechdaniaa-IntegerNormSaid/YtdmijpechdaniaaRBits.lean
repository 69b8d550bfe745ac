/- Bits of the reference. -/
import Derived.Test.YtdmijpechdaniaaInt64
namespace Go.Proofs.Ytdmijpechdaniaa
open Go.RowKit

theorem bitLen_half {y : Nat} (h : 0 < y) : bitLen y = bitLen (y / 2) + 1 := by
  by_cases h1 : y / 2 = 0
  · have : y = 1 := by omega
    subst this; decide
  · have := bitLen_shift y 1 h1
    simp only [Nat.pow_one] at this
    omega

set_option maxHeartbeats 800000 in
theorem r1_length (A : Option Addr) (n c v : Nat) (w : World) (hx : Wrd w A n c (digs v)) (hs : n ≤ 4294967296) :
    Calls Try.prog 73 #[.slice A n c] w fun e w' => e = .returned (.int .i64 (bitLen v : Int)) ∧ w = w' := by
  by_cases h0 : n = 0
  · have hv : v = 0 := by
      have := hx.len
      rw [h0] at this
      exact digs_eq_nil.1 (List.eq_nil_of_length_eq_zero this)
    have hb : bitLen v = 0 := by rw [hv]; rfl
    rw [hb]
    subst h0
    clear hx hv hb
    go_enter Try.func73, Try.ntmps73
    go_wp2
    go_ret
    exact ⟨rfl, rfl⟩
  · have h0' : ((n : Int) == 0) = false := by simp; omega
    obtain ⟨b1, o1, rfl, _, hc1⟩ := hx.at (by omega)
    have hc2 := hc1 (n - 1) (by omega)
    clear hc1
    have hx1 := hx.wd.getD (n - 1)
    obtain ⟨k, hk⟩ : ∃ k, n = k + 1 := ⟨n - 1, by omega⟩
    have hb := bits_top hx.wd (Nz_digs _) k (by rw [hx.len, hk])
    rw [val_digs] at hb
    rw [show n - 1 = k by omega] at hc2 hx1
    generalize (digs v).getD k 0 = x at hc2 hx1 hb
    have hb32 := bitLen_le32 x hx1
    have Hb := Lib.hid hb.2
    have Hk := Lib.hid hk
    have g1 : (0 : Int) ≤ (n : Int) - 1 := by omega
    have g2 : (n : Int) - 1 < n := by omega
    have hc3 : w.cell? ⟨b1, o1 + (n - 1), none⟩ = some (W32 x) := by rw [show n - 1 = k by omega]; exact hc2
    clear hx hb hk hc2
    go_enter Try.func73, Try.ntmps73
    go_wp2
    go_loop [3, 4] (fun a i => ∃ (j y : Nat), a = .int .i64 j ∧ i = .int .u32 y ∧ j + bitLen y = bitLen x ∧ y < 4294967296) (fun _ i => (intOf i).toNat)
    case atStart => exact ⟨0, x, rfl, rfl, by omega, hx1⟩
    case round =>
      obtain ⟨j, y, rfl, rfl, hjy, hy⟩ := hrel
      have hj32 : j ≤ 32 := by omega
      by_cases hy0 : 0 < y
      · have hh := bitLen_half hy0
        have t0 : (0 : Int) < y := by omega
        have Hjy := Lib.hid hjy
        have Hh := Lib.hid hh
        clear hjy hh
        go_wp2
        go_round
        case rel => exact ⟨j + 1, y / 2, by go_num, by go_num, by have := Hjy.out; have := Hh.out; omega, by omega⟩
        case measure => simp [intOf]; omega
      · have hy1 : y = 0 := by omega
        subst hy1
        have hj : j = bitLen x := by rw [show bitLen 0 = 0 from rfl] at hjy; omega
        have Hj := Lib.hid hj
        clear hjy hj
        go_wp2
        go_ret
        refine ⟨ret_i ?_, rfl⟩
        have h1 := Hj.out
        have h2 := Hb.out
        have h3 := Hk.out
        first | omega | (rw [IntWalk.i64_in _ (by omega)]; omega) | (rw [wrap64_fit (by omega)]; omega)

set_option maxHeartbeats 800000 in
theorem r1_Bits (va : Value) (na : Bool) (xs : List Nat) (w : World) (ha : IntR w va na xs) (hs : xs.length ≤ 2147483648) :
    Calls Try.prog 39 #[va] w (RetN (bitLen (val xs)) w) := by
  obtain ⟨A, n, c, rfl, hx⟩ := ha
  obtain ⟨W, hW⟩ : ∃ W, W = w.alloc (.cells #[.bool na, .slice A n c] 24) := ⟨_, rfl⟩
  obtain ⟨⟨ca0, ca1⟩, ⟨fa0, fa1⟩, hbW⟩ := box1 w _ _ _ W hW
  have hl := trim_len hx.wd hs
  have hlen := r1_length A (trim xs).length c (val xs) W (hx.ext hbW).trim hl
  obtain ⟨bl, hbl⟩ : ∃ bl, bl = bitLen (val xs) := ⟨_, rfl⟩
  rw [← hbl] at hlen ⊢
  have Hx := Lib.hid (hx.ext hbW)
  have Hl := Lib.hid hlen
  clear hx hlen hbl hl
  go_enter Try.func39, Try.ntmps39
  go_wp2_with fail
  rw [← hW]
  clear hW
  go_wp2_with (first
    | (go_at_call 65; (with_reducible refine (r1_trim A n c xs _ Hx.out).mono ?_); rintro e w' ⟨rfl, rfl⟩)
    | (go_at_call 73; (with_reducible refine Hl.out.mono ?_); rintro e w' ⟨rfl, rfl⟩))
  go_ret
  exact ⟨rfl, hbW⟩

end Go.Proofs.Ytdmijpechdaniaa
