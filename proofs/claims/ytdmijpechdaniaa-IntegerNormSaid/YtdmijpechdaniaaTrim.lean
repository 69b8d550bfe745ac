/- trim of both packages, and what it returns: the same slice, cut to the words before the last zeros. -/
import Derived.Test.YtdmijpechdaniaaBase
namespace Go.Proofs.Ytdmijpechdaniaa
open Go.RowKit

theorem trim_step_zero {xs : List Nat} {k : Nat} (hk : k ≤ xs.length) (hpos : 0 < k) (hx : xs.getD (k - 1) 0 = 0) : trim (xs.take (k - 1)) = trim (xs.take k) := by
  have h1 : xs.take k = xs.take (k - 1) ++ [0] := by
    have h2 : k = (k - 1) + 1 := by omega
    rw [h2, List.take_succ_eq_append_getElem (by omega)]
    simp only [Nat.add_sub_cancel]
    rw [List.getD_eq_getElem?_getD, List.getElem?_eq_getElem (by omega)] at hx
    simp at hx
    rw [hx]
  rw [h1, trim_snoc_zero]
theorem trim_step_done {xs : List Nat} (hw : Wd xs) {k : Nat} (hk : k ≤ xs.length) (hx : k = 0 ∨ xs.getD (k - 1) 0 ≠ 0) : trim (xs.take k) = xs.take k := by
  refine trim_of_Nz (hw.take k) ?_
  unfold Nz
  rcases hx with rfl | hx
  · simp
  · rcases Nat.eq_zero_or_pos k with rfl | hpos
    · simp
    · rw [List.getLast?_eq_getElem?, List.length_take, Nat.min_eq_left hk, List.getElem?_take, if_pos (by omega)]
      intro h
      rw [List.getD_eq_getElem?_getD, h] at hx
      exact hx rfl

set_option maxHeartbeats 400000 in
theorem i_trim (A : Option Addr) (n c : Nat) (xs : List Nat) (w : World) (h : Wrd w A n c xs) :
    Calls Try.prog 50 #[.slice A n c] w fun e w' => e = .returned (.slice A (trim xs).length c) ∧ w = w' := by
  have hn := h.cap
  have hc := h.lim
  have hl := h.len
  have hwd := h.wd
  have Hw := Lib.hid h
  have Hwd := Lib.hid hwd
  have Hl := Lib.hid hl
  clear h hwd hl
  go_enter Try.func50, Try.ntmps50
  go_wp2
  go_loop [0] (fun m => ∃ k : Nat, k ≤ n ∧ m = .slice A k c ∧ trim (xs.take k) = trim xs) (fun m => lenOf m)
  case atStart => exact ⟨n, Nat.le_refl _, rfl, by rw [List.take_of_length_le (by rw [Hl.out]; exact Nat.le_refl _)]⟩
  case round =>
    obtain ⟨k, hk, rfl, ht⟩ := hrel
    have Ht := Lib.hid ht
    clear ht
    by_cases h0 : 0 < k
    · obtain ⟨b, off, rfl, _, hcell⟩ := Hw.out.at (by omega)
      have hcell1 := hcell (k - 1) (by omega)
      clear hcell
      have h0' : (0 : Int) < k := by omega
      by_cases hx : xs.getD (k - 1) 0 = 0
      · rw [hx] at hcell1
        have Hx := Lib.hid hx
        clear hx
        go_wp2
        go_round
        case rel => exact ⟨k - 1, by omega, rfl, by rw [trim_step_zero (by rw [Hl.out]; exact hk) h0 Hx.out]; exact Ht.out⟩
        case measure => simp [lenOf]; omega
      · have e : trim (xs.take k) = xs.take k := trim_step_done Hwd.out (by rw [Hl.out]; exact hk) (.inr hx)
        obtain ⟨x, hxx⟩ : ∃ x, x = xs.getD (k - 1) 0 := ⟨_, rfl⟩
        rw [← hxx] at hcell1 hx
        have hx' : ((x : Int) == 0) = false := by simpa using hx
        clear hx hxx
        have fin : (trim xs).length = k := by rw [← Ht.out, e, List.length_take, Hl.out]; omega
        have Hfin := Lib.hid fin
        clear fin e
        go_wp2
        go_ret
        exact ⟨by rw [Hfin.out]; rfl, rfl⟩
    · have hk0 : k = 0 := by omega
      have e : trim (xs.take k) = xs.take k := trim_step_done Hwd.out (by rw [Hl.out]; exact hk) (.inl hk0)
      have fin : (trim xs).length = k := by rw [← Ht.out, e, List.length_take, Hl.out]; omega
      have Hfin := Lib.hid fin
      clear fin e
      subst hk0
      go_wp2
      go_ret
      exact ⟨by rw [Hfin.out]; rfl, rfl⟩

set_option maxHeartbeats 400000 in
theorem r1_trim (A : Option Addr) (n c : Nat) (xs : List Nat) (w : World) (h : Wrd w A n c xs) :
    Calls Try.prog 65 #[.slice A n c] w fun e w' => e = .returned (.slice A (trim xs).length c) ∧ w = w' := by
  have hn := h.cap
  have hc := h.lim
  have hl := h.len
  have hwd := h.wd
  have Hw := Lib.hid h
  have Hwd := Lib.hid hwd
  have Hl := Lib.hid hl
  clear h hwd hl
  go_enter Try.func65, Try.ntmps65
  go_wp2
  go_loop [0] (fun m => ∃ k : Nat, k ≤ n ∧ m = .slice A k c ∧ trim (xs.take k) = trim xs) (fun m => lenOf m)
  case atStart => exact ⟨n, Nat.le_refl _, rfl, by rw [List.take_of_length_le (by rw [Hl.out]; exact Nat.le_refl _)]⟩
  case round =>
    obtain ⟨k, hk, rfl, ht⟩ := hrel
    have Ht := Lib.hid ht
    clear ht
    by_cases h0 : 0 < k
    · obtain ⟨b, off, rfl, _, hcell⟩ := Hw.out.at (by omega)
      have hcell1 := hcell (k - 1) (by omega)
      clear hcell
      have h0' : (0 : Int) < k := by omega
      by_cases hx : xs.getD (k - 1) 0 = 0
      · rw [hx] at hcell1
        have Hx := Lib.hid hx
        clear hx
        go_wp2
        go_round
        case rel => exact ⟨k - 1, by omega, rfl, by rw [trim_step_zero (by rw [Hl.out]; exact hk) h0 Hx.out]; exact Ht.out⟩
        case measure => simp [lenOf]; omega
      · have e : trim (xs.take k) = xs.take k := trim_step_done Hwd.out (by rw [Hl.out]; exact hk) (.inr hx)
        obtain ⟨x, hxx⟩ : ∃ x, x = xs.getD (k - 1) 0 := ⟨_, rfl⟩
        rw [← hxx] at hcell1 hx
        have hx' : ((x : Int) == 0) = false := by simpa using hx
        clear hx hxx
        have fin : (trim xs).length = k := by rw [← Ht.out, e, List.length_take, Hl.out]; omega
        have Hfin := Lib.hid fin
        clear fin e
        go_wp2
        go_ret
        exact ⟨by rw [Hfin.out]; rfl, rfl⟩
    · have hk0 : k = 0 := by omega
      have e : trim (xs.take k) = xs.take k := trim_step_done Hwd.out (by rw [Hl.out]; exact hk) (.inl hk0)
      have fin : (trim xs).length = k := by rw [← Ht.out, e, List.length_take, Hl.out]; omega
      have Hfin := Lib.hid fin
      clear fin e
      subst hk0
      go_wp2
      go_ret
      exact ⟨by rw [Hfin.out]; rfl, rfl⟩


end Go.Proofs.Ytdmijpechdaniaa
