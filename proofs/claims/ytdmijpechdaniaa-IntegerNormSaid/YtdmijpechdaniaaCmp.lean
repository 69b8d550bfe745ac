/- cmp.Compare at int and uint32; compare of both packages. -/
import Derived.Test.YtdmijpechdaniaaSgn
import Derived.Test.YtdmijpechdaniaaNum
namespace Go.Proofs.Ytdmijpechdaniaa
open Go.RowKit

set_option maxHeartbeats 400000 in
theorem compare_int (a b : Int) (w : World) : Calls Try.prog 74 #[.int .i64 a, .int .i64 b] w fun e w' => e = .returned (.int .i64 (ordI a b)) ∧ w = w' := by
  have ha : (a != a) = false := by simp
  have hb : (b != b) = false := by simp
  by_cases h1 : a < b
  · have fin : ordI a b = -1 := by unfold ordI; rw [if_pos h1]
    have Hfin := Lib.hid fin
    clear fin
    go_enter Try.func74, Try.ntmps74
    go_wp2
    go_ret
    exact ⟨by rw [Hfin.out]; rfl, rfl⟩
  · by_cases h2 : b < a
    · have fin : ordI a b = 1 := by unfold ordI; rw [if_neg h1, if_pos h2]
      have Hfin := Lib.hid fin
      clear fin
      go_enter Try.func74, Try.ntmps74
      go_wp2
      go_ret
      exact ⟨by rw [Hfin.out]; rfl, rfl⟩
    · have fin : ordI a b = 0 := by unfold ordI; rw [if_neg h1, if_neg h2]
      have Hfin := Lib.hid fin
      clear fin
      go_enter Try.func74, Try.ntmps74
      go_wp2
      go_ret
      exact ⟨by rw [Hfin.out]; rfl, rfl⟩

set_option maxHeartbeats 400000 in
theorem compare_uint32 (a b : Int) (w : World) : Calls Try.prog 85 #[.int .u32 a, .int .u32 b] w fun e w' => e = .returned (.int .i64 (ordI a b)) ∧ w = w' := by
  have ha : (a != a) = false := by simp
  have hb : (b != b) = false := by simp
  by_cases h1 : a < b
  · have fin : ordI a b = -1 := by unfold ordI; rw [if_pos h1]
    have Hfin := Lib.hid fin
    clear fin
    go_enter Try.func85, Try.ntmps85
    go_wp2
    go_ret
    exact ⟨by rw [Hfin.out]; rfl, rfl⟩
  · by_cases h2 : b < a
    · have fin : ordI a b = 1 := by unfold ordI; rw [if_neg h1, if_pos h2]
      have Hfin := Lib.hid fin
      clear fin
      go_enter Try.func85, Try.ntmps85
      go_wp2
      go_ret
      exact ⟨by rw [Hfin.out]; rfl, rfl⟩
    · have fin : ordI a b = 0 := by unfold ordI; rw [if_neg h1, if_neg h2]
      have Hfin := Lib.hid fin
      clear fin
      go_enter Try.func85, Try.ntmps85
      go_wp2
      go_ret
      exact ⟨by rw [Hfin.out]; rfl, rfl⟩


/-- what compare gives: the number, and the world but for draws -/
def RetQ (z : Int) (w : World) (e : Ending) (w' : World) : Prop := e = .returned (.int .i64 z) ∧ ∃ n, w' = w.drewN n

theorem cmpW_len_lt {xs ys : List Nat} (h : xs.length ≠ ys.length) : cmpW xs ys = ordI xs.length ys.length := by unfold cmpW; rw [if_neg h]
theorem cmpW_len_eq {xs ys : List Nat} (h : xs.length = ys.length) : cmpW xs ys = ordI (val xs) (val ys) := by unfold cmpW; rw [if_pos h]

set_option maxHeartbeats 400000 in
theorem i_compare (A B : Option Addr) (n m c d : Nat) (xs ys : List Nat) (w : World) (hx : Wrd w A n c xs) (hy : Wrd w B m d ys) :
    Calls Try.prog 63 #[.slice A n c, .slice B m d] w (RetQ (cmpW xs ys) w) := by
  have hnc := hx.cap
  have hc := hx.lim
  have hmd := hy.cap
  have hd := hy.lim
  have Hx := Lib.hid hx
  have Hy := Lib.hid hy
  clear hx hy
  by_cases hnm : n = m
  · subst hnm
    have hne : ((n : Int) != n) = false := by simp
    have hge : ∀ k : Nat, decide ((k : Int) - 1 ≥ 0) = decide (0 < k) := fun k => by simp; omega
    clear hge
    go_enter Try.func63, Try.ntmps63
    go_wp2
    go_loopw [5] (fun i wr => ∃ k : Nat, k ≤ n ∧ i = .int .i64 ((k : Int) - 1) ∧ xs.drop k = ys.drop k ∧ ∃ q, wr = w.drewN q) (fun i _ => (intOf i + 1).toNat)
    case atStart => exact ⟨n, Nat.le_refl _, rfl, by rw [List.drop_of_length_le (by rw [Hx.out.len]; exact Nat.le_refl _), List.drop_of_length_le (by rw [Hy.out.len]; exact Nat.le_refl _)], 0, rfl⟩
    case round =>
      obtain ⟨k, hk, rfl, hdr, q, rfl⟩ := hrel
      have Hdr := Lib.hid hdr
      clear hdr
      by_cases h0 : 0 < k
      · obtain ⟨b1, o1, rfl, _, hc1⟩ := Hx.out.at (by omega)
        obtain ⟨b2, o2, rfl, _, hc2⟩ := Hy.out.at (by omega)
        have hc1 := hc1 (k - 1) (by omega)
        have hc2 := hc2 (k - 1) (by omega)
        have g1 : (0 : Int) ≤ (k : Int) - 1 := by omega
        have g2 : (k : Int) - 1 < n := by omega
        obtain ⟨x, hxx⟩ : ∃ x, x = xs.getD (k - 1) 0 := ⟨_, rfl⟩
        obtain ⟨y, hyy⟩ : ∃ y, y = ys.getD (k - 1) 0 := ⟨_, rfl⟩
        rw [← hxx] at hc1
        rw [← hyy] at hc2
        have Hxx := Lib.hid hxx
        have Hyy := Lib.hid hyy
        clear hxx hyy
        by_cases hxy : x = y
        · subst hxy
          have hne2 : ((x : Int) != x) = false := by simp
          go_wp2
          go_quiet (fail)
          go_wp2
          go_roundw
          case rel => exact ⟨k - 1, by omega, by go_num, by rw [drop_step xs k h0 (by rw [Hx.out.len]; exact hk), drop_step ys k h0 (by rw [Hy.out.len]; exact hk), Hdr.out, ← Hxx.out, ← Hyy.out], _, rfl⟩
          case measure => simp [intOf]; omega
        · have hne2 : ((x : Int) != y) = true := by rw [bne_iff_ne]; omega
          have fin : ordI x y = cmpW xs ys := by
            rw [cmpW_len_eq (by rw [Hx.out.len, Hy.out.len])]
            rcases Nat.lt_or_gt_of_ne hxy with h | h
            · rw [ordI_lt (by omega), ordI_lt]
              have := val_lt_of_top Hx.out.wd h0 (by rw [Hx.out.len]; exact hk) (by rw [Hy.out.len]; exact hk) Hdr.out (by rw [← Hxx.out, ← Hyy.out]; exact h)
              omega
            · rw [ordI_gt (by omega), ordI_gt]
              have := val_lt_of_top Hy.out.wd h0 (by rw [Hy.out.len]; exact hk) (by rw [Hx.out.len]; exact hk) Hdr.out.symm (by rw [← Hxx.out, ← Hyy.out]; exact h)
              omega
          have Hfin := Lib.hid fin
          clear fin
          go_wp2
          go_quiet (fail)
          go_wp2
          go_quiet ((go_at_call 85; exact quiet_add_left (compare_uint32 _ _ _)))
          go_wp2
          go_ret
          exact ⟨by rw [← Hfin.out]; rfl, _, dd3 _ _ _ _⟩
      · have hk0 : k = 0 := by omega
        subst hk0
        have fin : cmpW xs ys = 0 := by
          rw [cmpW_eq_zero Hx.out.wd Hy.out.wd]
          have := Hdr.out
          simpa using this
        have Hfin := Lib.hid fin
        clear fin
        go_wp2
        go_ret
        exact ⟨by rw [Hfin.out]; rfl, _, rfl⟩
  · have hne : ((n : Int) != m) = true := by rw [bne_iff_ne]; omega
    have fin : ordI n m = cmpW xs ys := by rw [cmpW_len_lt (by rw [Hx.out.len, Hy.out.len]; exact hnm), Hx.out.len, Hy.out.len]
    have Hfin := Lib.hid fin
    clear fin
    go_enter Try.func63, Try.ntmps63
    go_wp2_with (go_at_call 74; refine (compare_int _ _ _).mono ?_; rintro e w' ⟨rfl, rfl⟩)
    go_ret
    exact ⟨by rw [← Hfin.out]; rfl, 0, rfl⟩

set_option maxHeartbeats 400000 in
theorem r1_compare (A B : Option Addr) (n m c d : Nat) (xs ys : List Nat) (w : World) (hx : Wrd w A n c xs) (hy : Wrd w B m d ys) :
    Calls Try.prog 58 #[.slice A n c, .slice B m d] w (RetQ (cmpW xs ys) w) := by
  have hnc := hx.cap
  have hc := hx.lim
  have hmd := hy.cap
  have hd := hy.lim
  have Hx := Lib.hid hx
  have Hy := Lib.hid hy
  clear hx hy
  by_cases hnm : n = m
  · subst hnm
    have hne : ((n : Int) != n) = false := by simp
    have hge : ∀ k : Nat, decide ((k : Int) - 1 ≥ 0) = decide (0 < k) := fun k => by simp; omega
    clear hge
    go_enter Try.func58, Try.ntmps58
    go_wp2
    go_loopw [5] (fun i wr => ∃ k : Nat, k ≤ n ∧ i = .int .i64 ((k : Int) - 1) ∧ xs.drop k = ys.drop k ∧ ∃ q, wr = w.drewN q) (fun i _ => (intOf i + 1).toNat)
    case atStart => exact ⟨n, Nat.le_refl _, rfl, by rw [List.drop_of_length_le (by rw [Hx.out.len]; exact Nat.le_refl _), List.drop_of_length_le (by rw [Hy.out.len]; exact Nat.le_refl _)], 0, rfl⟩
    case round =>
      obtain ⟨k, hk, rfl, hdr, q, rfl⟩ := hrel
      have Hdr := Lib.hid hdr
      clear hdr
      by_cases h0 : 0 < k
      · obtain ⟨b1, o1, rfl, _, hc1⟩ := Hx.out.at (by omega)
        obtain ⟨b2, o2, rfl, _, hc2⟩ := Hy.out.at (by omega)
        have hc1 := hc1 (k - 1) (by omega)
        have hc2 := hc2 (k - 1) (by omega)
        have g1 : (0 : Int) ≤ (k : Int) - 1 := by omega
        have g2 : (k : Int) - 1 < n := by omega
        obtain ⟨x, hxx⟩ : ∃ x, x = xs.getD (k - 1) 0 := ⟨_, rfl⟩
        obtain ⟨y, hyy⟩ : ∃ y, y = ys.getD (k - 1) 0 := ⟨_, rfl⟩
        rw [← hxx] at hc1
        rw [← hyy] at hc2
        have Hxx := Lib.hid hxx
        have Hyy := Lib.hid hyy
        clear hxx hyy
        by_cases hxy : x = y
        · subst hxy
          have hne2 : ¬ (x : Int) < x := by omega
          go_wp2
          go_quiet (fail)
          go_wp2
          go_quiet (fail)
          go_wp2
          go_roundw
          case rel => exact ⟨k - 1, by omega, by go_num, by rw [drop_step xs k h0 (by rw [Hx.out.len]; exact hk), drop_step ys k h0 (by rw [Hy.out.len]; exact hk), Hdr.out, ← Hxx.out, ← Hyy.out], _, by first | exact dd3 _ _ _ _ | rfl⟩
          case measure => simp [intOf]; omega
        · rcases Nat.lt_or_gt_of_ne hxy with h | h
          · have fin : cmpW xs ys = -1 := by
              rw [cmpW_len_eq (by rw [Hx.out.len, Hy.out.len]), ordI_lt]
              have := val_lt_of_top Hx.out.wd h0 (by rw [Hx.out.len]; exact hk) (by rw [Hy.out.len]; exact hk) Hdr.out (by rw [← Hxx.out, ← Hyy.out]; exact h)
              omega
            have Hfin := Lib.hid fin
            clear fin
            have h' : (x : Int) < y := by omega
            go_wp2
            go_quiet (fail)
            go_wp2
            go_ret
            exact ⟨by rw [Hfin.out]; rfl, _, dd2 _ _ _⟩
          · have fin : cmpW xs ys = 1 := by
              rw [cmpW_len_eq (by rw [Hx.out.len, Hy.out.len]), ordI_gt]
              have := val_lt_of_top Hy.out.wd h0 (by rw [Hy.out.len]; exact hk) (by rw [Hx.out.len]; exact hk) Hdr.out.symm (by rw [← Hxx.out, ← Hyy.out]; exact h)
              omega
            have Hfin := Lib.hid fin
            clear fin
            have h' : (y : Int) < x := by omega
            have h'' : ¬ (x : Int) < y := by omega
            go_wp2
            go_quiet (fail)
            go_wp2
            go_quiet (fail)
            go_wp2
            go_ret
            exact ⟨by rw [Hfin.out]; rfl, _, dd3 _ _ _ _⟩
      · have hk0 : k = 0 := by omega
        subst hk0
        have fin : cmpW xs ys = 0 := by
          rw [cmpW_eq_zero Hx.out.wd Hy.out.wd]
          have := Hdr.out
          simpa using this
        have Hfin := Lib.hid fin
        clear fin
        go_wp2
        go_ret
        exact ⟨by rw [Hfin.out]; rfl, _, rfl⟩
  · have hne : ((n : Int) != m) = true := by rw [bne_iff_ne]; omega
    rcases Nat.lt_or_gt_of_ne hnm with h | h
    · have fin : cmpW xs ys = -1 := by rw [cmpW_len_lt (by rw [Hx.out.len, Hy.out.len]; exact hnm), Hx.out.len, Hy.out.len, ordI_lt (by omega)]
      have Hfin := Lib.hid fin
      clear fin
      have h' : (n : Int) < m := by omega
      go_enter Try.func58, Try.ntmps58
      go_wp2
      go_ret
      exact ⟨by rw [Hfin.out]; rfl, 0, rfl⟩
    · have fin : cmpW xs ys = 1 := by rw [cmpW_len_lt (by rw [Hx.out.len, Hy.out.len]; exact hnm), Hx.out.len, Hy.out.len, ordI_gt (by omega)]
      have Hfin := Lib.hid fin
      clear fin
      have h' : ¬ (n : Int) < m := by omega
      go_enter Try.func58, Try.ntmps58
      go_wp2
      go_ret
      exact ⟨by rw [Hfin.out]; rfl, 0, rfl⟩

end Go.Proofs.Ytdmijpechdaniaa
