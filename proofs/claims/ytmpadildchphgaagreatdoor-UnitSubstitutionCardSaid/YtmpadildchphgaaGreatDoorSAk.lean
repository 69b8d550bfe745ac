/- Pow of the reference. Valid, Int64 and Bits of both packages. Int64 of both packages. Bits of the reference. -/
import Derived.Test.YtmpadildchphgaaGreatDoorSAj
namespace Go.Proofs.YtmpadildchphgaaGreatDoor
open Go.RowKit
theorem r1_MulV {va vb : Value} {a b : Int} {w : World} (ha : IntV w va a) (hb : IntV w vb b) (h1 : (digs a.natAbs).length ≤ 2147483648) (h2 : (digs b.natAbs).length ≤ 2147483648) :
    Calls Tryz.prog 78 #[va, vb] w (RetInt (a * b) w) := by
  have := r1_Mul va vb _ _ _ _ w ha hb h1 h2
  rwa [toZ_int, toZ_int] at this
theorem intV_open {w : World} {v : Value} {z : Int} {b : Bool} (h : IntV w v z) (hb : decide (z < 0) = b) : ∃ A n c, v = .agg #[.bool b, .slice A n c] ∧ Wrd w A n c (digs z.natAbs) := by
  obtain ⟨A, n, c, h1, h2⟩ := h
  exact ⟨A, n, c, by rw [h1, hb], h2⟩
theorem intV_of {w : World} {A : Option Addr} {n c : Nat} {z : Int} {b : Bool} (hb : decide (z < 0) = b) (h : Wrd w A n c (digs z.natAbs)) : IntV w (.agg #[.bool b, .slice A n c]) z := ⟨A, n, c, by rw [hb], h⟩
theorem new_box (w : World) (a0 a1 : Value) (t : TypeId) : ((w.alloc (.cells #[a0, a1] t)).cell? ⟨w.heap.size, 0, none⟩ = some a0 ∧ (w.alloc (.cells #[a0, a1] t)).cell? ⟨w.heap.size, 1, none⟩ = some a1) ∧ ((w.alloc (.cells #[a0, a1] t)).frozen? ⟨w.heap.size, 0, none⟩ = false ∧ (w.alloc (.cells #[a0, a1] t)).frozen? ⟨w.heap.size, 1, none⟩ = false) := by
  simp [go_sem]
end Go.Proofs.YtmpadildchphgaaGreatDoor
namespace Go.Proofs.YtmpadildchphgaaGreatDoor
open Go.RowKit
attribute [local go_sem ↓] Go.wp_at_zero Go.wp_at_succ
def validB (na : Bool) (xs : List Nat) : Bool := decide ((trim xs).length = xs.length) && (!na || decide (0 < xs.length))
set_option maxHeartbeats 800000 in
theorem r1_Valid_ne (A : Option Addr) (n c : Nat) (na : Bool) (xs : List Nat) (w : World) (hm : (trim xs).length ≠ n) (hx : Wrd w A n c xs) :
    Calls Tryz.prog 97 #[.agg #[.bool na, .slice A n c]] w (RetB false w) := by
  obtain ⟨W, hW⟩ : ∃ W, W = w.alloc (.cells #[.bool na, .slice A n c] 24) := ⟨_, rfl⟩
  obtain ⟨⟨ca0, ca1⟩, ⟨fa0, fa1⟩, hbW⟩ := box1 w _ _ _ W hW
  have hH := keep2 ⟨ca0, ca1, hbW⟩ (Below.drew (Below.refl _ _))
  have Hx := Lib.hid hx
  obtain ⟨m, hmm⟩ : ∃ m, m = (trim xs).length := ⟨_, rfl⟩
  rw [← hmm] at hm
  have Hmm := Lib.hid hmm
  have t0 : ((m : Int) == n) = false := by simp; omega
  skip
  have t2 : ¬ m = n := hm; have t3 : (m == n) = false := (by simp; omega)
  clear hx hmm
  go_enter Tryz.func97, Tryz.ntmps97
  go_wp2_with fail
  rw [← hW]
  clear hW
  have Hq : ∀ q, Calls Tryz.prog 110 #[.slice A n c] (W.drewN q) fun e w' => e = .returned (.slice A m c) ∧ W.drewN q = w' := fun q => by
    have h := r1_trim A n c xs _ ((Hx.out.ext hbW).drewN q)
    rw [← Hmm.out] at h
    exact h
  have HQ := Lib.hid Hq
  clear Hq
  go_quiet ((go_at_call 110; exact quiet_any (HQ.out _)))
  go_wp2_with fail
  go_ret
  exact ⟨rfl, hbW.trans (ext_drewN _ _)⟩
set_option maxHeartbeats 800000 in
theorem r1_Valid_pos (A : Option Addr) (n c : Nat) (na : Bool) (xs : List Nat) (w : World) (hm : (trim xs).length = n) (hna : na = false) (hx : Wrd w A n c xs) :
    Calls Tryz.prog 97 #[.agg #[.bool na, .slice A n c]] w (RetB true w) := by
  obtain ⟨W, hW⟩ : ∃ W, W = w.alloc (.cells #[.bool na, .slice A n c] 24) := ⟨_, rfl⟩
  obtain ⟨⟨ca0, ca1⟩, ⟨fa0, fa1⟩, hbW⟩ := box1 w _ _ _ W hW
  have hH := keep2 ⟨ca0, ca1, hbW⟩ (Below.drew (Below.refl _ _))
  have Hx := Lib.hid hx
  obtain ⟨m, hmm⟩ : ∃ m, m = (trim xs).length := ⟨_, rfl⟩
  rw [← hmm] at hm
  have Hmm := Lib.hid hmm
  have t0 : ((m : Int) == n) = true := by simp; omega
  subst hna
  (have hm' := hm.symm; subst hm')
  clear hx hmm
  go_enter Tryz.func97, Tryz.ntmps97
  go_wp2_with fail
  rw [← hW]
  clear hW
  have Hq : ∀ q, Calls Tryz.prog 110 #[.slice A n c] (W.drewN q) fun e w' => e = .returned (.slice A n c) ∧ W.drewN q = w' := fun q => by
    have h := r1_trim A n c xs _ ((Hx.out.ext hbW).drewN q)
    rw [← Hmm.out] at h
    exact h
  have HQ := Lib.hid Hq
  clear Hq
  go_quiet ((go_at_call 110; exact quiet_any (HQ.out _)))
  go_wp2_with fail
  go_ret
  exact ⟨rfl, hbW.trans (ext_drewN _ _)⟩
set_option maxHeartbeats 800000 in
theorem r1_Valid_neg (A : Option Addr) (n c : Nat) (na : Bool) (xs : List Nat) (w : World) (hm : (trim xs).length = n) (hna : na = true) (h0 : 0 < n) (hx : Wrd w A n c xs) :
    Calls Tryz.prog 97 #[.agg #[.bool na, .slice A n c]] w (RetB true w) := by
  obtain ⟨W, hW⟩ : ∃ W, W = w.alloc (.cells #[.bool na, .slice A n c] 24) := ⟨_, rfl⟩
  obtain ⟨⟨ca0, ca1⟩, ⟨fa0, fa1⟩, hbW⟩ := box1 w _ _ _ W hW
  have hH := keep2 ⟨ca0, ca1, hbW⟩ (Below.drew (Below.refl _ _))
  have Hx := Lib.hid hx
  obtain ⟨m, hmm⟩ : ∃ m, m = (trim xs).length := ⟨_, rfl⟩
  rw [← hmm] at hm
  have Hmm := Lib.hid hmm
  have t0 : ((m : Int) == n) = true := by simp; omega
  subst hna; have t1 : (0 : Int) < n := (by omega)
  (have hm' := hm.symm; subst hm')
  clear hx hmm
  go_enter Tryz.func97, Tryz.ntmps97
  go_wp2_with fail
  rw [← hW]
  clear hW
  have Hq : ∀ q, Calls Tryz.prog 110 #[.slice A n c] (W.drewN q) fun e w' => e = .returned (.slice A n c) ∧ W.drewN q = w' := fun q => by
    have h := r1_trim A n c xs _ ((Hx.out.ext hbW).drewN q)
    rw [← Hmm.out] at h
    exact h
  have HQ := Lib.hid Hq
  clear Hq
  go_quiet ((go_at_call 110; exact quiet_any (HQ.out _)))
  go_wp2_with fail
  go_ret
  exact ⟨rfl, hbW.trans (ext_drewN _ _)⟩
set_option maxHeartbeats 800000 in
theorem r1_Valid_nul (A : Option Addr) (n c : Nat) (na : Bool) (xs : List Nat) (w : World) (hm : (trim xs).length = n) (hna : na = true) (h0 : ¬ 0 < n) (hx : Wrd w A n c xs) :
    Calls Tryz.prog 97 #[.agg #[.bool na, .slice A n c]] w (RetB false w) := by
  obtain ⟨W, hW⟩ : ∃ W, W = w.alloc (.cells #[.bool na, .slice A n c] 24) := ⟨_, rfl⟩
  obtain ⟨⟨ca0, ca1⟩, ⟨fa0, fa1⟩, hbW⟩ := box1 w _ _ _ W hW
  have hH := keep2 ⟨ca0, ca1, hbW⟩ (Below.drew (Below.refl _ _))
  have Hx := Lib.hid hx
  obtain ⟨m, hmm⟩ : ∃ m, m = (trim xs).length := ⟨_, rfl⟩
  rw [← hmm] at hm
  have Hmm := Lib.hid hmm
  have t0 : ((m : Int) == n) = true := by simp; omega
  subst hna; have t1 : ¬ (0 : Int) < n := (by omega)
  (have hm' := hm.symm; subst hm')
  clear hx hmm
  go_enter Tryz.func97, Tryz.ntmps97
  go_wp2_with fail
  rw [← hW]
  clear hW
  have Hq : ∀ q, Calls Tryz.prog 110 #[.slice A n c] (W.drewN q) fun e w' => e = .returned (.slice A n c) ∧ W.drewN q = w' := fun q => by
    have h := r1_trim A n c xs _ ((Hx.out.ext hbW).drewN q)
    rw [← Hmm.out] at h
    exact h
  have HQ := Lib.hid Hq
  clear Hq
  go_quiet ((go_at_call 110; exact quiet_any (HQ.out _)))
  go_wp2_with fail
  go_ret
  exact ⟨rfl, hbW.trans (ext_drewN _ _)⟩
theorem r1_Valid (va : Value) (na : Bool) (xs : List Nat) (w : World) (ha : IntR w va na xs) : Calls Tryz.prog 97 #[va] w (RetB (validB na xs) w) := by
  obtain ⟨A, n, c, rfl, hx⟩ := ha
  have hl := hx.len
  unfold validB
  rw [hl]
  by_cases h1 : (trim xs).length = n
  · rw [decide_eq_true h1]
    cases na
    · exact r1_Valid_pos A n c false xs w h1 rfl hx
    · by_cases h0 : 0 < n
      · rw [decide_eq_true h0]; exact r1_Valid_neg A n c true xs w h1 rfl h0 hx
      · rw [decide_eq_false h0]; exact r1_Valid_nul A n c true xs w h1 rfl h0 hx
  · rw [decide_eq_false h1, Bool.false_and]
    exact r1_Valid_ne A n c na xs w h1 hx
end Go.Proofs.YtmpadildchphgaaGreatDoor
namespace Go.Proofs.YtmpadildchphgaaGreatDoor
open Go.RowKit
attribute [local go_sem ↓] Go.wp_at_zero Go.wp_at_succ
end Go.Proofs.YtmpadildchphgaaGreatDoor
namespace Go.Proofs.YtmpadildchphgaaGreatDoor
open Go.RowKit
theorem bitLen_half {y : Nat} (h : 0 < y) : bitLen y = bitLen (y / 2) + 1 := by
  by_cases h1 : y / 2 = 0
  · have : y = 1 := by omega
    subst this; decide
  · have := bitLen_shift y 1 h1
    simp only [Nat.pow_one] at this
    omega
set_option maxHeartbeats 800000 in
theorem r1_length (A : Option Addr) (n c v : Nat) (w : World) (hx : Wrd w A n c (digs v)) (hs : n ≤ 4294967296) :
    Calls Tryz.prog 133 #[.slice A n c] w fun e w' => e = .returned (.int .i64 (bitLen v : Int)) ∧ w = w' := by
  by_cases h0 : n = 0
  · have hv : v = 0 := by
      have := hx.len
      rw [h0] at this
      exact digs_eq_nil.1 (List.eq_nil_of_length_eq_zero this)
    have hb : bitLen v = 0 := by rw [hv]; rfl
    rw [hb]
    subst h0
    clear hx hv hb
    go_enter Tryz.func133, Tryz.ntmps133
    go_wp2
    go_ret
    exact ⟨rfl, rfl⟩
  · have h0' : ((n : Int) == 0) = false := by simp; omega
    obtain ⟨b1, o1, rfl, _, hc1⟩ := hx.at (by omega)
    have hc2 := hc1 (n - 1) (by omega)
    clear hc1
    have hx1 := hx.wd.getD (n - 1)
    obtain ⟨k, hk⟩ : ∃ k, n = k + 1 := ⟨n - 1, by omega⟩
    have hb := bits_top hx.wd (Nz_digs _) k (by rw [hx.len, hk])
    rw [val_digs] at hb
    rw [show n - 1 = k by omega] at hc2 hx1
    generalize (digs v).getD k 0 = x at hc2 hx1 hb
    have hb32 := bitLen_le32 x hx1
    have Hb := Lib.hid hb.2
    have Hk := Lib.hid hk
    have g1 : (0 : Int) ≤ (n : Int) - 1 := by omega
    have g2 : (n : Int) - 1 < n := by omega
    have hc3 : w.cell? ⟨b1, o1 + (n - 1), none⟩ = some (W32 x) := by rw [show n - 1 = k by omega]; exact hc2
    clear hx hb hk hc2
    go_enter Tryz.func133, Tryz.ntmps133
    go_wp2
    go_loop [3, 4] (fun a i => ∃ (j y : Nat), a = .int .i64 j ∧ i = .int .u32 y ∧ j + bitLen y = bitLen x ∧ y < 4294967296) (fun _ i => (intOf i).toNat)
    case atStart => exact ⟨0, x, rfl, rfl, by omega, hx1⟩
    case round =>
      obtain ⟨j, y, rfl, rfl, hjy, hy⟩ := hrel
      have hj32 : j ≤ 32 := by omega
      by_cases hy0 : 0 < y
      · have hh := bitLen_half hy0
        have t0 : (0 : Int) < y := by omega
        have Hjy := Lib.hid hjy
        have Hh := Lib.hid hh
        clear hjy hh
        go_wp2
        go_round
        case rel => exact ⟨j + 1, y / 2, by go_num, by go_num, by have := Hjy.out; have := Hh.out; omega, by omega⟩
        case measure => simp [intOf]; omega
      · have hy1 : y = 0 := by omega
        subst hy1
        have hj : j = bitLen x := by rw [show bitLen 0 = 0 from rfl] at hjy; omega
        have Hj := Lib.hid hj
        clear hjy hj
        go_wp2
        go_ret
        refine ⟨ret_i ?_, rfl⟩
        have h1 := Hj.out
        have h2 := Hb.out
        have h3 := Hk.out
        first | omega | (rw [IntWalk.i64_in _ (by omega)]; omega) | (rw [wrap64_fit (by omega)]; omega)
end Go.Proofs.YtmpadildchphgaaGreatDoor
