/- Integers as values in memory; signed of both packages. -/
import Derived.Test.YtdmijpechdaniaaTrim
namespace Go.Proofs.Ytdmijpechdaniaa
open Go.RowKit

/-- the integer of a sign and words -/
def toZ (neg : Bool) (xs : List Nat) : Int := if neg then -(val xs : Int) else (val xs : Int)

/-- a value that reads as the sign neg and the words xs -/
def IntR (w : World) (v : Value) (neg : Bool) (xs : List Nat) : Prop := ∃ A n c, v = .agg #[.bool neg, .slice A n c] ∧ Wrd w A n c xs
/-- a value that is the normal form of the integer z -/
def IntV (w : World) (v : Value) (z : Int) : Prop := IntR w v (decide (z < 0)) (digs z.natAbs)

theorem IntR.below {w w' : World} {v : Value} {neg : Bool} {xs : List Nat} (h : IntR w v neg xs) (hb : Below w.heap.size w w') : IntR w' v neg xs := by
  obtain ⟨A, n, c, rfl, h⟩ := h
  exact ⟨A, n, c, rfl, h.below hb⟩
theorem IntV.below {w w' : World} {v : Value} {z : Int} (h : IntV w v z) (hb : Below w.heap.size w w') : IntV w' v z := IntR.below h hb

theorem natAbs_toZ (neg : Bool) (xs : List Nat) : (toZ neg xs).natAbs = val xs := by
  unfold toZ; split <;> simp
theorem lt_toZ (neg : Bool) (xs : List Nat) : decide (toZ neg xs < 0) = (neg && decide (val xs ≠ 0)) := by
  unfold toZ
  cases neg
  · simp
  · by_cases h : val xs = 0 <;> simp [h]; omega

theorem IntV_pos {w : World} {neg : Bool} {xs : List Nat} {A : Option Addr} {n c : Nat} (h : Wrd w A n c (trim xs)) (h0 : val xs ≠ 0) : IntV w (.agg #[.bool neg, .slice A n c]) (toZ neg xs) := by
  unfold IntV
  rw [natAbs_toZ, lt_toZ]
  refine ⟨A, n, c, ?_, h⟩
  simp [h0]
theorem IntV_zero (w : World) (neg : Bool) {xs : List Nat} (h0 : val xs = 0) : IntV w (.agg #[.bool false, .slice none 0 0]) (toZ neg xs) := by
  unfold IntV
  rw [natAbs_toZ, lt_toZ, h0, digs_zero]
  exact ⟨none, 0, 0, by simp, .nil _⟩

/-- what a function that returns a normal integer in new memory gives -/
def RetInt (z : Int) (w : World) (e : Ending) (w' : World) : Prop := ∃ v, e = .returned v ∧ IntV w' v z ∧ Below w.heap.size w w'

theorem Wrd.trim {w : World} {A : Option Addr} {n c : Nat} {xs : List Nat} (h : Wrd w A n c xs) : Wrd w A (trim xs).length c (trim xs) := by
  have h1 := (trim_prefix h.wd).1
  have h2 : (Go.Proofs.Ytdmijpechdaniaa.trim xs).length ≤ n := by rw [← h.len]; exact trim_length h.wd
  have := h.take h2
  rwa [h1] at this

set_option maxHeartbeats 400000 in
theorem i_signed (neg : Bool) (A : Option Addr) (n c : Nat) (xs : List Nat) (w : World) (h : Wrd w A n c xs) :
    Calls Try.prog 48 #[.bool neg, .slice A n c] w (RetInt (toZ neg xs) w) := by
  have htr := h.trim
  have hz0 : (trim xs).length = 0 → val xs = 0 := fun e => by rw [← val_trim xs, List.eq_nil_of_length_eq_zero e]; rfl
  have hz1 : (trim xs).length ≠ 0 → val xs ≠ 0 := fun e e0 => e (by unfold trim; rw [e0, digs_zero]; rfl)
  have H := Lib.hid h
  have Htr := Lib.hid htr
  have Hz0 := Lib.hid hz0
  have Hz1 := Lib.hid hz1
  clear h htr hz0 hz1
  generalize hm : (trim xs).length = m at *
  have Hm := Lib.hid hm
  clear hm
  by_cases h0 : m = 0
  · subst h0
    go_enter Try.func48, Try.ntmps48
    go_wp2_with (go_at_call 50; refine (i_trim _ _ _ xs _ (H.out.alloc _)).mono ?_; rw [Hm.out]; rintro e w' ⟨rfl, rfl⟩)
    exact bodyPost_ret (v := .agg #[.bool false, .slice none 0 0]) (by simp [results, Try.results48, go_sem]) rfl ⟨_, rfl, IntV_zero _ _ (Hz0.out (by simp)), ((Below.refl _ _).alloc (Nat.le_refl _) _)⟩
  · have h0' : ((m : Int) == 0) = false := by simpa using h0
    go_enter Try.func48, Try.ntmps48
    go_wp2_with (go_at_call 50; refine (i_trim _ _ _ xs _ (H.out.alloc _)).mono ?_; rw [Hm.out]; rintro e w' ⟨rfl, rfl⟩)
    exact bodyPost_ret (v := .agg #[.bool neg, .slice A m c]) (by simp [results, Try.results48, go_sem]) rfl ⟨_, rfl, IntV_pos (Htr.out.alloc _) (Hz1.out h0), ((Below.refl _ _).alloc (Nat.le_refl _) _)⟩
theorem IntV_any {w : World} {neg b : Bool} {xs : List Nat} {A : Option Addr} {n c : Nat} (h : Wrd w A n c (trim xs)) (hb : b = (neg && decide (val xs ≠ 0))) : IntV w (.agg #[.bool b, .slice A n c]) (toZ neg xs) := by
  unfold IntV
  rw [natAbs_toZ, lt_toZ]
  exact ⟨A, n, c, by rw [hb], h⟩

set_option maxHeartbeats 400000 in
theorem r1_signed (neg : Bool) (A : Option Addr) (n c : Nat) (xs : List Nat) (w : World) (h : Wrd w A n c xs) :
    Calls Try.prog 51 #[.bool neg, .slice A n c] w (RetInt (toZ neg xs) w) := by
  have htr := h.trim
  have hz0 : (trim xs).length = 0 → val xs = 0 := fun e => by rw [← val_trim xs, List.eq_nil_of_length_eq_zero e]; rfl
  have hz1 : (trim xs).length ≠ 0 → val xs ≠ 0 := fun e e0 => e (by unfold trim; rw [e0, digs_zero]; rfl)
  have H := Lib.hid h
  have Htr := Lib.hid htr
  have Hz0 := Lib.hid hz0
  have Hz1 := Lib.hid hz1
  clear h htr hz0 hz1
  generalize hm : (trim xs).length = m at *
  have Hm := Lib.hid hm
  clear hm
  have fin : ∀ b : Bool, (b = (neg && decide (m ≠ 0))) → IntV (w.alloc (.cells #[.bool b, .slice A m c] 24)) (.agg #[.bool b, .slice A m c]) (toZ neg xs) := by
    intro b hb
    refine IntV_any (Htr.out.alloc _) ?_
    rw [hb]
    by_cases h0 : m = 0
    · rw [Hz0.out h0]; simp [h0]
    · have := Hz1.out h0; simp [h0, this]
  have Hfin := Lib.hid fin
  clear fin
  cases neg
  · go_enter Try.func51, Try.ntmps51
    go_wp2_with (go_at_call 65; refine (r1_trim _ _ _ xs _ (H.out.alloc _)).mono ?_; rw [Hm.out]; rintro e w' ⟨rfl, rfl⟩)
    exact bodyPost_ret (v := .agg #[.bool false, .slice A m c]) (by simp [results, Try.results51, go_sem]) rfl ⟨_, rfl, Hfin.out false (by simp), ((Below.refl _ _).alloc (Nat.le_refl _) _)⟩
  · by_cases h0 : 0 < m
    · have h0' : (0 : Int) < m := by omega
      go_enter Try.func51, Try.ntmps51
      go_wp2_with (go_at_call 65; refine (r1_trim _ _ _ xs _ (H.out.alloc _)).mono ?_; rw [Hm.out]; rintro e w' ⟨rfl, rfl⟩)
      exact bodyPost_ret (v := .agg #[.bool true, .slice A m c]) (by simp [results, Try.results51, go_sem]) rfl ⟨_, rfl, Hfin.out true (by simp; omega), ((Below.refl _ _).alloc (Nat.le_refl _) _)⟩
    · have h0' : ¬ (0 : Int) < m := by omega
      go_enter Try.func51, Try.ntmps51
      go_wp2_with (go_at_call 65; refine (r1_trim _ _ _ xs _ (H.out.alloc _)).mono ?_; rw [Hm.out]; rintro e w' ⟨rfl, rfl⟩)
      exact bodyPost_ret (v := .agg #[.bool false, .slice A m c]) (by simp [results, Try.results51, go_sem]) rfl ⟨_, rfl, Hfin.out false (by simp; omega), ((Below.refl _ _).alloc (Nat.le_refl _) _)⟩

end Go.Proofs.Ytdmijpechdaniaa
