/- IntegerSqrt answers true. -/
import Derived.Test.YtecjnnhkbmkemaaGreatDoorPLNorm
import Derived.Test.YtecjnnhkbmkemaaGreatDoorPDivAll
import Derived.Test.YtecjnnhkbmkemaaGreatDoorPAi
namespace Go.Proofs.YtecjnnhkbmkemaaGreatDoor
open Go.ChangeShapes Go.WideShapes Go.ChangeAt Go.RowKit Go.Joins
attribute [local go_sem ↓] Go.wp_at_zero Go.wp_at_succ
set_option maxHeartbeats 800000 in
theorem i_Sqrt_zero (va : Value) (na : Bool) (xs : List Nat) (w : World) (ha : IntR w va na xs) (hs : sgn na xs = 0) :
    Calls Tryz.prog 100 #[va] w (RetE 0 0 w) := by
  obtain ⟨A, n, c, rfl, hx⟩ := ha
  obtain ⟨W, hW⟩ : ∃ W, W = (w.alloc (.cells #[.bool na, .slice A n c] 24)).alloc (.cells #[.bool false, .slice none 0 0] 24) := ⟨_, rfl⟩
  obtain ⟨⟨ca0, ca1⟩, ⟨cr0, cr1, fr0, fr1⟩, hbW⟩ := one_box w _ _ _ _ _ W hW
  have hsc := i_Sign (.agg #[.bool na, .slice A n c]) na xs W (intR_mk (hx.ext hbW))
  rw [hs] at hsc
  have Hsc := Lib.hid hsc
  clear hx hsc hs
  go_enter Tryz.func100, Tryz.ntmps100
  go_wp2_with fail
  rw [← hW]
  clear hW
  go_wp2_with (go_at_call 78; (with_reducible refine Hsc.out.mono ?_); rintro e w1 ⟨rfl, hb1⟩; have hE1 : Ext W w1 := hb1; have su0 := kc cr0 hE1; have su1 := kc cr1 hE1; have sf0 := kf cr0 fr0 hE1; have sf1 := kf cr1 fr1 hE1)
  exact bodyPost_ret (v := .tuple #[.agg #[.bool false, .slice none 0 0], .int .i64 0]) (by simp [results, Tryz.results100, go_sem, su0, su1]) rfl ⟨_, rfl, intV_zero _, by first | exact hbW.trans hE1 | exact (hbW.trans hE1).set2 (by omega) _ _⟩
theorem isq_exists (n : Nat) : ∃ r, r * r ≤ n ∧ n < (r + 1) * (r + 1) := by
  induction n with
  | zero => exact ⟨0, by decide, by decide⟩
  | succ n ih =>
    obtain ⟨r, h1, h2⟩ := ih
    by_cases h : n + 1 < (r + 1) * (r + 1)
    · exact ⟨r, by omega, h⟩
    · refine ⟨r + 1, by omega, ?_⟩
      have : (r + 1) * (r + 1) < (r + 1 + 1) * (r + 1 + 1) := Nat.mul_lt_mul_of_lt_of_le (by omega) (by omega) (by omega)
      omega
theorem isq_unique {n r t : Nat} (h1 : r * r ≤ n) (h2 : n < (r + 1) * (r + 1)) (h3 : t * t ≤ n) (h4 : n < (t + 1) * (t + 1)) : r = t := by
  rcases Nat.lt_trichotomy r t with h | h | h
  · exfalso
    have : (r + 1) * (r + 1) ≤ t * t := Nat.mul_le_mul h h
    omega
  · exact h
  · exfalso
    have : (t + 1) * (t + 1) ≤ r * r := Nat.mul_le_mul h h
    omega
theorem iSqrt_pos (na : Bool) (xs : List Nat) (hs : xs.length ≤ 2147483) (h0 : 0 ≤ toZ na xs) : ∃ r : Nat, r * r ≤ val xs ∧ val xs < (r + 1) * (r + 1) ∧ toZ na xs = val xs ∧ ∀ (v : Value) (w : World), IntR w v na xs → Calls Tryz.prog 100 #[v] w (RetE r 0 w) := by
  obtain ⟨r, h1, h2⟩ := isq_exists (val xs)
  have hz : toZ na xs = val xs := by
    unfold toZ at *
    cases na
    · simp
    · simp only [if_true] at *; omega
  refine ⟨r, h1, h2, hz, fun v w h => ?_⟩
  rcases Nat.eq_zero_or_pos (val xs) with hv | hv
  · have hr : r = 0 := by
      rcases Nat.eq_zero_or_pos r with h3 | h3
      · exact h3
      · have := Nat.mul_le_mul h3 h3
        omega
    rw [hr]
    exact i_Sqrt_zero v na xs w h (by unfold sgn; rw [if_pos hv])
  · have hna : na = false := by
      cases na
      · rfl
      · unfold toZ at hz; simp only [if_true] at hz; omega
    subst hna
    refine (i_Sqrt v xs w h hs (fun b hb => divOk (by have := trim_length h.wd; unfold trim at this; omega) hb) hv).mono ?_
    rintro e w' ⟨t, h3, h4, h5⟩
    rw [isq_unique h1 h2 h3 h4]
    exact h5
theorem r1_AddV {va vb : Value} {a b z : Int} {w : World} (ha : IntV w va a) (hb : IntV w vb b) (hz : a + b = z) (h1 : (digs a.natAbs).length ≤ 2147483648) (h2 : (digs b.natAbs).length ≤ 2147483648) :
    Calls Tryz.prog 61 #[va, vb] w (RetInt z w) := by
  have := r1_Add va vb _ _ _ _ w ha hb h1 h2
  rwa [toZ_int, toZ_int, hz] at this
end Go.Proofs.YtecjnnhkbmkemaaGreatDoor
