/- Valid, Int64 and Bits of both packages. -/
import Derived.Test.YtdmijpechdaniaaRPow
namespace Go.Proofs.Ytdmijpechdaniaa
open Go.RowKit
attribute [local go_sem ↓] Go.wp_at_zero Go.wp_at_succ

/-- in normal form -/
def validB (na : Bool) (xs : List Nat) : Bool := decide ((trim xs).length = xs.length) && (!na || decide (0 < xs.length))
theorem ext2e {W w : World} {p1 p2 : Addr} {v1 v2 : Value} (h : w.cell? p1 = some v1 ∧ w.cell? p2 = some v2 ∧ Ext W w) : Ext W w := h.2.2
theorem trim_top {xs : List Nat} (hw : Wd xs) (h : 0 < xs.length) : (trim xs).length = xs.length ↔ xs.getD (xs.length - 1) 0 ≠ 0 := by
  constructor
  · intro h1 h2
    have h3 := trim_step_zero (xs := xs) (k := xs.length) (Nat.le_refl _) h h2
    rw [List.take_length] at h3
    have h4 := trim_length (xs := xs.take (xs.length - 1)) (hw.take _)
    rw [h3, h1, List.length_take] at h4
    omega
  · intro h1
    have h2 := trim_step_done hw (k := xs.length) (Nat.le_refl _) (.inr h1)
    rw [List.take_length] at h2
    rw [h2]

set_option maxHeartbeats 800000 in
theorem i_Valid_emp (A : Option Addr) (c : Nat) (na : Bool) (xs : List Nat) (w : World) (n : Nat) (hn : n = 0) (hx : Wrd w A n c xs) :
    Calls Try.prog 36 #[.agg #[.bool na, .slice A n c]] w (RetB (!na) w) := by
  obtain ⟨W, hW⟩ : ∃ W, W = w.alloc (.cells #[.bool na, .slice A n c] 24) := ⟨_, rfl⟩
  obtain ⟨⟨ca0, ca1⟩, ⟨fa0, fa1⟩, hbW⟩ := box1 w _ _ _ W hW
  subst hn; clear hx
  subst hW
  cases na
  all_goals (
    go_enter Try.func36, Try.ntmps36
    go_wp2_with fail
    go_ret
    exact ⟨rfl, hbW⟩)

set_option maxHeartbeats 800000 in
theorem i_Valid_top (A : Option Addr) (c : Nat) (na : Bool) (xs : List Nat) (w : World) (n x : Nat) (hn : 0 < n) (hx0 : xs.getD (n - 1) 0 = x) (hx1 : x ≠ 0) (hx : Wrd w A n c xs) :
    Calls Try.prog 36 #[.agg #[.bool na, .slice A n c]] w (RetB true w) := by
  obtain ⟨W, hW⟩ : ∃ W, W = w.alloc (.cells #[.bool na, .slice A n c] 24) := ⟨_, rfl⟩
  obtain ⟨⟨ca0, ca1⟩, ⟨fa0, fa1⟩, hbW⟩ := box1 w _ _ _ W hW
  have hlim : n ≤ 9223372036854775807 := Nat.le_trans hx.cap hx.lim; have hlx := hx.ext hbW; obtain ⟨b1, o1, rfl, -, hc1⟩ := hlx.at (by omega); have hc1 := hc1 (n - 1) (by omega); rw [hx0] at hc1; have g1 : (0 : Int) ≤ (n : Int) - 1 := (by omega); have g2 : (n : Int) - 1 < n := (by omega); have t0 : ((n : Int) == 0) = false := (by simp; omega); have t1 : (0 : Int) < n := (by omega); have hlt := hx.wd.getD (n - 1); rw [hx0] at hlt; clear hx hlx hx0; have t2 : ((x : Int) != 0) = true := (by simp; omega)
  subst hW
  cases na
  all_goals (
    go_enter Try.func36, Try.ntmps36
    go_wp2_with fail
    go_ret
    exact ⟨rfl, hbW⟩)

set_option maxHeartbeats 800000 in
theorem i_Valid_low (A : Option Addr) (c : Nat) (na : Bool) (xs : List Nat) (w : World) (n x : Nat) (hn : 0 < n) (hx0 : xs.getD (n - 1) 0 = x) (hx1 : x = 0) (hx : Wrd w A n c xs) :
    Calls Try.prog 36 #[.agg #[.bool na, .slice A n c]] w (RetB false w) := by
  obtain ⟨W, hW⟩ : ∃ W, W = w.alloc (.cells #[.bool na, .slice A n c] 24) := ⟨_, rfl⟩
  obtain ⟨⟨ca0, ca1⟩, ⟨fa0, fa1⟩, hbW⟩ := box1 w _ _ _ W hW
  have hlim : n ≤ 9223372036854775807 := Nat.le_trans hx.cap hx.lim; have hlx := hx.ext hbW; obtain ⟨b1, o1, rfl, -, hc1⟩ := hlx.at (by omega); have hc1 := hc1 (n - 1) (by omega); rw [hx0] at hc1; have g1 : (0 : Int) ≤ (n : Int) - 1 := (by omega); have g2 : (n : Int) - 1 < n := (by omega); have t0 : ((n : Int) == 0) = false := (by simp; omega); have t1 : (0 : Int) < n := (by omega); have hlt := hx.wd.getD (n - 1); rw [hx0] at hlt; clear hx hlx hx0; subst hx1
  subst hW
  cases na
  all_goals (
    go_enter Try.func36, Try.ntmps36
    go_wp2_with fail
    go_ret
    exact ⟨rfl, hbW⟩)


theorem i_Valid (va : Value) (na : Bool) (xs : List Nat) (w : World) (ha : IntR w va na xs) : Calls Try.prog 36 #[va] w (RetB (validB na xs) w) := by
  obtain ⟨A, n, c, rfl, hx⟩ := ha
  have hl := hx.len
  by_cases h0 : n = 0
  · have e : validB na xs = !na := by
      have hxs : xs = [] := List.eq_nil_of_length_eq_zero (by omega)
      subst hxs
      unfold validB trim
      rw [val_nil, digs_zero]
      simp
    rw [e]
    exact i_Valid_emp A c na xs w n h0 hx
  · have ht := trim_top hx.wd (by omega)
    have hp : decide (0 < xs.length) = true := decide_eq_true (by omega)
    by_cases h1 : xs.getD (n - 1) 0 = 0
    · have e : validB na xs = false := by
        unfold validB
        rw [hl] at ht ⊢
        rw [decide_eq_false (fun h => ht.1 h h1)]
        rfl
      rw [e]
      exact i_Valid_low A c na xs w n _ (by omega) rfl h1 hx
    · have e : validB na xs = true := by
        unfold validB
        rw [hp]
        rw [hl] at ht ⊢
        rw [decide_eq_true (ht.2 h1)]
        simp
      rw [e]
      exact i_Valid_top A c na xs w n _ (by omega) rfl h1 hx

set_option maxHeartbeats 800000 in
theorem r1_Valid_ne (A : Option Addr) (n c : Nat) (na : Bool) (xs : List Nat) (w : World) (hm : (trim xs).length ≠ n) (hx : Wrd w A n c xs) :
    Calls Try.prog 26 #[.agg #[.bool na, .slice A n c]] w (RetB false w) := by
  obtain ⟨W, hW⟩ : ∃ W, W = w.alloc (.cells #[.bool na, .slice A n c] 24) := ⟨_, rfl⟩
  obtain ⟨⟨ca0, ca1⟩, ⟨fa0, fa1⟩, hbW⟩ := box1 w _ _ _ W hW
  have hH := keep2 ⟨ca0, ca1, hbW⟩ (Below.drew (Below.refl _ _))
  have Hx := Lib.hid hx
  obtain ⟨m, hmm⟩ : ∃ m, m = (trim xs).length := ⟨_, rfl⟩
  rw [← hmm] at hm
  have Hmm := Lib.hid hmm
  have t0 : ((m : Int) == n) = false := by simp; omega
  skip
  have t2 : ¬ m = n := hm; have t3 : (m == n) = false := (by simp; omega)
  clear hx hmm
  go_enter Try.func26, Try.ntmps26
  go_wp2_with fail
  rw [← hW]
  clear hW
  have Hq : ∀ q, Calls Try.prog 65 #[.slice A n c] (W.drewN q) fun e w' => e = .returned (.slice A m c) ∧ W.drewN q = w' := fun q => by
    have h := r1_trim A n c xs _ ((Hx.out.ext hbW).drewN q)
    rw [← Hmm.out] at h
    exact h
  have HQ := Lib.hid Hq
  clear Hq
  go_quiet ((go_at_call 65; exact quiet_any (HQ.out _)))
  go_wp2_with fail
  go_ret
  exact ⟨rfl, hbW.trans (ext_drewN _ _)⟩

set_option maxHeartbeats 800000 in
theorem r1_Valid_pos (A : Option Addr) (n c : Nat) (na : Bool) (xs : List Nat) (w : World) (hm : (trim xs).length = n) (hna : na = false) (hx : Wrd w A n c xs) :
    Calls Try.prog 26 #[.agg #[.bool na, .slice A n c]] w (RetB true w) := by
  obtain ⟨W, hW⟩ : ∃ W, W = w.alloc (.cells #[.bool na, .slice A n c] 24) := ⟨_, rfl⟩
  obtain ⟨⟨ca0, ca1⟩, ⟨fa0, fa1⟩, hbW⟩ := box1 w _ _ _ W hW
  have hH := keep2 ⟨ca0, ca1, hbW⟩ (Below.drew (Below.refl _ _))
  have Hx := Lib.hid hx
  obtain ⟨m, hmm⟩ : ∃ m, m = (trim xs).length := ⟨_, rfl⟩
  rw [← hmm] at hm
  have Hmm := Lib.hid hmm
  have t0 : ((m : Int) == n) = true := by simp; omega
  subst hna
  (have hm' := hm.symm; subst hm')
  clear hx hmm
  go_enter Try.func26, Try.ntmps26
  go_wp2_with fail
  rw [← hW]
  clear hW
  have Hq : ∀ q, Calls Try.prog 65 #[.slice A n c] (W.drewN q) fun e w' => e = .returned (.slice A n c) ∧ W.drewN q = w' := fun q => by
    have h := r1_trim A n c xs _ ((Hx.out.ext hbW).drewN q)
    rw [← Hmm.out] at h
    exact h
  have HQ := Lib.hid Hq
  clear Hq
  go_quiet ((go_at_call 65; exact quiet_any (HQ.out _)))
  go_wp2_with fail
  go_ret
  exact ⟨rfl, hbW.trans (ext_drewN _ _)⟩

set_option maxHeartbeats 800000 in
theorem r1_Valid_neg (A : Option Addr) (n c : Nat) (na : Bool) (xs : List Nat) (w : World) (hm : (trim xs).length = n) (hna : na = true) (h0 : 0 < n) (hx : Wrd w A n c xs) :
    Calls Try.prog 26 #[.agg #[.bool na, .slice A n c]] w (RetB true w) := by
  obtain ⟨W, hW⟩ : ∃ W, W = w.alloc (.cells #[.bool na, .slice A n c] 24) := ⟨_, rfl⟩
  obtain ⟨⟨ca0, ca1⟩, ⟨fa0, fa1⟩, hbW⟩ := box1 w _ _ _ W hW
  have hH := keep2 ⟨ca0, ca1, hbW⟩ (Below.drew (Below.refl _ _))
  have Hx := Lib.hid hx
  obtain ⟨m, hmm⟩ : ∃ m, m = (trim xs).length := ⟨_, rfl⟩
  rw [← hmm] at hm
  have Hmm := Lib.hid hmm
  have t0 : ((m : Int) == n) = true := by simp; omega
  subst hna; have t1 : (0 : Int) < n := (by omega)
  (have hm' := hm.symm; subst hm')
  clear hx hmm
  go_enter Try.func26, Try.ntmps26
  go_wp2_with fail
  rw [← hW]
  clear hW
  have Hq : ∀ q, Calls Try.prog 65 #[.slice A n c] (W.drewN q) fun e w' => e = .returned (.slice A n c) ∧ W.drewN q = w' := fun q => by
    have h := r1_trim A n c xs _ ((Hx.out.ext hbW).drewN q)
    rw [← Hmm.out] at h
    exact h
  have HQ := Lib.hid Hq
  clear Hq
  go_quiet ((go_at_call 65; exact quiet_any (HQ.out _)))
  go_wp2_with fail
  go_ret
  exact ⟨rfl, hbW.trans (ext_drewN _ _)⟩

set_option maxHeartbeats 800000 in
theorem r1_Valid_nul (A : Option Addr) (n c : Nat) (na : Bool) (xs : List Nat) (w : World) (hm : (trim xs).length = n) (hna : na = true) (h0 : ¬ 0 < n) (hx : Wrd w A n c xs) :
    Calls Try.prog 26 #[.agg #[.bool na, .slice A n c]] w (RetB false w) := by
  obtain ⟨W, hW⟩ : ∃ W, W = w.alloc (.cells #[.bool na, .slice A n c] 24) := ⟨_, rfl⟩
  obtain ⟨⟨ca0, ca1⟩, ⟨fa0, fa1⟩, hbW⟩ := box1 w _ _ _ W hW
  have hH := keep2 ⟨ca0, ca1, hbW⟩ (Below.drew (Below.refl _ _))
  have Hx := Lib.hid hx
  obtain ⟨m, hmm⟩ : ∃ m, m = (trim xs).length := ⟨_, rfl⟩
  rw [← hmm] at hm
  have Hmm := Lib.hid hmm
  have t0 : ((m : Int) == n) = true := by simp; omega
  subst hna; have t1 : ¬ (0 : Int) < n := (by omega)
  (have hm' := hm.symm; subst hm')
  clear hx hmm
  go_enter Try.func26, Try.ntmps26
  go_wp2_with fail
  rw [← hW]
  clear hW
  have Hq : ∀ q, Calls Try.prog 65 #[.slice A n c] (W.drewN q) fun e w' => e = .returned (.slice A n c) ∧ W.drewN q = w' := fun q => by
    have h := r1_trim A n c xs _ ((Hx.out.ext hbW).drewN q)
    rw [← Hmm.out] at h
    exact h
  have HQ := Lib.hid Hq
  clear Hq
  go_quiet ((go_at_call 65; exact quiet_any (HQ.out _)))
  go_wp2_with fail
  go_ret
  exact ⟨rfl, hbW.trans (ext_drewN _ _)⟩

theorem r1_Valid (va : Value) (na : Bool) (xs : List Nat) (w : World) (ha : IntR w va na xs) : Calls Try.prog 26 #[va] w (RetB (validB na xs) w) := by
  obtain ⟨A, n, c, rfl, hx⟩ := ha
  have hl := hx.len
  unfold validB
  rw [hl]
  by_cases h1 : (trim xs).length = n
  · rw [decide_eq_true h1]
    cases na
    · exact r1_Valid_pos A n c false xs w h1 rfl hx
    · by_cases h0 : 0 < n
      · rw [decide_eq_true h0]; exact r1_Valid_neg A n c true xs w h1 rfl h0 hx
      · rw [decide_eq_false h0]; exact r1_Valid_nul A n c true xs w h1 rfl h0 hx
  · rw [decide_eq_false h1, Bool.false_and]
    exact r1_Valid_ne A n c na xs w h1 hx

end Go.Proofs.Ytdmijpechdaniaa
