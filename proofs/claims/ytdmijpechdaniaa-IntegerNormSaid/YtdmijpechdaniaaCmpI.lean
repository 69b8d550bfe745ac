/- Cmp of the program; Sign, Add, Sub and Cmp of the reference. -/
import Derived.Test.YtdmijpechdaniaaAdd
namespace Go.Proofs.Ytdmijpechdaniaa
open Go.RowKit
attribute [local go_sem ↓] Go.wp_at_zero Go.wp_at_succ

theorem sgn_range (na : Bool) (xs : List Nat) : sgn na xs = -1 ∨ sgn na xs = 0 ∨ sgn na xs = 1 := by unfold sgn; split <;> (try split) <;> simp
theorem cmp_ne (na nb : Bool) (xs ys : List Nat) (h : sgn na xs ≠ sgn nb ys) : ordI (sgn na xs) (sgn nb ys) = ordI (toZ na xs) (toZ nb ys) := by
  unfold sgn toZ ordI at *
  cases na <;> cases nb <;> by_cases h1 : val xs = 0 <;> by_cases h2 : val ys = 0 <;> simp_all <;> (repeat' split) <;> omega
theorem cmp_eq (na nb : Bool) (xs ys : List Nat) (s : Int) (h1 : sgn na xs = s) (h2 : sgn nb ys = s) : s * ordI (val xs) (val ys) = ordI (toZ na xs) (toZ nb ys) := by
  subst h1
  unfold sgn toZ ordI at *
  cases na <;> cases nb <;> by_cases h1 : val xs = 0 <;> by_cases h3 : val ys = 0 <;> simp_all <;> (repeat' split) <;> omega

/-- compare of two trimmed lists, its answer named -/
theorem cmp_call {o : Int} {A B : Option Addr} {n m c d : Nat} {xs ys : List Nat} (ho : ordI (val xs) (val ys) = o) (W : World) (h1 : Wrd W A n c (trim xs)) (h2 : Wrd W B m d (trim ys)) : Calls Try.prog 63 #[.slice A n c, .slice B m d] W (RetN o W) := by
  have := i_compare A B n m c d (trim xs) (trim ys) W h1 h2
  rw [cmpW_trim, ho] at this
  exact this.mono fun _ _ ⟨he, q, hq⟩ => ⟨he, hq ▸ ext_drewN _ q⟩
theorem cmp_call1 {o : Int} {A B : Option Addr} {n m c d : Nat} {xs ys : List Nat} (ho : ordI (val xs) (val ys) = o) (W : World) (h1 : Wrd W A n c (trim xs)) (h2 : Wrd W B m d (trim ys)) : Calls Try.prog 58 #[.slice A n c, .slice B m d] W (RetN o W) := by
  have := r1_compare A B n m c d (trim xs) (trim ys) W h1 h2
  rw [cmpW_trim, ho] at this
  exact this.mono fun _ _ ⟨he, q, hq⟩ => ⟨he, hq ▸ ext_drewN _ q⟩

set_option maxHeartbeats 1600000 in
theorem i_Cmp (va vb : Value) (na nb : Bool) (xs ys : List Nat) (w : World) (ha : IntR w va na xs) (hb : IntR w vb nb ys) :
    Calls Try.prog 46 #[va, vb] w (RetN (ordI (toZ na xs) (toZ nb ys)) w) := by
  obtain ⟨A, n, c, rfl, hx⟩ := ha
  obtain ⟨B, m, d, rfl, hy⟩ := hb
  obtain ⟨W, hW⟩ : ∃ W, W = (w.alloc (.cells #[.bool na, .slice A n c] 24)).alloc (.cells #[.bool nb, .slice B m d] 24) := ⟨_, rfl⟩
  obtain ⟨⟨ca0, ca1, cb0, cb1⟩, hbW⟩ := two_args w _ _ _ _ _ W hW
  have hH := keep4 ⟨ca0, ca1, cb0, cb1, hbW⟩ (Below.drew (Below.refl _ _))
  have hne := cmp_ne na nb xs ys
  have heq := cmp_eq na nb xs ys
  have hr1 := sgn_range na xs
  have hs1 := fun W' h => i_Sign (.agg #[.bool na, .slice A n c]) na xs W' h
  have hs2 := fun W' h => i_Sign (.agg #[.bool nb, .slice B m d]) nb ys W' h
  obtain ⟨s, hs⟩ : ∃ s, s = sgn na xs := ⟨_, rfl⟩
  obtain ⟨t, ht⟩ : ∃ t, t = sgn nb ys := ⟨_, rfl⟩
  obtain ⟨z, hz⟩ : ∃ z, z = ordI (toZ na xs) (toZ nb ys) := ⟨_, rfl⟩
  rw [← hz]
  rw [← hs] at hs1
  rw [← ht] at hs2
  rw [← hs, ← ht, ← hz] at hne
  rw [← hs] at hr1
  have Hx := Lib.hid hx
  have Hy := Lib.hid hy
  have Hs1 := Lib.hid hs1
  have Hs2 := Lib.hid hs2
  have Hne := Lib.hid hne
  by_cases hst : s = t
  · subst hst
    have hz' := heq s hs.symm ht.symm
    obtain ⟨o, ho⟩ : ∃ o, ordI (val xs) (val ys) = o := ⟨_, rfl⟩
    rw [ho, ← hz] at hz'
    have Hcmp := Lib.hid (cmp_call (A := A) (B := B) (n := (trim xs).length) (m := (trim ys).length) (c := c) (d := d) ho)
    have hob := ordI_range (val xs) (val ys)
    rw [ho] at hob
    clear hx hy hs1 hs2 hne heq hs ht hz ho
    rcases hr1 with rfl | rfl | rfl
    all_goals (
      have hzz : z = _ := hz'.symm
      clear hz'
      have Hzz := Lib.hid hzz
      clear hzz
      go_enter Try.func46, Try.ntmps46
      go_wp2_with fail
      rw [← hW]
      clear hW
      go_region_held3 (fun w' => w'.cell? ⟨w.heap.size, 0, none⟩ = some (.bool na) ∧ w'.cell? ⟨w.heap.size, 1, none⟩ = some (.slice A n c) ∧ w'.cell? ⟨w.heap.size + 1, 0, none⟩ = some (.bool nb) ∧ w'.cell? ⟨w.heap.size + 1, 1, none⟩ = some (.slice B m d) ∧ Ext w w')
        (with_reducible first | exact hH | assumption | exact keep4 (by assumption) (by assumption))
        (first
          | ((go_at_call 37; (with_reducible refine (Hs1.out _ (intR_ext Hx.out (ext4e (by assumption)))).mono ?_); rintro e w1 ⟨rfl, hb1⟩; have hH1 := keep4 hH hb1))
          | ((go_at_call 37; (with_reducible refine (Hs2.out _ (intR_ext Hy.out (ext4e hH1))).mono ?_); rintro e w2 ⟨rfl, hb2⟩; have hH2 := keep4 hH1 hb2)))
      have hH3 := keep4 hH2 (Below.drew (Below.refl _ _))
      clear hH1
      go_wp2_with fail
      go_region_held3 (fun w' => w'.cell? ⟨w.heap.size, 0, none⟩ = some (.bool na) ∧ w'.cell? ⟨w.heap.size, 1, none⟩ = some (.slice A n c) ∧ w'.cell? ⟨w.heap.size + 1, 0, none⟩ = some (.bool nb) ∧ w'.cell? ⟨w.heap.size + 1, 1, none⟩ = some (.slice B m d) ∧ Ext w w')
        (with_reducible first | exact hH3 | assumption | exact keep4 (by assumption) (ext_drewN _ _) | exact keep4 (by assumption) (by assumption))
        (first
          | ((go_at_call 50; (with_reducible refine (i_trim A n c xs _ (Hx.out.ext (ext4e hH3))).mono ?_); rintro e w' ⟨rfl, rfl⟩))
          | ((go_at_call 50; (with_reducible refine (i_trim B m d ys _ (Hy.out.ext (ext4e hH3))).mono ?_); rintro e w' ⟨rfl, rfl⟩))
          | ((go_at_call 63; (with_reducible refine (Hcmp.out _ (Hx.out.trim.ext (ext4e hH3)) (Hy.out.trim.ext (ext4e hH3))).mono ?_); rintro e w3 ⟨rfl, hb3⟩; have hE3 := ext4e (keep4 hH3 hb3))))
      go_wp2_with fail
      go_ret
      refine ⟨ret_i ?_, hE3⟩
      have := Hzz.out
      first | omega | (rw [IntWalk.i64_in _ (by omega)]; omega))
  · have hz' := hne hst
    have Hz := Lib.hid hz'
    have hst' : (s == t) = false := by simpa using hst
    clear hx hy hs1 hs2 hne heq hs ht hz hst hz' hr1
    go_enter Try.func46, Try.ntmps46
    go_wp2_with fail
    rw [← hW]
    clear hW
    go_region_held3 (fun w' => w'.cell? ⟨w.heap.size, 0, none⟩ = some (.bool na) ∧ w'.cell? ⟨w.heap.size, 1, none⟩ = some (.slice A n c) ∧ w'.cell? ⟨w.heap.size + 1, 0, none⟩ = some (.bool nb) ∧ w'.cell? ⟨w.heap.size + 1, 1, none⟩ = some (.slice B m d) ∧ Ext w w')
      (with_reducible first | exact hH | assumption | exact keep4 (by assumption) (by assumption))
      (first
        | ((go_at_call 37; (with_reducible refine (Hs1.out _ (intR_ext Hx.out (ext4e (by assumption)))).mono ?_); rintro e w1 ⟨rfl, hb1⟩; have hH1 := keep4 hH hb1))
        | ((go_at_call 37; (with_reducible refine (Hs2.out _ (intR_ext Hy.out (ext4e hH1))).mono ?_); rintro e w2 ⟨rfl, hb2⟩; have hH2 := keep4 hH1 hb2)))
    go_wp2_with (go_at_call 74; (with_reducible refine (compare_int s t _).mono ?_); rintro e w' ⟨rfl, rfl⟩)
    go_ret
    exact ⟨ret_i Hz.out, ext4e hH2⟩


end Go.Proofs.Ytdmijpechdaniaa
