/- Norm and Neg of both packages. -/
import Derived.Test.YtdmijpechdaniaaMul
namespace Go.Proofs.Ytdmijpechdaniaa
open Go.RowKit
attribute [local go_sem ↓] Go.wp_at_zero Go.wp_at_succ

theorem toZ_digs (na : Bool) (xs zs : List Nat) (h : val zs = val xs) : toZ na zs = toZ na xs := by unfold toZ; rw [h]
theorem toZ_not (na : Bool) (xs zs : List Nat) (h : val zs = val xs) : toZ (!na) zs = -toZ na xs := by unfold toZ; rw [h]; cases na <;> simp

set_option maxHeartbeats 1000000 in
theorem i_Norm (va : Value) (na : Bool) (xs : List Nat) (w : World) (ha : IntR w va na xs) (h1 : xs.length ≤ 2147483648) :
    Calls Try.prog 35 #[va] w (RetInt (toZ na xs) w) := by
  obtain ⟨A, n, c, rfl, hx⟩ := ha
  obtain ⟨W, hW⟩ : ∃ W, W = (w.alloc (.cells #[.bool na, .slice A n c] 24)).alloc (.cells #[.bool false, .slice none 0 0] 24) := ⟨_, rfl⟩
  obtain ⟨⟨ca0, ca1⟩, ⟨cr0, cr1, fr0, fr1⟩, hbW⟩ := one_box w _ _ _ _ _ W hW
  have hl1 := trim_len hx.wd h1
  have hE : Ext W W.drew := (Ext.refl W).drew
  have Hx := Lib.hid hx
  obtain ⟨z, hz⟩ : ∃ z, z = toZ na xs := ⟨_, rfl⟩
  rw [← hz]
  have hz1 : toZ (na) (trim xs) = z := (toZ_digs na xs _ (val_trim xs)).trans hz.symm
  have Hz := Lib.hid hz1
  clear hx hz hz1
  go_enter Try.func35, Try.ntmps35
  go_wp2_with fail
  rw [← hW]
  clear hW
  go_region_held3 (fun w' => w'.cell? ⟨w.heap.size, 0, none⟩ = some (.bool na) ∧ w'.cell? ⟨w.heap.size, 1, none⟩ = some (.slice A n c) ∧ Ext w w')
    (first | exact ⟨ca0, ca1, hbW.drew⟩ | assumption | exact keep2 (by assumption) (by assumption) | exact keep2s (by assumption) (by omega) (by dsimp only; omega) (by dsimp only; omega))
    (first
      | ((go_at_call 50; (with_reducible refine (i_trim A n c xs _ (Hx.out.below (ext2 (by assumption)))).mono ?_); rintro e w' ⟨rfl, rfl⟩))
      | ((go_at_call 68; (with_reducible refine (clone_u32 _ _ _ (trim xs) _ (Hx.out.trim.below (ext2 (by assumption))) hl1).mono ?_); rintro e w1 ⟨A1, n1, c1, zs, rfl, hw1, rfl, hb1⟩; have hE1 := Ext.more (by assumption) hb1))
      | ((go_at_call 48; (with_reducible refine (i_signed_z (by assumption) Hz.out).mono ?_); rintro e w2 ⟨v2, rfl, ⟨A2, n2, c2, rfl, hw2⟩, hb2⟩; have hE2 := Ext.more (by assumption) hb2; have su0 := kc cr0 hE2; have su1 := kc cr1 hE2; have sf0 := kf cr0 fr0 hE2; have sf1 := kf cr1 fr1 hE2)))
  go_wp2_with fail
  exact bodyPost_ret (v := .agg #[.bool (decide (z < 0)), .slice A2 n2 c2]) (by simp [results, Try.results35, go_sem, su0, su1]) rfl (fin_int su0 su1 hw2 (hbW.trans hE2) (by omega))

set_option maxHeartbeats 1000000 in
theorem i_Neg (va : Value) (na : Bool) (xs : List Nat) (w : World) (ha : IntR w va na xs) (h1 : xs.length ≤ 2147483648) :
    Calls Try.prog 44 #[va] w (RetInt (-toZ na xs) w) := by
  obtain ⟨A, n, c, rfl, hx⟩ := ha
  obtain ⟨W, hW⟩ : ∃ W, W = (w.alloc (.cells #[.bool na, .slice A n c] 24)).alloc (.cells #[.bool false, .slice none 0 0] 24) := ⟨_, rfl⟩
  obtain ⟨⟨ca0, ca1⟩, ⟨cr0, cr1, fr0, fr1⟩, hbW⟩ := one_box w _ _ _ _ _ W hW
  have hl1 := trim_len hx.wd h1
  have hE : Ext W W.drew := (Ext.refl W).drew
  have Hx := Lib.hid hx
  obtain ⟨z, hz⟩ : ∃ z, z = -toZ na xs := ⟨_, rfl⟩
  rw [← hz]
  have hz1 : toZ (!na) (trim xs) = z := (toZ_not na xs _ (val_trim xs)).trans hz.symm
  have Hz := Lib.hid hz1
  clear hx hz hz1
  go_enter Try.func44, Try.ntmps44
  go_wp2_with fail
  rw [← hW]
  clear hW
  go_region_held3 (fun w' => w'.cell? ⟨w.heap.size, 0, none⟩ = some (.bool na) ∧ w'.cell? ⟨w.heap.size, 1, none⟩ = some (.slice A n c) ∧ Ext w w')
    (first | exact ⟨ca0, ca1, hbW.drew⟩ | assumption | exact keep2 (by assumption) (by assumption) | exact keep2s (by assumption) (by omega) (by dsimp only; omega) (by dsimp only; omega))
    (first
      | ((go_at_call 50; (with_reducible refine (i_trim A n c xs _ (Hx.out.below (ext2 (by assumption)))).mono ?_); rintro e w' ⟨rfl, rfl⟩))
      | ((go_at_call 68; (with_reducible refine (clone_u32 _ _ _ (trim xs) _ (Hx.out.trim.below (ext2 (by assumption))) hl1).mono ?_); rintro e w1 ⟨A1, n1, c1, zs, rfl, hw1, rfl, hb1⟩; have hE1 := Ext.more (by assumption) hb1))
      | ((go_at_call 48; (with_reducible refine (i_signed_z (by assumption) Hz.out).mono ?_); rintro e w2 ⟨v2, rfl, ⟨A2, n2, c2, rfl, hw2⟩, hb2⟩; have hE2 := Ext.more (by assumption) hb2; have su0 := kc cr0 hE2; have su1 := kc cr1 hE2; have sf0 := kf cr0 fr0 hE2; have sf1 := kf cr1 fr1 hE2)))
  go_wp2_with fail
  exact bodyPost_ret (v := .agg #[.bool (decide (z < 0)), .slice A2 n2 c2]) (by simp [results, Try.results44, go_sem, su0, su1]) rfl (fin_int su0 su1 hw2 (hbW.trans hE2) (by omega))


set_option maxHeartbeats 1000000 in
theorem r1_Norm (va : Value) (na : Bool) (xs : List Nat) (w : World) (ha : IntR w va na xs) :
    Calls Try.prog 20 #[va] w (RetInt (toZ na xs) w) := by
  obtain ⟨A, n, c, rfl, hx⟩ := ha
  obtain ⟨W, hW⟩ : ∃ W, W = (w.alloc (.cells #[.bool na, .slice A n c] 24)).alloc (.cells #[.bool false, .slice none 0 0] 24) := ⟨_, rfl⟩
  obtain ⟨⟨ca0, ca1⟩, ⟨cr0, cr1, fr0, fr1⟩, hbW⟩ := one_box w _ _ _ _ _ W hW
  have hxW := hx.ext hbW
  have Hx := Lib.hid hxW
  obtain ⟨z, hz⟩ : ∃ z, z = toZ na xs := ⟨_, rfl⟩
  rw [← hz]
  have hz1 : toZ (na) xs = z := Eq.trans (rfl) hz.symm
  have Hz := Lib.hid hz1
  have HW := Lib.hid hW
  clear hx hxW hz hz1 hW
  go_enter Try.func20, Try.ntmps20
  go_wp2_with (go_at_call 51; rw [← HW.out]; (with_reducible refine (r1_signed_z Hx.out Hz.out).mono ?_); rintro e w2 ⟨v2, rfl, ⟨A2, n2, c2, rfl, hw2⟩, hE2⟩; have su0 := kc cr0 hE2; have su1 := kc cr1 hE2; have sf0 := kf cr0 fr0 hE2; have sf1 := kf cr1 fr1 hE2)
  exact bodyPost_ret (v := .agg #[.bool (decide (z < 0)), .slice A2 n2 c2]) (by simp [results, Try.results20, go_sem, su0, su1]) rfl (fin_int su0 su1 hw2 (hbW.trans hE2) (by omega))

set_option maxHeartbeats 1000000 in
theorem r1_Neg (va : Value) (na : Bool) (xs : List Nat) (w : World) (ha : IntR w va na xs) :
    Calls Try.prog 45 #[va] w (RetInt (-toZ na xs) w) := by
  obtain ⟨A, n, c, rfl, hx⟩ := ha
  obtain ⟨W, hW⟩ : ∃ W, W = (w.alloc (.cells #[.bool na, .slice A n c] 24)).alloc (.cells #[.bool false, .slice none 0 0] 24) := ⟨_, rfl⟩
  obtain ⟨⟨ca0, ca1⟩, ⟨cr0, cr1, fr0, fr1⟩, hbW⟩ := one_box w _ _ _ _ _ W hW
  have hxW := hx.ext hbW
  have Hx := Lib.hid hxW
  obtain ⟨z, hz⟩ : ∃ z, z = -toZ na xs := ⟨_, rfl⟩
  rw [← hz]
  have hz1 : toZ (!na) xs = z := Eq.trans (toZ_not na xs xs rfl) hz.symm
  have Hz := Lib.hid hz1
  have HW := Lib.hid hW
  clear hx hxW hz hz1 hW
  go_enter Try.func45, Try.ntmps45
  go_wp2_with (go_at_call 51; rw [← HW.out]; (with_reducible refine (r1_signed_z Hx.out Hz.out).mono ?_); rintro e w2 ⟨v2, rfl, ⟨A2, n2, c2, rfl, hw2⟩, hE2⟩; have su0 := kc cr0 hE2; have su1 := kc cr1 hE2; have sf0 := kf cr0 fr0 hE2; have sf1 := kf cr1 fr1 hE2)
  exact bodyPost_ret (v := .agg #[.bool (decide (z < 0)), .slice A2 n2 c2]) (by simp [results, Try.results45, go_sem, su0, su1]) rfl (fin_int su0 su1 hw2 (hbW.trans hE2) (by omega))


end Go.Proofs.Ytdmijpechdaniaa
