/- Mul of the program. Norm and Neg of both packages. Mul of the reference. Integers out of machine numbers. short of the reference: the number of at most two words. slices.Backward over words, and toUint of the program, which ranges over it. -/
import Derived.Test.YtmpadildchphgaaGreatDoorSAd
import Derived.Deep.RegionWith
import Derived.Deep.DeepCutAuto
import Derived.RangeFuncBox
import Derived.RangeFuncLeaves
import Derived.Shelf.Abstract
import Derived.OwnWalkIn
import Derived.TacticsInMore
import Derived.LoopNIn
import Derived.LoopIn
namespace Go.Proofs.YtmpadildchphgaaGreatDoor
open Go.RowKit
attribute [local go_sem ↓] Go.wp_at_zero Go.wp_at_succ
theorem i_signed_z {neg : Bool} {A : Option Addr} {n c : Nat} {xs : List Nat} {w : World} {z : Int} (h : Wrd w A n c xs) (hz : toZ neg xs = z) : Calls Tryz.prog 99 #[.bool neg, .slice A n c] w (RetInt z w) := hz ▸ i_signed neg A n c xs w h
theorem r1_signed_z {neg : Bool} {A : Option Addr} {n c : Nat} {xs : List Nat} {w : World} {z : Int} (h : Wrd w A n c xs) (hz : toZ neg xs = z) : Calls Tryz.prog 93 #[.bool neg, .slice A n c] w (RetInt z w) := hz ▸ r1_signed neg A n c xs w h
theorem trim_len {xs : List Nat} (h : Wd xs) (h1 : xs.length ≤ 2147483648) : (trim xs).length ≤ 4294967296 := by have := trim_length h; omega
theorem toZ_mul (na nb : Bool) (xs ys zs : List Nat) (h : val zs = val xs * val ys) : toZ (!(na == nb)) zs = toZ na xs * toZ nb ys := by
  unfold toZ
  rw [h]
  cases na <;> cases nb <;> simp [Int.neg_mul, Int.mul_neg]
set_option maxHeartbeats 1000000 in
theorem i_Mul (va vb : Value) (na nb : Bool) (xs ys : List Nat) (w : World) (ha : IntR w va na xs) (hb : IntR w vb nb ys) (h1 : xs.length ≤ 2147483648) (h2 : ys.length ≤ 2147483648) :
    Calls Tryz.prog 73 #[va, vb] w (RetInt (toZ na xs * toZ nb ys) w) := by
  obtain ⟨A, n, c, rfl, hx⟩ := ha
  obtain ⟨B, m, d, rfl, hy⟩ := hb
  obtain ⟨W, hW⟩ : ∃ W, W = ((w.alloc (.cells #[.bool na, .slice A n c] 24)).alloc (.cells #[.bool nb, .slice B m d] 24)).alloc (.cells #[.bool false, .slice none 0 0] 24) := ⟨_, rfl⟩
  obtain ⟨⟨ca0, ca1, cb0, cb1⟩, ⟨cr0, cr1, fr0, fr1⟩, hbW⟩ := two_boxes w _ _ _ _ _ _ _ W hW
  have hl1 := trim_len hx.wd h1
  have hl2 := trim_len hy.wd h2
  have hE : Ext W W.drew := (Ext.refl W).drew
  have Hx := Lib.hid hx
  have Hy := Lib.hid hy
  obtain ⟨z, hz⟩ : ∃ z, z = toZ na xs * toZ nb ys := ⟨_, rfl⟩
  rw [← hz]
  have hz1 : toZ (!(na == nb)) (digs (val (trim xs) * val (trim ys))) = z := by rw [hz]; exact toZ_mul na nb xs ys _ (by rw [val_digs, val_trim, val_trim])
  have Hz := Lib.hid hz1
  clear hx hy hz hz1
  go_enter Tryz.func73, Tryz.ntmps73
  go_wp2_with fail
  rw [← hW]
  clear hW
  go_region_held3 (fun w' => w'.cell? ⟨w.heap.size, 0, none⟩ = some (.bool na) ∧ w'.cell? ⟨w.heap.size, 1, none⟩ = some (.slice A n c) ∧ w'.cell? ⟨w.heap.size + 1, 0, none⟩ = some (.bool nb) ∧ w'.cell? ⟨w.heap.size + 1, 1, none⟩ = some (.slice B m d) ∧ Ext w w')
    (first | exact ⟨ca0, ca1, cb0, cb1, hbW.drew⟩ | assumption | exact keep4 (by assumption) (by assumption) | exact keep4s (by assumption) (by omega) (by dsimp only; omega) (by dsimp only; omega) (by dsimp only; omega) (by dsimp only; omega))
    (first
      | ((go_at_call 98; (with_reducible refine (i_trim A n c xs _ (Hx.out.below (ext4 (by assumption)))).mono ?_); rintro e w' ⟨rfl, rfl⟩))
      | ((go_at_call 98; (with_reducible refine (i_trim B m d ys _ (Hy.out.below (ext4 (by assumption)))).mono ?_); rintro e w' ⟨rfl, rfl⟩))
      | ((go_at_call 103; (with_reducible refine (i_times _ _ _ _ _ _ (trim xs) (trim ys) _ (Hx.out.trim.below (ext4 (by assumption))) (Hy.out.trim.below (ext4 (by assumption))) hl1 hl2).mono ?_); rintro e w1 ⟨A1, n1, c1, zs, rfl, hw1, rfl, hb1⟩; have hE1 := Ext.more (by assumption) hb1))
      | ((go_at_call 99; (with_reducible refine (i_signed_z (by assumption) Hz.out).mono ?_); rintro e w2 ⟨v2, rfl, ⟨A2, n2, c2, rfl, hw2⟩, hb2⟩; have hE2 := Ext.more (by assumption) hb2; have su0 := kc cr0 hE2; have su1 := kc cr1 hE2; have sf0 := kf cr0 fr0 hE2; have sf1 := kf cr1 fr1 hE2)))
  go_wp2_with fail
  exact bodyPost_ret (v := .agg #[.bool (decide (z < 0)), .slice A2 n2 c2]) (by simp [results, Tryz.results73, go_sem, su0, su1]) rfl (fin_int su0 su1 hw2 (hbW.trans hE2) (by omega))
end Go.Proofs.YtmpadildchphgaaGreatDoor
namespace Go.Proofs.YtmpadildchphgaaGreatDoor
open Go.RowKit
attribute [local go_sem ↓] Go.wp_at_zero Go.wp_at_succ
theorem toZ_digs (na : Bool) (xs zs : List Nat) (h : val zs = val xs) : toZ na zs = toZ na xs := by unfold toZ; rw [h]
theorem toZ_not (na : Bool) (xs zs : List Nat) (h : val zs = val xs) : toZ (!na) zs = -toZ na xs := by unfold toZ; rw [h]; cases na <;> simp
set_option maxHeartbeats 1000000 in
theorem i_Norm (va : Value) (na : Bool) (xs : List Nat) (w : World) (ha : IntR w va na xs) (h1 : xs.length ≤ 2147483648) :
    Calls Tryz.prog 126 #[va] w (RetInt (toZ na xs) w) := by
  obtain ⟨A, n, c, rfl, hx⟩ := ha
  obtain ⟨W, hW⟩ : ∃ W, W = (w.alloc (.cells #[.bool na, .slice A n c] 24)).alloc (.cells #[.bool false, .slice none 0 0] 24) := ⟨_, rfl⟩
  obtain ⟨⟨ca0, ca1⟩, ⟨cr0, cr1, fr0, fr1⟩, hbW⟩ := one_box w _ _ _ _ _ W hW
  have hl1 := trim_len hx.wd h1
  have hE : Ext W W.drew := (Ext.refl W).drew
  have Hx := Lib.hid hx
  obtain ⟨z, hz⟩ : ∃ z, z = toZ na xs := ⟨_, rfl⟩
  rw [← hz]
  have hz1 : toZ (na) (trim xs) = z := (toZ_digs na xs _ (val_trim xs)).trans hz.symm
  have Hz := Lib.hid hz1
  clear hx hz hz1
  go_enter Tryz.func126, Tryz.ntmps126
  go_wp2_with fail
  rw [← hW]
  clear hW
  go_region_held3 (fun w' => w'.cell? ⟨w.heap.size, 0, none⟩ = some (.bool na) ∧ w'.cell? ⟨w.heap.size, 1, none⟩ = some (.slice A n c) ∧ Ext w w')
    (first | exact ⟨ca0, ca1, hbW.drew⟩ | assumption | exact keep2 (by assumption) (by assumption) | exact keep2s (by assumption) (by omega) (by dsimp only; omega) (by dsimp only; omega))
    (first
      | ((go_at_call 98; (with_reducible refine (i_trim A n c xs _ (Hx.out.below (ext2 (by assumption)))).mono ?_); rintro e w' ⟨rfl, rfl⟩))
      | ((go_at_call 118; (with_reducible refine (clone_u32 _ _ _ (trim xs) _ (Hx.out.trim.below (ext2 (by assumption))) hl1).mono ?_); rintro e w1 ⟨A1, n1, c1, zs, rfl, hw1, rfl, hb1⟩; have hE1 := Ext.more (by assumption) hb1))
      | ((go_at_call 99; (with_reducible refine (i_signed_z (by assumption) Hz.out).mono ?_); rintro e w2 ⟨v2, rfl, ⟨A2, n2, c2, rfl, hw2⟩, hb2⟩; have hE2 := Ext.more (by assumption) hb2; have su0 := kc cr0 hE2; have su1 := kc cr1 hE2; have sf0 := kf cr0 fr0 hE2; have sf1 := kf cr1 fr1 hE2)))
  go_wp2_with fail
  exact bodyPost_ret (v := .agg #[.bool (decide (z < 0)), .slice A2 n2 c2]) (by simp [results, Tryz.results126, go_sem, su0, su1]) rfl (fin_int su0 su1 hw2 (hbW.trans hE2) (by omega))
set_option maxHeartbeats 1000000 in
theorem i_Neg (va : Value) (na : Bool) (xs : List Nat) (w : World) (ha : IntR w va na xs) (h1 : xs.length ≤ 2147483648) :
    Calls Tryz.prog 105 #[va] w (RetInt (-toZ na xs) w) := by
  obtain ⟨A, n, c, rfl, hx⟩ := ha
  obtain ⟨W, hW⟩ : ∃ W, W = (w.alloc (.cells #[.bool na, .slice A n c] 24)).alloc (.cells #[.bool false, .slice none 0 0] 24) := ⟨_, rfl⟩
  obtain ⟨⟨ca0, ca1⟩, ⟨cr0, cr1, fr0, fr1⟩, hbW⟩ := one_box w _ _ _ _ _ W hW
  have hl1 := trim_len hx.wd h1
  have hE : Ext W W.drew := (Ext.refl W).drew
  have Hx := Lib.hid hx
  obtain ⟨z, hz⟩ : ∃ z, z = -toZ na xs := ⟨_, rfl⟩
  rw [← hz]
  have hz1 : toZ (!na) (trim xs) = z := (toZ_not na xs _ (val_trim xs)).trans hz.symm
  have Hz := Lib.hid hz1
  clear hx hz hz1
  go_enter Tryz.func105, Tryz.ntmps105
  go_wp2_with fail
  rw [← hW]
  clear hW
  go_region_held3 (fun w' => w'.cell? ⟨w.heap.size, 0, none⟩ = some (.bool na) ∧ w'.cell? ⟨w.heap.size, 1, none⟩ = some (.slice A n c) ∧ Ext w w')
    (first | exact ⟨ca0, ca1, hbW.drew⟩ | assumption | exact keep2 (by assumption) (by assumption) | exact keep2s (by assumption) (by omega) (by dsimp only; omega) (by dsimp only; omega))
    (first
      | ((go_at_call 98; (with_reducible refine (i_trim A n c xs _ (Hx.out.below (ext2 (by assumption)))).mono ?_); rintro e w' ⟨rfl, rfl⟩))
      | ((go_at_call 118; (with_reducible refine (clone_u32 _ _ _ (trim xs) _ (Hx.out.trim.below (ext2 (by assumption))) hl1).mono ?_); rintro e w1 ⟨A1, n1, c1, zs, rfl, hw1, rfl, hb1⟩; have hE1 := Ext.more (by assumption) hb1))
      | ((go_at_call 99; (with_reducible refine (i_signed_z (by assumption) Hz.out).mono ?_); rintro e w2 ⟨v2, rfl, ⟨A2, n2, c2, rfl, hw2⟩, hb2⟩; have hE2 := Ext.more (by assumption) hb2; have su0 := kc cr0 hE2; have su1 := kc cr1 hE2; have sf0 := kf cr0 fr0 hE2; have sf1 := kf cr1 fr1 hE2)))
  go_wp2_with fail
  exact bodyPost_ret (v := .agg #[.bool (decide (z < 0)), .slice A2 n2 c2]) (by simp [results, Tryz.results105, go_sem, su0, su1]) rfl (fin_int su0 su1 hw2 (hbW.trans hE2) (by omega))
set_option maxHeartbeats 1000000 in
theorem r1_Norm (va : Value) (na : Bool) (xs : List Nat) (w : World) (ha : IntR w va na xs) :
    Calls Tryz.prog 91 #[va] w (RetInt (toZ na xs) w) := by
  obtain ⟨A, n, c, rfl, hx⟩ := ha
  obtain ⟨W, hW⟩ : ∃ W, W = (w.alloc (.cells #[.bool na, .slice A n c] 24)).alloc (.cells #[.bool false, .slice none 0 0] 24) := ⟨_, rfl⟩
  obtain ⟨⟨ca0, ca1⟩, ⟨cr0, cr1, fr0, fr1⟩, hbW⟩ := one_box w _ _ _ _ _ W hW
  have hxW := hx.ext hbW
  have Hx := Lib.hid hxW
  obtain ⟨z, hz⟩ : ∃ z, z = toZ na xs := ⟨_, rfl⟩
  rw [← hz]
  have hz1 : toZ (na) xs = z := Eq.trans (rfl) hz.symm
  have Hz := Lib.hid hz1
  have HW := Lib.hid hW
  clear hx hxW hz hz1 hW
  go_enter Tryz.func91, Tryz.ntmps91
  go_wp2_with (go_at_call 93; rw [← HW.out]; (with_reducible refine (r1_signed_z Hx.out Hz.out).mono ?_); rintro e w2 ⟨v2, rfl, ⟨A2, n2, c2, rfl, hw2⟩, hE2⟩; have su0 := kc cr0 hE2; have su1 := kc cr1 hE2; have sf0 := kf cr0 fr0 hE2; have sf1 := kf cr1 fr1 hE2)
  exact bodyPost_ret (v := .agg #[.bool (decide (z < 0)), .slice A2 n2 c2]) (by simp [results, Tryz.results91, go_sem, su0, su1]) rfl (fin_int su0 su1 hw2 (hbW.trans hE2) (by omega))
set_option maxHeartbeats 1000000 in
theorem r1_Neg (va : Value) (na : Bool) (xs : List Nat) (w : World) (ha : IntR w va na xs) :
    Calls Tryz.prog 96 #[va] w (RetInt (-toZ na xs) w) := by
  obtain ⟨A, n, c, rfl, hx⟩ := ha
  obtain ⟨W, hW⟩ : ∃ W, W = (w.alloc (.cells #[.bool na, .slice A n c] 24)).alloc (.cells #[.bool false, .slice none 0 0] 24) := ⟨_, rfl⟩
  obtain ⟨⟨ca0, ca1⟩, ⟨cr0, cr1, fr0, fr1⟩, hbW⟩ := one_box w _ _ _ _ _ W hW
  have hxW := hx.ext hbW
  have Hx := Lib.hid hxW
  obtain ⟨z, hz⟩ : ∃ z, z = -toZ na xs := ⟨_, rfl⟩
  rw [← hz]
  have hz1 : toZ (!na) xs = z := Eq.trans (toZ_not na xs xs rfl) hz.symm
  have Hz := Lib.hid hz1
  have HW := Lib.hid hW
  clear hx hxW hz hz1 hW
  go_enter Tryz.func96, Tryz.ntmps96
  go_wp2_with (go_at_call 93; rw [← HW.out]; (with_reducible refine (r1_signed_z Hx.out Hz.out).mono ?_); rintro e w2 ⟨v2, rfl, ⟨A2, n2, c2, rfl, hw2⟩, hE2⟩; have su0 := kc cr0 hE2; have su1 := kc cr1 hE2; have sf0 := kf cr0 fr0 hE2; have sf1 := kf cr1 fr1 hE2)
  exact bodyPost_ret (v := .agg #[.bool (decide (z < 0)), .slice A2 n2 c2]) (by simp [results, Tryz.results96, go_sem, su0, su1]) rfl (fin_int su0 su1 hw2 (hbW.trans hE2) (by omega))
end Go.Proofs.YtmpadildchphgaaGreatDoor
namespace Go.Proofs.YtmpadildchphgaaGreatDoor
open Go.RowKit
attribute [local go_sem ↓] Go.wp_at_zero Go.wp_at_succ
theorem two_boxesB (w : World) (a0 a1 b0 b1 r0 r1 : Value) (t : TypeId) (W : World) (hW : W = ((w.alloc (.cells #[a0, a1] t)).alloc (.cells #[b0, b1] t)).alloc (.cells #[r0, r1] t)) :
    ((W.cell? ⟨w.heap.size, 0, none⟩ = some a0 ∧ W.frozen? ⟨w.heap.size, 0, none⟩ = false) ∧ (W.cell? ⟨w.heap.size, 1, none⟩ = some a1 ∧ W.frozen? ⟨w.heap.size, 1, none⟩ = false) ∧
     (W.cell? ⟨w.heap.size + 1, 0, none⟩ = some b0 ∧ W.frozen? ⟨w.heap.size + 1, 0, none⟩ = false) ∧ (W.cell? ⟨w.heap.size + 1, 1, none⟩ = some b1 ∧ W.frozen? ⟨w.heap.size + 1, 1, none⟩ = false) ∧
     (W.cell? ⟨w.heap.size + 1 + 1, 0, none⟩ = some r0 ∧ W.frozen? ⟨w.heap.size + 1 + 1, 0, none⟩ = false) ∧ (W.cell? ⟨w.heap.size + 1 + 1, 1, none⟩ = some r1 ∧ W.frozen? ⟨w.heap.size + 1 + 1, 1, none⟩ = false)) ∧ Ext w W := by
  obtain ⟨_, _, h2⟩ := two_boxes w a0 a1 b0 b1 r0 r1 t W hW
  refine ⟨?_, h2⟩
  subst hW
  simp [go_sem]
def NormTwo (w : World) (za zb : Int) (wx : World) : Prop := ∃ A n c B m d,
  ((wx.cell? ⟨w.heap.size, 0, none⟩ = some (.bool (decide (za < 0))) ∧ wx.frozen? ⟨w.heap.size, 0, none⟩ = false) ∧ (wx.cell? ⟨w.heap.size, 1, none⟩ = some (.slice A n c) ∧ wx.frozen? ⟨w.heap.size, 1, none⟩ = false) ∧
   (wx.cell? ⟨w.heap.size + 1, 0, none⟩ = some (.bool (decide (zb < 0))) ∧ wx.frozen? ⟨w.heap.size + 1, 0, none⟩ = false) ∧ (wx.cell? ⟨w.heap.size + 1, 1, none⟩ = some (.slice B m d) ∧ wx.frozen? ⟨w.heap.size + 1, 1, none⟩ = false) ∧
   (wx.cell? ⟨w.heap.size + 1 + 1, 0, none⟩ = some (.bool false) ∧ wx.frozen? ⟨w.heap.size + 1 + 1, 0, none⟩ = false) ∧ (wx.cell? ⟨w.heap.size + 1 + 1, 1, none⟩ = some (.slice none 0 0) ∧ wx.frozen? ⟨w.heap.size + 1 + 1, 1, none⟩ = false)) ∧
  Wrd wx A n c (digs za.natAbs) ∧ Wrd wx B m d (digs zb.natAbs) ∧ Ext w wx
theorem cell_set_same {w : World} {p : Addr} {v u : Value} (h : w.cell? p = some v) : (w.setCell p u).cell? p = some u := World.cell?_setCell_same' _ _ _ (by rw [h]; rfl)
theorem norm_two {w w2 : World} {za zb : Int} {na nb : Bool} {A B A1 B1 : Option Addr} {n c m d n1 c1 m1 d1 : Nat}
    (hB : (w2.cell? ⟨w.heap.size, 0, none⟩ = some (.bool na) ∧ w2.frozen? ⟨w.heap.size, 0, none⟩ = false) ∧ (w2.cell? ⟨w.heap.size, 1, none⟩ = some (.slice A1 n1 c1) ∧ w2.frozen? ⟨w.heap.size, 1, none⟩ = false) ∧
      (w2.cell? ⟨w.heap.size + 1, 0, none⟩ = some (.bool nb) ∧ w2.frozen? ⟨w.heap.size + 1, 0, none⟩ = false) ∧ (w2.cell? ⟨w.heap.size + 1, 1, none⟩ = some (.slice B1 m1 d1) ∧ w2.frozen? ⟨w.heap.size + 1, 1, none⟩ = false) ∧
      (w2.cell? ⟨w.heap.size + 1 + 1, 0, none⟩ = some (.bool false) ∧ w2.frozen? ⟨w.heap.size + 1 + 1, 0, none⟩ = false) ∧ (w2.cell? ⟨w.heap.size + 1 + 1, 1, none⟩ = some (.slice none 0 0) ∧ w2.frozen? ⟨w.heap.size + 1 + 1, 1, none⟩ = false))
    (hx : Wrd w2 A n c (digs za.natAbs)) (hy : Wrd w2 B m d (digs zb.natAbs)) (hE : Ext w w2) :
    NormTwo w za zb ((((w2.setCell ⟨w.heap.size, 0, none⟩ (.bool (decide (za < 0)))).setCell ⟨w.heap.size, 1, none⟩ (.slice A n c)).setCell ⟨w.heap.size + 1, 0, none⟩ (.bool (decide (zb < 0)))).setCell ⟨w.heap.size + 1, 1, none⟩ (.slice B m d)) := by
  obtain ⟨⟨a0, f0⟩, ⟨a1, f1⟩, ⟨a2, f2⟩, ⟨a3, f3⟩, ⟨a4, f4⟩, ⟨a5, f5⟩⟩ := hB
  have b1 := cell_far a1 (u := .bool (decide (za < 0))) (q := ⟨w.heap.size, 0, none⟩) (by simp)
  have b2 := cell_far (cell_far a2 (u := .bool (decide (za < 0))) (q := ⟨w.heap.size, 0, none⟩) (by simp)) (u := .slice A n c) (q := ⟨w.heap.size, 1, none⟩) (by simp)
  have b3 := cell_far (cell_far (cell_far a3 (u := .bool (decide (za < 0))) (q := ⟨w.heap.size, 0, none⟩) (by simp)) (u := .slice A n c) (q := ⟨w.heap.size, 1, none⟩) (by simp)) (u := .bool (decide (zb < 0))) (q := ⟨w.heap.size + 1, 0, none⟩) (by simp)
  have far : ∀ {p : Addr} {v : Value}, w2.cell? p = some v → p.block ≠ w.heap.size → p.block ≠ w.heap.size + 1 →
      ((((w2.setCell ⟨w.heap.size, 0, none⟩ (.bool (decide (za < 0)))).setCell ⟨w.heap.size, 1, none⟩ (.slice A n c)).setCell ⟨w.heap.size + 1, 0, none⟩ (.bool (decide (zb < 0)))).setCell ⟨w.heap.size + 1, 1, none⟩ (.slice B m d)).cell? p = some v := by
    intro p v hp h1 h2
    exact cell_far2 (cell_far2 hp h1) h2
  have fr : ∀ p, ((((w2.setCell ⟨w.heap.size, 0, none⟩ (.bool (decide (za < 0)))).setCell ⟨w.heap.size, 1, none⟩ (.slice A n c)).setCell ⟨w.heap.size + 1, 0, none⟩ (.bool (decide (zb < 0)))).setCell ⟨w.heap.size + 1, 1, none⟩ (.slice B m d)).frozen? p = w2.frozen? p := by
    intro p
    rw [World.frozen?_setCell, World.frozen?_setCell, World.frozen?_setCell, World.frozen?_setCell]
  have st : ∀ {A' : Option Addr} {n' c' : Nat} {us : List Nat}, Wrd w2 A' n' c' us →
      Wrd ((((w2.setCell ⟨w.heap.size, 0, none⟩ (.bool (decide (za < 0)))).setCell ⟨w.heap.size, 1, none⟩ (.slice A n c)).setCell ⟨w.heap.size + 1, 0, none⟩ (.bool (decide (zb < 0)))).setCell ⟨w.heap.size + 1, 1, none⟩ (.slice B m d)) A' n' c' us := by
    intro A' n' c' us h
    exact (((h.store a0 (by intro x; simp) _).store b1 (by intro x; simp) _).store b2 (by intro x; simp) _).store b3 (by intro x; simp) _
  refine ⟨A, n, c, B, m, d, ⟨⟨?_, (fr _).trans f0⟩, ⟨?_, (fr _).trans f1⟩, ⟨?_, (fr _).trans f2⟩, ⟨cell_set_same b3, (fr _).trans f3⟩, ⟨far a4 (by dsimp only; omega) (by dsimp only; omega), (fr _).trans f4⟩, ⟨far a5 (by dsimp only; omega) (by dsimp only; omega), (fr _).trans f5⟩⟩, st hx, st hy,
    (((hE.set (p := ⟨w.heap.size, 0, none⟩) (Nat.le_refl _) _).set (p := ⟨w.heap.size, 1, none⟩) (Nat.le_refl _) _).set (p := ⟨w.heap.size + 1, 0, none⟩) (by dsimp only; omega) _).set (p := ⟨w.heap.size + 1, 1, none⟩) (by dsimp only; omega) _⟩
  · exact cell_far2 (cell_far (cell_set_same a0) (by simp)) (by dsimp only; omega)
  · exact cell_far2 (cell_set_same b1) (by dsimp only; omega)
  · exact cell_far (cell_set_same b2) (by simp)
theorem mul_signs (za zb : Int) : toZ (!(decide (za < 0) == decide (zb < 0))) (digs (val (digs za.natAbs) * val (digs zb.natAbs))) = za * zb := by
  rw [val_digs, val_digs]
  have key : ∀ x : Int, (if decide (x < 0) then -(x.natAbs : Int) else (x.natAbs : Int)) = x := by
    intro x
    by_cases h : x < 0 <;> simp [h] <;> omega
  have h1 := key za
  have h2 := key zb
  generalize decide (za < 0) = p at *
  generalize decide (zb < 0) = q at *
  generalize za.natAbs = a at *
  generalize zb.natAbs = b at *
  rw [← h1, ← h2]
  unfold toZ
  rw [val_digs]
  cases p <;> cases q <;> simp [Int.neg_mul, Int.mul_neg]
set_option maxHeartbeats 1000000 in
theorem r1_Mul (va vb : Value) (na nb : Bool) (xs ys : List Nat) (w : World) (ha : IntR w va na xs) (hb : IntR w vb nb ys) (h1 : xs.length ≤ 2147483648) (h2 : ys.length ≤ 2147483648) :
    Calls Tryz.prog 78 #[va, vb] w (RetInt (toZ na xs * toZ nb ys) w) := by
  obtain ⟨A, n, c, rfl, hx⟩ := ha
  obtain ⟨B, m, d, rfl, hy⟩ := hb
  obtain ⟨W, hW⟩ : ∃ W, W = ((w.alloc (.cells #[.bool na, .slice A n c] 24)).alloc (.cells #[.bool nb, .slice B m d] 24)).alloc (.cells #[.bool false, .slice none 0 0] 24) := ⟨_, rfl⟩
  obtain ⟨hB, hbW⟩ := two_boxesB w _ _ _ _ _ _ _ W hW
  have hw : Ext w W.drew := hbW.drew
  have hB0 := keepB6 hB (Ext.refl W).drew
  clear hB hbW
  have Hx := Lib.hid hx
  have Hy := Lib.hid hy
  obtain ⟨z, hz⟩ : ∃ z, z = toZ na xs * toZ nb ys := ⟨_, rfl⟩
  rw [← hz]
  have hz1 : toZ (!(decide (toZ na xs < 0) == decide (toZ nb ys < 0))) (digs (val (digs (toZ na xs).natAbs) * val (digs (toZ nb ys).natAbs))) = z := by rw [hz]; exact mul_signs _ _
  have Hz := Lib.hid hz1
  clear hx hy hz hz1
  go_enter Tryz.func78, Tryz.ntmps78
  go_wp2_with fail
  rw [← hW]
  clear hW
  go_cut [5] (fun _ wx => NormTwo w (toZ na xs) (toZ nb ys) wx)
  case first =>
   go_region_with (first
    | ((go_at_call 91; ((with_reducible refine (r1_Norm _ na xs _ (intR_ext Hx.out (by assumption))).mono ?_); rintro e w1 ⟨v1, rfl, ⟨A1, n1, c1, rfl, hw1⟩, hb1⟩; have hB1 := keepB6 (by assumption) hb1; have hE1 := Ext.more (by assumption) hb1)))
    | ((go_at_call 91; (with_reducible refine (r1_Norm _ nb ys _ (intR_ext Hy.out (by assumption))).mono ?_); rintro e w2 ⟨v2, rfl, ⟨A2, n2, c2, rfl, hw2⟩, hb2⟩; have hB2 := keepB6 (by assumption) hb2; have hE2 := Ext.more (by assumption) hb2)))
   all_goals (go_wp2_with fail; go_meet; first | exact norm_two (by assumption) (Wrd.below (by assumption) (by assumption)) (by assumption) (by assumption) | exact norm_two (by assumption) (by assumption) (Wrd.below (by assumption) (by assumption)) (by assumption))
  case rest =>
    obtain ⟨A1, n1, c1, B1, m1, d1, ⟨⟨ca0, _⟩, ⟨ca1, _⟩, ⟨cb0, _⟩, ⟨cb1, _⟩, ⟨cr0, fr0⟩, ⟨cr1, fr1⟩⟩, hx1, hy1, hE1⟩ := hcut
    have hE : Ext wc wc.drew := (Ext.refl wc).drew
    have hl1 : (digs (toZ na xs).natAbs).length ≤ 4294967296 := by rw [natAbs_toZ]; exact trim_len Hx.out.wd h1
    have hl2 : (digs (toZ nb ys).natAbs).length ≤ 4294967296 := by rw [natAbs_toZ]; exact trim_len Hy.out.wd h2
    generalize ha : toZ na xs = za at *
    generalize hb : toZ nb ys = zb at *
    have Hx1 := Lib.hid hx1
    have Hy1 := Lib.hid hy1
    clear ha hb hx1 hy1 hw hB0
    go_wp2_with fail
    go_region_held3 (fun w' => w'.cell? ⟨w.heap.size, 0, none⟩ = some (.bool (decide (za < 0))) ∧ w'.cell? ⟨w.heap.size, 1, none⟩ = some (.slice A1 n1 c1) ∧ w'.cell? ⟨w.heap.size + 1, 0, none⟩ = some (.bool (decide (zb < 0))) ∧ w'.cell? ⟨w.heap.size + 1, 1, none⟩ = some (.slice B1 m1 d1) ∧ Ext w w')
      (first | exact ⟨ca0, ca1, cb0, cb1, hE1.drew⟩ | assumption | exact keep4 (by assumption) (by assumption) | exact keep4s (by assumption) (by omega) (by dsimp only; omega) (by dsimp only; omega) (by dsimp only; omega) (by dsimp only; omega))
      (first
        | ((go_at_call 112; (with_reducible refine (r1_times _ _ _ _ _ _ _ _ _ (Hx1.out.ext (by assumption)) (Hy1.out.ext (by assumption)) (by rw [← Hx1.out.len]; exact hl1) (by rw [← Hy1.out.len]; exact hl2)).mono ?_); rintro e w1 ⟨A3, n3, c3, zs, rfl, hw1, rfl, hb1⟩; have hE3 := Ext.more (by assumption) hb1))
        | ((go_at_call 93; (with_reducible refine (r1_signed_z (by assumption) Hz.out).mono ?_); rintro e w2 ⟨v2, rfl, ⟨A2, n2, c2, rfl, hw2⟩, hb2⟩; have hE2 := Ext.more (by assumption) hb2; have su0 := kc cr0 hE2; have su1 := kc cr1 hE2; have sf0 := kf cr0 fr0 hE2; have sf1 := kf cr1 fr1 hE2)))
    go_wp2_with fail
    exact bodyPost_ret (v := .agg #[.bool (decide (z < 0)), .slice A2 n2 c2]) (by simp [results, Tryz.results78, go_sem, su0, su1]) rfl (fin_int su0 su1 hw2 (hE1.trans hE2) (by omega))
end Go.Proofs.YtmpadildchphgaaGreatDoor
namespace Go.Proofs.YtmpadildchphgaaGreatDoor
open Go.RowKit
theorem val_two (n : Nat) : val [n % 4294967296, n / 4294967296] = n := by
  simp only [val]
  omega
theorem Wd_two (n : Nat) (h : n < 18446744073709551616) : Wd [n % 4294967296, n / 4294967296] :=
  Wd.cons (by omega) (Wd.cons (by omega) Wd.nil)
set_option maxHeartbeats 400000 in
theorem i_fromUint (n : Nat) (h : n < 18446744073709551616) (w : World) : Calls Tryz.prog 116 #[.int .u64 (n : Int)] w (RetW (fun zs => zs = digs n) w) := by
  have hr : Row (w.alloc (.cells #[.int .u32 ((n : Int) % 4294967296), .int .u32 ((n : Int) / 4294967296)] 92)) w.heap.size [n % 4294967296, n / 4294967296] := by
    have := heap_alloc_new w (.cells #[.int .u32 ((n : Int) % 4294967296), .int .u32 ((n : Int) / 4294967296)] 92)
    unfold Row
    rw [this]
    simp
  have hw := hr.wrd' (n := 2) (Wd_two n h) rfl (by omega)
  have htr : trim [n % 4294967296, n / 4294967296] = digs n := by unfold trim; rw [val_two n]
  have hw3 := hw.trim
  rw [htr] at hw3
  have hb : Below w.heap.size w (w.alloc (.cells #[.int .u32 ((n : Int) % 4294967296), .int .u32 ((n : Int) / 4294967296)] 92)) := (Below.refl _ _).alloc (Nat.le_refl _) _
  have Hw := Lib.hid hw
  have Htr := Lib.hid htr
  have Hw3 := Lib.hid hw3
  have Hb := Lib.hid hb
  clear hr hw htr hw3 hb
  have e1 : (n : Int) / 4294967296 % 4294967296 = (n : Int) / 4294967296 := by omega
  have h0 : (0 : Int) ≤ n := by omega
  have h1 : (n : Int) < 18446744073709551616 := by omega
  go_enter Tryz.func116, Tryz.ntmps116
  go_wp2_with (go_at_call 98; (with_reducible refine (i_trim _ _ _ _ _ Hw.out).mono ?_); rw [Htr.out]; rintro e w' ⟨rfl, rfl⟩)
  go_ret
  exact ⟨_, _, _, _, rfl, Hw3.out, rfl, Hb.out⟩
set_option maxHeartbeats 400000 in
theorem r1_words (n : Nat) (h : n < 18446744073709551616) (w : World) : Calls Tryz.prog 94 #[.int .u64 (n : Int)] w (RetW (fun zs => zs = digs n) w) := by
  have hr : Row (w.alloc (.cells #[.int .u32 ((n : Int) % 4294967296), .int .u32 ((n : Int) / 4294967296)] 92)) w.heap.size [n % 4294967296, n / 4294967296] := by
    have := heap_alloc_new w (.cells #[.int .u32 ((n : Int) % 4294967296), .int .u32 ((n : Int) / 4294967296)] 92)
    unfold Row
    rw [this]
    simp
  have hw := hr.wrd' (n := 2) (Wd_two n h) rfl (by omega)
  have htr : trim [n % 4294967296, n / 4294967296] = digs n := by unfold trim; rw [val_two n]
  have hw3 := hw.trim
  rw [htr] at hw3
  have hb : Below w.heap.size w (w.alloc (.cells #[.int .u32 ((n : Int) % 4294967296), .int .u32 ((n : Int) / 4294967296)] 92)) := (Below.refl _ _).alloc (Nat.le_refl _) _
  have Hw := Lib.hid hw
  have Htr := Lib.hid htr
  have Hw3 := Lib.hid hw3
  have Hb := Lib.hid hb
  clear hr hw htr hw3 hb
  have e1 : (n : Int) / 4294967296 % 4294967296 = (n : Int) / 4294967296 := by omega
  have h0 : (0 : Int) ≤ n := by omega
  have h1 : (n : Int) < 18446744073709551616 := by omega
  go_enter Tryz.func94, Tryz.ntmps94
  go_wp2_with (go_at_call 110; (with_reducible refine (r1_trim _ _ _ _ _ Hw.out).mono ?_); rw [Htr.out]; rintro e w' ⟨rfl, rfl⟩)
  go_ret
  exact ⟨_, _, _, _, rfl, Hw3.out, rfl, Hb.out⟩
theorem res_box (w : World) (r0 r1 : Value) (t : TypeId) : ((w.alloc (.cells #[r0, r1] t)).cell? ⟨w.heap.size, 0, none⟩ = some r0 ∧ (w.alloc (.cells #[r0, r1] t)).cell? ⟨w.heap.size, 1, none⟩ = some r1) ∧
    ((w.alloc (.cells #[r0, r1] t)).frozen? ⟨w.heap.size, 0, none⟩ = false ∧ (w.alloc (.cells #[r0, r1] t)).frozen? ⟨w.heap.size, 1, none⟩ = false) ∧ Ext w (w.alloc (.cells #[r0, r1] t)) := by
  refine ⟨?_, ?_, (Ext.refl w).alloc _⟩ <;> simp [go_sem]
theorem toZ_from (n : Int) : toZ (decide (n < 0)) (digs n.natAbs) = n := by
  unfold toZ
  rw [val_digs]
  by_cases h : n < 0 <;> simp [h] <;> omega
theorem wrapU64 (z : Int) : IntKind.u64.wrap z = z % 18446744073709551616 := IntKind.wrap_u64 z
set_option maxHeartbeats 400000 in
theorem i_FromInt (n : Int) (hlo : -9223372036854775808 ≤ n) (hhi : n < 9223372036854775808) (w : World) : Calls Tryz.prog 84 #[.int .i64 n] w (RetInt n w) := by
  obtain ⟨⟨cr0, cr1⟩, ⟨fr0, fr1⟩, hbW⟩ := res_box w (.bool false) (.slice none 0 0) 24
  obtain ⟨W, hW⟩ : ∃ W, W = w.alloc (.cells #[.bool false, .slice none 0 0] 24) := ⟨_, rfl⟩
  rw [← hW] at cr0 cr1 fr0 fr1 hbW
  have HW := Lib.hid hW
  obtain ⟨m, hm⟩ : ∃ m : Nat, m = n.natAbs := ⟨_, rfl⟩
  have hmb : m < 18446744073709551616 := by omega
  have hfin : toZ (decide (n < 0)) (digs m) = n := by rw [hm]; exact toZ_from n
  have Hfin := Lib.hid hfin
  clear hW hfin
  by_cases h : n < 0
  · have e1 : IntKind.u64.wrap (-(IntKind.u64.wrap n)) = (m : Int) := by rw [wrapU64, wrapU64]; omega
    have ed : decide (n < 0) = true := by simp [h]
    rw [ed] at Hfin
    clear hm
    go_enter Tryz.func84, Tryz.ntmps84
    go_wp2_with (first
      | (go_at_call 116; rw [← HW.out]; (with_reducible refine (i_fromUint m hmb _).mono ?_); rintro e w1 ⟨A1, n1, c1, zs, rfl, hw1, rfl, hE1⟩)
      | (go_at_call 99; (with_reducible refine (i_signed_z (by assumption) Hfin.out).mono ?_); rintro e w2 ⟨v2, rfl, ⟨A2, n2, c2, rfl, hw2⟩, hb2⟩; have hE2 := Ext.more hE1 hb2; have su0 := kc cr0 hE2; have su1 := kc cr1 hE2; have sf0 := kf cr0 fr0 hE2; have sf1 := kf cr1 fr1 hE2))
    exact bodyPost_ret (v := .agg #[.bool true, .slice A2 n2 c2]) (by simp [results, Tryz.results84, go_sem, su0, su1]) rfl (fin_intb ed su0 su1 hw2 (hbW.trans hE2) (Nat.le_refl _))
  · have e1 : IntKind.u64.wrap n = (m : Int) := by rw [wrapU64]; omega
    have ed : decide (n < 0) = false := by simp [h]
    rw [ed] at Hfin
    clear hm
    go_enter Tryz.func84, Tryz.ntmps84
    go_wp2_with (first
      | (go_at_call 116; rw [← HW.out]; (with_reducible refine (i_fromUint m hmb _).mono ?_); rintro e w1 ⟨A1, n1, c1, zs, rfl, hw1, rfl, hE1⟩)
      | (go_at_call 99; (with_reducible refine (i_signed_z (by assumption) Hfin.out).mono ?_); rintro e w2 ⟨v2, rfl, ⟨A2, n2, c2, rfl, hw2⟩, hb2⟩; have hE2 := Ext.more hE1 hb2; have su0 := kc cr0 hE2; have su1 := kc cr1 hE2; have sf0 := kf cr0 fr0 hE2; have sf1 := kf cr1 fr1 hE2))
    exact bodyPost_ret (v := .agg #[.bool false, .slice A2 n2 c2]) (by simp [results, Tryz.results84, go_sem, su0, su1]) rfl (fin_intb ed su0 su1 hw2 (hbW.trans hE2) (Nat.le_refl _))
set_option maxHeartbeats 400000 in
theorem r1_FromInt (n : Int) (hlo : -9223372036854775808 ≤ n) (hhi : n < 9223372036854775808) (w : World) : Calls Tryz.prog 64 #[.int .i64 n] w (RetInt n w) := by
  obtain ⟨⟨cr0, cr1⟩, ⟨fr0, fr1⟩, hbW⟩ := res_box w (.bool false) (.slice none 0 0) 24
  obtain ⟨W, hW⟩ : ∃ W, W = w.alloc (.cells #[.bool false, .slice none 0 0] 24) := ⟨_, rfl⟩
  rw [← hW] at cr0 cr1 fr0 fr1 hbW
  have HW := Lib.hid hW
  obtain ⟨m, hm⟩ : ∃ m : Nat, m = n.natAbs := ⟨_, rfl⟩
  have hmb : m < 18446744073709551616 := by omega
  have hfin : toZ (decide (n < 0)) (digs m) = n := by rw [hm]; exact toZ_from n
  have Hfin := Lib.hid hfin
  clear hW hfin
  by_cases h : n < 0
  · have e1 : IntKind.u64.wrap (-(IntKind.u64.wrap n)) = (m : Int) := by rw [wrapU64, wrapU64]; omega
    have ed : decide (n < 0) = true := by simp [h]
    rw [ed] at Hfin
    clear hm
    go_enter Tryz.func64, Tryz.ntmps64
    go_wp2_with (first
      | (go_at_call 94; rw [← HW.out]; (with_reducible refine (r1_words m hmb _).mono ?_); rintro e w1 ⟨A1, n1, c1, zs, rfl, hw1, rfl, hE1⟩)
      | (go_at_call 93; (with_reducible refine (r1_signed_z (by assumption) Hfin.out).mono ?_); rintro e w2 ⟨v2, rfl, ⟨A2, n2, c2, rfl, hw2⟩, hb2⟩; have hE2 := Ext.more hE1 hb2; have su0 := kc cr0 hE2; have su1 := kc cr1 hE2; have sf0 := kf cr0 fr0 hE2; have sf1 := kf cr1 fr1 hE2))
    exact bodyPost_ret (v := .agg #[.bool true, .slice A2 n2 c2]) (by simp [results, Tryz.results64, go_sem, su0, su1]) rfl (fin_intb ed su0 su1 hw2 (hbW.trans hE2) (Nat.le_refl _))
  · have e1 : IntKind.u64.wrap n = (m : Int) := by rw [wrapU64]; omega
    have ed : decide (n < 0) = false := by simp [h]
    rw [ed] at Hfin
    clear hm
    go_enter Tryz.func64, Tryz.ntmps64
    go_wp2_with (first
      | (go_at_call 94; rw [← HW.out]; (with_reducible refine (r1_words m hmb _).mono ?_); rintro e w1 ⟨A1, n1, c1, zs, rfl, hw1, rfl, hE1⟩)
      | (go_at_call 93; (with_reducible refine (r1_signed_z (by assumption) Hfin.out).mono ?_); rintro e w2 ⟨v2, rfl, ⟨A2, n2, c2, rfl, hw2⟩, hb2⟩; have hE2 := Ext.more hE1 hb2; have su0 := kc cr0 hE2; have su1 := kc cr1 hE2; have sf0 := kf cr0 fr0 hE2; have sf1 := kf cr1 fr1 hE2))
    exact bodyPost_ret (v := .agg #[.bool false, .slice A2 n2 c2]) (by simp [results, Tryz.results64, go_sem, su0, su1]) rfl (fin_intb ed su0 su1 hw2 (hbW.trans hE2) (Nat.le_refl _))
end Go.Proofs.YtmpadildchphgaaGreatDoor
namespace Go.Proofs.YtmpadildchphgaaGreatDoor
open Go.RowKit
theorem or_word (a x : Nat) (ha : a < 4294967296) (hx : x < 4294967296) : bits BinOp.or IntKind.u64 ((a : Int) * 4294967296) (x : Int) = ((a * 4294967296 + x : Nat) : Int) := by
  have e : (a : Int) * 4294967296 = ((a * 4294967296 : Nat) : Int) := by omega
  rw [e, u64_or_nat _ _ (by omega) (by omega)]
  congr 1
  have h := Nat.shiftLeft_add_eq_or_of_lt (i := 32) (b := x) (Nat.lt_of_lt_of_eq hx (by decide)) a
  rw [Nat.shiftLeft_eq] at h
  exact h.symm
set_option maxHeartbeats 400000 in
theorem r1_short (A : Option Addr) (n c : Nat) (xs : List Nat) (w : World) (hx : Wrd w A n c xs) (hn : n ≤ 2) :
    Calls Tryz.prog 132 #[.slice A n c] w fun e w' => e = .returned (.int .u64 (val xs)) ∧ w = w' := by
  have Hx := Lib.hid hx
  clear hx
  go_enter Tryz.func132, Tryz.ntmps132
  go_wp2
  go_loop [3, 4] (fun a i => ∃ (k acc : Nat), k ≤ n ∧ i = .int .i64 ((k : Int) - 1) ∧ a = .int .u64 acc ∧ acc = val (xs.drop k) ∧ acc < 4294967296 ^ (n - k)) (fun _ i => (intOf i + 1).toNat)
  case atStart => exact ⟨n, 0, Nat.le_refl _, rfl, rfl, by rw [List.drop_of_length_le (by rw [Hx.out.len]; exact Nat.le_refl _)]; rfl, Nat.pow_pos (by omega)⟩
  case round =>
    obtain ⟨k, acc, hk, rfl, rfl, ha, hab⟩ := hrel
    by_cases h0 : 0 < k
    · obtain ⟨b1, o1, rfl, _, hc1⟩ := Hx.out.at (by omega)
      have hc1 := hc1 (k - 1) (by omega)
      have g1 : (0 : Int) ≤ (k : Int) - 1 := by omega
      have g2 : (k : Int) - 1 < n := by omega
      have hx1 := Hx.out.wd.getD (k - 1)
      generalize hxx : xs.getD (k - 1) 0 = x at hc1 hx1
      have hacc : acc < 4294967296 := by
        have : 4294967296 ^ (n - k) ≤ 4294967296 ^ 1 := Nat.pow_le_pow_right (by omega) (by omega)
        omega
      have Hxx := Lib.hid hxx
      have Ha := Lib.hid ha
      have Hab := Lib.hid hab
      clear hxx ha hab
      go_wp2
      go_round
      case rel =>
        rw [or_word acc x hacc hx1]
        refine ⟨k - 1, acc * 4294967296 + x, by omega, by go_num, rfl, ?_, ?_⟩
        · rw [drop_step xs k h0 (by rw [Hx.out.len]; exact hk), Hxx.out]; simp only [val]; rw [← Ha.out]; omega
        · have e : n - (k - 1) = (n - k) + 1 := by omega
          rw [e, pow_succ_B]
          have := Hab.out
          omega
      case measure => simp [intOf]; omega
    · have hk0 : k = 0 := by omega
      subst hk0
      have Ha := Lib.hid ha
      clear ha hab
      go_wp2
      go_ret
      exact ⟨by rw [show val xs = acc from Ha.out.symm]; rfl, rfl⟩
end Go.Proofs.YtmpadildchphgaaGreatDoor
namespace Go.Proofs.YtmpadildchphgaaGreatDoor
open Go.RowKit Go.Shelf
attribute [local go_sem] Oper.semAt_some
def upto {α : Type} (f : Nat → α) (k : Nat) : List α := (List.range k).map f
theorem upto_succ {α : Type} (f : Nat → α) (k : Nat) : upto f (k + 1) = upto f k ++ [f k] := by simp [upto, List.range_succ]
theorem upto_length {α : Type} (f : Nat → α) (k : Nat) : (upto f k).length = k := by simp [upto]
def backAt (xs : List Nat) (j : Nat) : Nat × Nat := (xs.length - 1 - j, xs.getD (xs.length - 1 - j) 0)
abbrev encsB (x : Nat × Nat) : Array Value := #[.int .i64 (x.1 : Int), W32 (x.2 % 4294967296)]
def KB (n₀ Bs : Nat) (A B : World) : Prop := Below n₀ A B ∧ B.heap[Bs]? = A.heap[Bs]?
theorem KB.refl (n₀ Bs : Nat) (A : World) : KB n₀ Bs A A := ⟨Below.refl _ _, rfl⟩
theorem KB.trans {n₀ Bs : Nat} {A B C : World} (h : KB n₀ Bs A B) (k : KB n₀ Bs B C) : KB n₀ Bs A C := ⟨h.1.trans k.1, k.2.trans h.2⟩
theorem KB.put {n₀ Bs : Nat} {w : World} (hn : n₀ ≤ w.heap.size) (hB : Bs < w.heap.size) (W : World) (l : Nat) (o o' : Obj) (hl : w.heap.size ≤ l) (h : W.heap[l]? = some o) (h1 : o.isCells = false) (h2 : o.isWalk = false) : KB n₀ Bs W (W.putObj l o') :=
  ⟨belowK_b hn W l o o' hl h h1 h2, World.putObj_heap_other (by omega)⟩
theorem KB.cell {n₀ Bs : Nat} {A B : World} (h : KB n₀ Bs A B) (i : Nat) : B.cell? ⟨Bs, i, none⟩ = A.cell? ⟨Bs, i, none⟩ := World.cell?_of_block (a := ⟨Bs, i, none⟩) h.2
set_option maxRecDepth 100000 in
set_option maxHeartbeats 2000000 in
theorem back1_in (F : Fence) (n : Nat) (h8 : F.fn 141) (hro : F.round = none) (hn : 1 ≤ n) (l Bs : Nat) (A : Option Addr) (len cap : Nat) (xs : List Nat) (w : World) (hx : Wrd w A len cap xs) (J Jx : List (Nat × Nat) → World → Prop)
    (hY : ∀ pre x W, J pre W → pre.length < len → YieldAt F (n - 1) Tryz.prog l (encsB x) W fun e W' =>
      (e = .returned (.bool true) ∧ J (pre ++ [x]) W' ∧ KB w.heap.size Bs W W') ∨ (e = .returned (.bool false) ∧ Jx (pre ++ [x]) W'))
    (W : World) (hbW : Ext w W) (hBs : W.cell? ⟨Bs, 0, none⟩ = some (.slice A len cap)) (h0 : J [] W) :
    CallsIn F n Tryz.prog 141 #[.func (.yield l) #[] #[], .pointer (some ⟨Bs, 0, none⟩)] W fun e W' => (∃ v, e = .returned v) ∧
      ((∃ ys, ys = upto (backAt xs) len ∧ J ys W') ∨ (∃ pre, True ∧ Jx pre W')) := by
  have hcap := hx.cap
  have hlim := hx.lim
  have hlen := hx.len
  have hwd := hx.wd
  have Hx := Lib.hid hx
  have Hlen := Lib.hid hlen
  have Hwd := Lib.hid hwd
  clear hx hlen hwd
  refine callsIn_of_wp Tryz.func141 rfl h8 ?_ hro
  simp only [Tryz.ntmps141, List.size_toArray, List.length_cons, List.length_nil, Nat.reduceAdd, Nat.reduceSub, Array.replicate_succ, Array.replicate_zero, List.push_toArray, List.append_toArray, List.nil_append, List.cons_append]
  gi_wp2
  gi_loopw [3] (fun i wr => ∃ k : Nat, k ≤ len ∧ i = .int .i64 ((len : Int) - 1 - k) ∧ J (upto (backAt xs) k) wr ∧ KB w.heap.size Bs W wr)
    (fun i _ => (intOf i + 1).toNat)
  case atStart => exact ⟨0, Nat.zero_le _, by go_num, h0, KB.refl _ _ _⟩
  case round =>
    obtain ⟨k, hk, rfl, hJs, hnx⟩ := hrel
    have hcs := (hnx.cell 0).trans hBs
    by_cases hlt : k < len
    · obtain ⟨b, off, rfl, hb, hc⟩ := Hx.out.at (by omega)
      have hcx := (hnx.1.cell (p := ⟨b, off + (len - 1 - k), none⟩) hb).trans ((hbW.cell (p := ⟨b, off + (len - 1 - k), none⟩) hb).trans (hc (len - 1 - k) (by omega)))
      obtain ⟨fn, tmps, assign, body, hy, hR⟩ := hY _ (backAt xs k) wr hJs (by rw [upto_length]; exact hlt)
      have e1 : backAt xs k = (len - 1 - k, xs.getD (len - 1 - k) 0) := by unfold backAt; rw [Hlen.out]
      rw [e1] at hy
      have e2 : ((len - 1 - k : Nat) : Int) = (len : Int) - 1 - k := by omega
      dsimp only [encsB] at hy
      rw [e2] at hy
      obtain ⟨x, hxx⟩ : ∃ x, x = xs.getD (len - 1 - k) 0 := ⟨_, rfl⟩
      rw [← hxx] at hy hcx
      rw [Nat.mod_eq_of_lt (by rw [hxx]; exact Hwd.out.getD _)] at hy
      have g1 : (0 : Int) ≤ (len : Int) - 1 - k := by omega
      have g2 : (len : Int) - 1 - k < len := by omega
      have g3 : ((len : Int) - 1 - k).toNat = len - 1 - k := by omega
      clear e1 e2 hc
      have Hxx := Lib.hid hxx
      clear hxx
      gi_wp2
      refine hR.mono ?_
      rintro e W3 (⟨rfl, hJ3, hk3⟩ | ⟨rfl, hJx3⟩)
      · gi_wp2
        go_roundw
        case rel => exact ⟨k + 1, by omega, by go_num, by rw [upto_succ]; exact hJ3, hnx.trans hk3⟩
        case measure => simp [intOf]; omega
      · gi_wp2
        refine bodyPost_ret (results_none rfl _ _ _) rfl ?_
        exact ⟨⟨_, rfl⟩, .inr ⟨_, trivial, hJx3⟩⟩
    · obtain rfl : k = len := by omega
      have g1 : ¬ ((k : Int) ≤ (k : Int) - 1) := by omega
      gi_wp2
      go_end0
      first | exact ⟨⟨_, rfl⟩, .inl ⟨_, rfl, hJs⟩⟩ | exact ⟨⟨_, rfl⟩, .inl hJs⟩
set_option maxHeartbeats 1000000 in
theorem backward_in (F : Fence) (n : Nat) (h5 : F.fn 120) (hro : F.round = none) (a : Option Addr) (len cap : Nat) (w : World) :
    CallsIn F n Tryz.prog 120 #[.slice a len cap] w fun e w' => e = .returned (.func (.func 141) #[] #[.pointer (some ⟨w.heap.size, 0, none⟩)]) ∧ w' = w.alloc (.cells #[.slice a len cap] 22) := by
  refine callsIn_of_wp Tryz.func120 rfl h5 ?_ hro
  simp only [Tryz.ntmps120, List.size_toArray, List.length_cons, List.length_nil, Nat.reduceAdd, Nat.reduceSub, Array.replicate_succ, Array.replicate_zero, List.push_toArray, List.append_toArray, List.nil_append, List.cons_append]
  gi_wp2
  go_ret
  exact ⟨rfl, rfl⟩
theorem back_stops (F : Fence) (n : Nat) (h8 : F.fn 141) (hro : F.round = none) (hn : 1 ≤ n) (Bs : Nat) (A : Option Addr) (len cap : Nat) (xs : List Nat) (w0 w : World) (hx : Wrd w0 A len cap xs) (h0 : Ext w0 w) (hBs : Bs < w.heap.size) (hc : w.cell? ⟨Bs, 0, none⟩ = some (.slice A len cap)) :
    SeqStopsK F n Tryz.prog 141 #[.pointer (some ⟨Bs, 0, none⟩)] encsB (KB w0.heap.size Bs) (fun ys => ys = upto (backAt xs) len) (fun _ => True) len w := fun l J Jx W hW _ _ hY hJ0 =>
  back1_in F n h8 hro hn l Bs A len cap xs w0 hx J Jx hY W (h0.more hW) ((hW.cell (p := ⟨Bs, 0, none⟩) hBs).trans hc) hJ0
def accB (l : List (Nat × Nat)) : Nat := l.foldl (fun a p => a * 4294967296 + p.2 % 4294967296) 0
theorem accB_snoc (l : List (Nat × Nat)) (p : Nat × Nat) : accB (l ++ [p]) = accB l * 4294967296 + p.2 % 4294967296 := by unfold accB; simp
theorem accB_one (l : List (Nat × Nat)) (h : l.length < 2) : accB l < 4294967296 := by
  match l, h with
  | [], _ => simp [accB]
  | [p], _ => simp [accB]; omega
theorem accB_upto {xs : List Nat} (hw : Wd xs) (k : Nat) (hk : k ≤ xs.length) : accB (upto (backAt xs) k) = val (xs.drop (xs.length - k)) := by
  induction k with
  | zero => rw [Nat.sub_zero, List.drop_of_length_le (Nat.le_refl _)]; rfl
  | succ k ih =>
    rw [upto_succ, accB_snoc, ih (by omega)]
    have h := drop_step xs (xs.length - k) (by omega) (by omega)
    rw [show xs.length - (k + 1) = xs.length - k - 1 by omega, h]
    simp only [val]
    have e : (backAt xs k).2 = xs.getD (xs.length - k - 1) 0 := by
      unfold backAt; dsimp only; rw [show xs.length - 1 - k = xs.length - k - 1 by omega]
    rw [e, Nat.mod_eq_of_lt (hw.getD _)]
    omega
set_option maxRecDepth 100000 in
set_option maxHeartbeats 2000000 in
theorem toUint_in (F : Fence) (n : Nat) (h3 : F.fn 130) (h5 : F.fn 120) (h7 : F.fn 141) (hro : F.round = none) (hn : 3 ≤ n) (A : Option Addr) (len cap : Nat) (xs : List Nat) (w : World) (hx : Wrd w A len cap xs) (hl2 : len ≤ 2) :
    CallsIn F n Tryz.prog 130 #[.slice A len cap] w fun e W' => e = .returned (.int .u64 (val xs : Int)) ∧ Below w.heap.size w W' := by
  have h1 : 1 ≤ n := by omega
  have hlen := hx.len
  have hwd := hx.wd
  have Hx := Lib.hid hx
  have Hlen := Lib.hid hlen
  have Hwd := Lib.hid hwd
  clear hx hlen hwd
  refine callsIn_of_wp_marks Tryz.func130 rfl h3 ?_ hro
  simp only [Tryz.ntmps130, List.size_toArray, List.length_cons, List.length_nil, Nat.reduceAdd, Nat.reduceSub, Array.replicate_succ, Array.replicate_zero, List.push_toArray, List.append_toArray, List.nil_append, List.cons_append]
  gi_wp2_with (gi_at_call 120; refine (backward_in F (n - 1) h5 hro _ _ _ _).mono ?_; rintro e w' ⟨rfl, rfl⟩)
  have bS := Boxed.new w 98 (.int .u64 0)
  have bN := Boxed.new (w.alloc (.cells #[.int .u64 0] 98)) 22 (.slice A len cap)
  rw [World.size_alloc] at bN
  have hB0 : Below w.heap.size w ((w.alloc (.cells #[.int .u64 0] 98)).alloc (.cells #[.slice A len cap] 22)) := ((Below.refl _ w).alloc (Nat.le_refl _) _).alloc (by simp) _
  refine wpIn_rangeFunc_ownG hro h1 (gf := 141) (lb := #[.pointer (some ⟨w.heap.size + 1, 0, none⟩)]) rfl h7 (enters_of Tryz.func141 (by kernel_rfl) rfl)
    (back_stops F (n - 1) h7 hro (by omega) (w.heap.size + 1) A len cap xs w _ Hx.out hB0 (by simp) bN.cell) (fun h k => KB.trans h k) (KB.put (by simp; omega) (by simp)) (Below.refl _ _) (fun _ => rfl)
    (fun pre W => (W.cell? ⟨w.heap.size, 0, none⟩ = some (.int .u64 (accB pre : Int)) ∧ W.frozen? ⟨w.heap.size, 0, none⟩ = false) ∧ Below w.heap.size w W)
    (fun _ _ _ => False)
    (OwnFrom.and (Own.from (fun s A B row hs hg hr => ⟨cell_kept hs.1 hg hr, (frozen_kept hs.1 hg hr).trans hs.2⟩) _) (ownFrom_below (Nat.le_refl _) (by simp; omega)))
    (fun _ _ _ _ _ hs _ _ => hs)
    ⟨⟨(bS.alloc (.cells #[.slice A len cap] 22)).cell, (bS.alloc _).frozen⟩, hB0⟩
    (fun x => { tmps := #[.slice A len cap, undef, .int .u64 0, .pointer (some ⟨w.heap.size, 0, none⟩), undef, W32 (x.2 % 4294967296), .slice A len cap, .func (.func 141) #[] #[.pointer (some ⟨w.heap.size + 1, 0, none⟩)], .int .i64 (x.1 : Int), W32 (x.2 % 4294967296), undef, undef, undef, undef, undef, undef], defers := [] }) ?assign ?body ?done ?stop
  case assign =>
    intro l x W K hK
    gi_wp2
    exact hK
  case body =>
    rintro l pre x W ⟨⟨hc, hf⟩, hB⟩ hlt
    have ha := accB_one pre (by omega)
    have hb : x.2 % 4294967296 < 4294967296 := Nat.mod_lt _ (by decide)
    have hs := accB_snoc pre x
    generalize x.2 % 4294967296 = y at *
    generalize accB pre = a at *
    have Hs := Lib.hid hs
    clear hs
    gi_wp2
    exact ⟨(KeepsOthers.setCell _ _ _).from _, ⟨(Below.refl w.heap.size W).setCell (p := ⟨w.heap.size, 0, none⟩) (Nat.le_refl _) _, Below.heap_setCell _ _ _ _ (by simp)⟩, ⟨by rw [World.cell?_setCell_same' _ _ _ (by rw [hc]; rfl), or_word a y ha hb, Hs.out], by rw [World.frozen?_setCell]; exact hf⟩, hB.setCell (p := ⟨w.heap.size, 0, none⟩) (Nat.le_refl _) _⟩
  case done =>
    rintro D ys W hD rfl ⟨⟨hc, _⟩, hB⟩ hK
    have he := accB_upto Hwd.out len (by rw [Hlen.out]; exact Nat.le_refl _)
    rw [Hlen.out, Nat.sub_self, List.drop_zero] at he
    gi_wp2
    refine ⟨by simp, .inl ⟨_, _, rfl, run_takeDeferred hK, ?_⟩⟩
    refine ⟨_, results_tmp rfl _ _ _, ?_, ?_⟩
    · rfl
    · exact hB.trans (belowK_b (w := w) (Nat.le_refl _) W D _ _ (by simp at hD; omega) hK rfl rfl)
  case stop =>
    rintro D c pre W _ _ h _
    exact h.elim
theorem i_toUint (A : Option Addr) (len cap : Nat) (xs : List Nat) (w : World) (hx : Wrd w A len cap xs) (hl2 : len ≤ 2) :
    Calls Tryz.prog 130 #[.slice A len cap] w fun e W' => e = .returned (.int .u64 (val xs : Int)) ∧ Below w.heap.size w W' :=
  callsIn_wide.1 (toUint_in Fence.wide 3 trivial trivial trivial rfl (Nat.le_refl _) A len cap xs w hx hl2)
end Go.Proofs.YtmpadildchphgaaGreatDoor
