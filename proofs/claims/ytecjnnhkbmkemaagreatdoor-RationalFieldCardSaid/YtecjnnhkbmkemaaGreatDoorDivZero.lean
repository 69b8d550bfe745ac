/- DivMod of the program and of the reference, where the divisor is zero. -/
import Derived.Test.YtecjnnhkbmkemaaGreatDoorRDivMod
namespace Go.Proofs.YtecjnnhkbmkemaaGreatDoor
open Go.RowKit
attribute [local go_sem ↓] Go.wp_at_zero Go.wp_at_succ

/-- what DivMod gives at a divisor of zero -/
def RetDZ (w : World) (e : Ending) (w' : World) : Prop := ∃ v1 v2, e = .returned (.tuple #[v1, v2, .int .i64 6]) ∧ IntV w' v1 0 ∧ IntV w' v2 0 ∧ Below w.heap.size w w'

set_option maxHeartbeats 1600000 in
theorem i_DivMod_zero (va vb : Value) (na nb : Bool) (xs ys : List Nat) (w : World) (ha : IntR w va na xs) (hb : IntR w vb nb ys) (hy0 : val ys = 0) :
    Calls Tryz.prog 53 #[va, vb] w (RetDZ w) := by
  obtain ⟨A, n, c, rfl, hx⟩ := ha
  obtain ⟨B, m, d, rfl, hy⟩ := hb
  obtain ⟨W, hW⟩ : ∃ W, W = (((w.alloc (.cells #[.bool na, .slice A n c] 24)).alloc (.cells #[.bool nb, .slice B m d] 24)).alloc (.cells #[.bool false, .slice none 0 0] 24)).alloc (.cells #[.bool false, .slice none 0 0] 24) := ⟨_, rfl⟩
  obtain ⟨⟨ca0, ca1, cb0, cb1⟩, ⟨cq0, cq1, fq0, fq1⟩, ⟨cr0, cr1, fr0, fr1⟩, hbW⟩ := four_boxes w _ _ _ _ _ _ _ _ _ W hW
  have hyl : (trim ys).length = 0 := by unfold trim; rw [hy0, digs_zero]; rfl
  have Hx := Lib.hid (hx.ext hbW)
  have Hy := Lib.hid (hy.ext hbW)
  have Hyl := Lib.hid hyl
  clear hx hy hyl hy0
  go_enter Tryz.func53, Tryz.ntmps53
  go_wp2_with fail
  rw [← hW]
  clear hW
  go_wp2_with (first
    | (go_at_call 88; (with_reducible refine (i_trim B m d ys _ Hy.out).mono ?_); rw [Hyl.out]; rintro e w' ⟨rfl, rfl⟩)
    | (go_at_call 88; (with_reducible refine (i_trim A n c xs _ Hx.out).mono ?_); rintro e w' ⟨rfl, rfl⟩))
  exact bodyPost_ret (v := .tuple #[.agg #[.bool false, .slice none 0 0], .agg #[.bool false, .slice none 0 0], .int .i64 6]) (by simp [results, Tryz.results53, go_sem, cq0, cq1, cr0, cr1]) rfl ⟨_, _, rfl, intV_zero _, intV_zero _, by first | exact hbW | exact (hbW.set2 (by omega) _ _).set2 (by omega) _ _⟩

set_option maxRecDepth 100000 in
set_option maxHeartbeats 4000000 in
theorem r1_DivMod_zero (va vb : Value) (na nb : Bool) (xs ys : List Nat) (w : World) (ha : IntR w va na xs) (hb : IntR w vb nb ys) (hy0 : toZ nb ys = 0) :
    Calls Tryz.prog 93 #[va, vb] w (RetDZ w) := by
  obtain ⟨A, n, c, rfl, hx⟩ := ha
  obtain ⟨B, m, d, rfl, hy⟩ := hb
  obtain ⟨W, hW⟩ : ∃ W, W = (((w.alloc (.cells #[.bool na, .slice A n c] 24)).alloc (.cells #[.bool nb, .slice B m d] 24)).alloc (.cells #[.bool false, .slice none 0 0] 24)).alloc (.cells #[.bool false, .slice none 0 0] 24) := ⟨_, rfl⟩
  obtain ⟨hB, hbW0⟩ := two_boxesB w _ _ _ _ _ _ _ _ rfl
  have hB' := hW ▸ keepB6 hB (below_alloc _ (.cells #[.bool false, .slice none 0 0] 24))
  have hbW : Ext w W := by rw [hW]; exact hbW0.alloc _
  obtain ⟨-, -, ⟨cs0, cs1, fs0, fs1⟩, -⟩ := four_boxes w _ _ _ _ _ _ _ _ _ W hW
  have hS4 : Slot W.drew (w.heap.size + 1 + 1 + 1) := Slot.mk cs0 cs1 fs0 fs1
  have hw : Ext w W.drew := hbW.drew
  have hB0 := keepB6 hB' (Ext.refl W).drew
  have Hx := Lib.hid hx
  have Hy := Lib.hid hy
  have Hy0 := Lib.hid hy0
  clear hB hB' hbW0 hbW cs0 cs1 fs0 fs1 hx hy hy0
  go_enter Tryz.func93, Tryz.ntmps93
  go_wp2_with fail
  rw [← hW]
  clear hW
  go_cut [9] (fun _ wx => NormTwo w (toZ na xs) (toZ nb ys) wx ∧ Slot wx (w.heap.size + 1 + 1 + 1))
  case first =>
   go_region_with (first
    | ((go_at_call 35; ((with_reducible refine (r1_Norm _ na xs _ (intR_ext Hx.out (by assumption))).mono ?_); rintro e w1 ⟨v1, rfl, ⟨A1, n1, c1, rfl, hw1⟩, hb1⟩; have hB1 := keepB6 (by assumption) hb1; have hE1 := Ext.more (by assumption) hb1; have hS1 := Slot.below (by assumption) hb1)))
    | ((go_at_call 35; (with_reducible refine (r1_Norm _ nb ys _ (intR_ext Hy.out (by assumption))).mono ?_); rintro e w2 ⟨v2, rfl, ⟨A2, n2, c2, rfl, hw2⟩, hb2⟩; have hB2 := keepB6 (by assumption) hb2; have hE2 := Ext.more (by assumption) hb2; have hS2 := Slot.below (by assumption) hb2)))
   all_goals (go_wp2_with fail; go_meet; refine ⟨?_, (Slot.far (by assumption) (by omega) _ _).far (by omega) _ _⟩; first | exact norm_two (by assumption) (Wrd.below (by assumption) (by assumption)) (by assumption) (by assumption) | exact norm_two (by assumption) (by assumption) (Wrd.below (by assumption) (by assumption)) (by assumption))
  case rest =>
    obtain ⟨hcut, hS4⟩ := hcut
    obtain ⟨A1, n1, c1, B1, m1, d1, ⟨e1, e2, e3, e4, hE⟩, ⟨cr0, cr1, fr0, fr1⟩, hx1, hy1⟩ := normTwo_open hcut rfl rfl
    obtain rfl : m1 = 0 := len_zero hy1 (by rw [Hy0.out]; rfl)
    obtain ⟨u0, u1, k0, k1, k2, k3⟩ : ∃ u0 u1 : Value, wc.cell? ⟨w.heap.size + 1 + 1 + 1, 0, none⟩ = some u0 ∧ wc.cell? ⟨w.heap.size + 1 + 1 + 1, 1, none⟩ = some u1 ∧ wc.frozen? ⟨w.heap.size + 1 + 1 + 1, 0, none⟩ = false ∧ wc.frozen? ⟨w.heap.size + 1 + 1 + 1, 1, none⟩ = false := by
      obtain ⟨u0, u1, h0, h1, f0, f1, -, -⟩ := hS4
      exact ⟨u0, u1, h0, h1, f0, f1⟩
    have hS3 : Slot wc (w.heap.size + 1 + 1) := Slot.mk cr0 cr1 fr0 fr1
    have HE := Lib.hid hE
    have Hd := Lib.hid (And.intro hS3 hS4)
    clear hcut hB0 hw hE hS3 hS4 hx1 hy1
    go_wp2_with fail
    exact bodyPost_ret (v := .tuple #[.agg #[.bool false, .slice none 0 0], .agg #[.bool false, .slice none 0 0], .int .i64 6]) (by simp [results, Tryz.results93, go_sem, cr0, cr1, k0, k1]) rfl ⟨_, _, rfl, intV_zero _, intV_zero _, by first | exact HE.out | exact (HE.out.set2 (by omega) _ _).set2 (by omega) _ _⟩

end Go.Proofs.YtecjnnhkbmkemaaGreatDoor
