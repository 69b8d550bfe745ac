/- awake of the laws: the examples of the document are answered as they should be. -/
import Derived.Test.YtecjnnhkbmkemaaDoorAi
namespace Go.Proofs.YtecjnnhkbmkemaaDoor
open Go.RowKit

theorem digs_2e32 : digs 4294967296 = [0, 1] := by
  rw [digs_pos (by decide), digs_pos (by decide), show 4294967296 / 4294967296 / 4294967296 = 0 by decide, digs_zero]
theorem digs_small {n : Nat} (h : n ≠ 0) (h' : n < 4294967296) : digs n = [n] := by
  rw [digs_pos h, Nat.mod_eq_of_lt h', Nat.div_eq_of_lt h', digs_zero]

theorem aw_pow {v : Value} {w : World} (h : IntV w v 2) : Calls Tryd.prog 12 #[v, .int .i64 32] w (RetE 4294967296 0 w) := by
  have h2 : IntR w v false (digs 2) := h
  have := i_Pow v false (digs 2) 32 2 w h2 (by omega) (by omega) (by rw [val_digs]; decide) (by rw [digs_small (by decide) (by decide)]; decide)
  rw [show toZ false (digs 2) = 2 by unfold toZ; rw [val_digs]; rfl] at this
  exact this
theorem aw_div {v1 v2 : Value} {a b q r : Int} {w : World} (h1 : IntV w v1 a) (h2 : IntV w v2 b) (ha : a.natAbs < 18446744073709551616) (hb : 0 < b.natAbs) (hb' : b.natAbs < 18446744073709551616) (hq : a.fdiv b = q) (hr : a.fmod b = r) :
    Calls Tryd.prog 14 #[v1, v2] w (RetDM q r w) := by
  have l1 := digs_length_le (k := 2) ha
  have l2 := digs_length_le (k := 2) hb'
  have := i_DivMod v1 v2 _ _ _ _ w h1 h2 (by omega) (by omega) (by rw [val_digs, val_digs]; exact divOk_small ha hb) (by rw [val_digs]; omega)
  rw [toZ_int, toZ_int, hq, hr] at this
  exact this
theorem aw_sqrt {v : Value} {w : World} (h : IntV w v 99) : Calls Tryd.prog 15 #[v] w (RetE 9 0 w) := by
  have h2 : IntR w v false (digs 99) := h
  have := i_Sqrt v (digs 99) w h2 (by rw [digs_small (by decide) (by decide)]; decide) (fun b hb => by rw [val_digs]; exact divOk_small (by decide) hb) (by rw [val_digs]; decide)
  rw [val_digs] at this
  refine this.mono ?_
  rintro e w' ⟨r, h1, h2, h3⟩
  have hr : r = 9 := by
    rcases Nat.lt_or_ge r 9 with h | h
    · have : (r + 1) * (r + 1) ≤ 9 * 9 := Nat.mul_le_mul h h
      omega
    · rcases Nat.lt_or_ge 9 r with h' | h'
      · have : 10 * 10 ≤ r * r := Nat.mul_le_mul h' h'
        omega
      · omega
  rw [hr] at h3
  exact h3
theorem aw_same {v1 v2 : Value} {w : World} (h1 : IntV w v1 4294967296) (h2 : IntR w v2 false [0, 1]) : Calls Tryd.prog 10 #[v1, v2] w (RetB true w) := by
  have := l1_same v1 v2 _ _ _ _ w h1 h2
  rw [show sameB (decide ((4294967296 : Int) < 0)) false (digs (4294967296 : Int).natAbs) [0, 1] = true by rw [show (4294967296 : Int).natAbs = 4294967296 from rfl, digs_2e32]; decide] at this
  exact this
theorem aw_is {v : Value} {z : Int} {w : World} (h : IntV w v z) (hlo : -9223372036854775808 ≤ z) (hhi : z < 9223372036854775808) : Calls Tryd.prog 16 #[v, .int .i64 z] w (RetB true w) := by
  have := l1_is v _ _ z w h hlo hhi
  rw [sameB_int, decide_eq_true rfl] at this
  exact this

/-- places that hold integers -/
def Dones (w : World) (L : List (Nat × Int)) : Prop := ∀ p ∈ L, Done w p.1 p.2
theorem Dones.below {w w' : World} {L : List (Nat × Int)} (h : Dones w L) (hb : Below w.heap.size w w') : Dones w' L := fun p hp => (h p hp).below hb
theorem Done.fresh {w : World} {z : Int} {b : Bool} {A : Option Addr} {n c : Nat} (hz : decide (z < 0) = b) (h : Wrd w A n c (digs z.natAbs)) (t : TypeId) : Done (w.alloc (.cells #[.bool b, .slice A n c] t)) w.heap.size z := by
  subst hz
  exact ⟨A, n, c, by simp [go_sem], by simp [go_sem], h.alloc _⟩
theorem Dones.fresh {w : World} {L : List (Nat × Int)} {z : Int} {b : Bool} {A : Option Addr} {n c : Nat} (hL : Dones w L) (hz : decide (z < 0) = b) (h : Wrd w A n c (digs z.natAbs)) (t : TypeId) : Dones (w.alloc (.cells #[.bool b, .slice A n c] t)) ((w.heap.size, z) :: L) := by
  intro p hp
  rcases List.mem_cons.1 hp with rfl | hp
  · exact Done.fresh hz h t
  · exact (hL p hp).below (below_alloc _ _)

theorem wrd_01 (w : World) (t : TypeId) : Wrd (w.alloc (.cells #[.int .u32 0, .int .u32 1] t)) (some ⟨w.heap.size, 0, none⟩) 2 2 [0, 1] := by
  refine ⟨rfl, Nat.le_refl _, by decide, by intro x hx; simp at hx; omega, .inr ⟨_, _, rfl, fun i v hv => ?_⟩, fun h => by cases h⟩
  match i, hv with
  | 0, hv => simp at hv; subst hv; simp [go_sem]
  | 1, hv => simp at hv; subst hv; simp [go_sem]
  | i + 2, hv => simp at hv
theorem IntV.ext {w w' : World} {v : Value} {z : Int} (h : IntV w v z) (hb : Ext w w') : IntV w' v z := h.below hb
theorem Done.open {w : World} {g : Nat} {z : Int} (h : Done w g z) (b : Bool) (hz : decide (z < 0) = b) : ∃ A n c, w.cell? ⟨g, 0, none⟩ = some (.bool b) ∧ w.cell? ⟨g, 1, none⟩ = some (.slice A n c) ∧ IntV w (.agg #[.bool b, .slice A n c]) z := by
  obtain ⟨A, n, c, h0, h1, h2⟩ := h
  subst hz
  exact ⟨A, n, c, h0, h1, intV_mk h2⟩

set_option maxRecDepth 100000 in
set_option maxHeartbeats 4000000 in
theorem l1_awake (w : World) : Calls Tryd.prog 4 #[] w (RetB true w) := by
  have hD : Dones w [] := fun p hp => by cases hp
  have hE : Ext w w := Ext.refl w
  have HD0 := Lib.hid hD
  have HE0 := Lib.hid hE
  clear hD hE
  go_enter Tryd.func4, Tryd.ntmps4
  go_wp2_with fail
  ((with_reducible refine (i_FromInt 2 (by decide) (by decide) _).mono ?_); rintro e w1 ⟨v1, rfl, hv1, hb1⟩; have HV1 := Lib.hid hv1; have HD1 := Lib.hid (HD0.out.below hb1); have HE1 := Lib.hid (HE0.out.more hb1); clear hv1 hb1)
  go_wp2_with fail
  ((with_reducible refine (aw_pow HV1.out).mono ?_); rintro e w2 ⟨v2, rfl, ⟨A2, n2, c2, rfl, hw2⟩, hb2⟩; have HD2 := Lib.hid ((HD1.out.below hb2).fresh rfl hw2 24); have HE2 := Lib.hid ((HE1.out.more hb2).alloc (.cells #[.bool (decide ((4294967296 : Int) < 0)), .slice A2 n2 c2] 24)); clear hw2 hb2)
  go_wp2_with fail
  ((with_reducible refine (i_FromInt (-7) (by decide) (by decide) _).mono ?_); rintro e w3 ⟨v3, rfl, hv, hb⟩; have HV3 := Lib.hid hv; have HD3 := Lib.hid (HD2.out.below hb); have HE3 := Lib.hid (HE2.out.more hb); clear hv hb)
  go_wp2_with fail
  ((with_reducible refine (i_FromInt (2) (by decide) (by decide) _).mono ?_); rintro e w4 ⟨v4, rfl, hv, hb⟩; have HV3b := Lib.hid (IntV.below HV3.out hb); have HV4 := Lib.hid hv; have HD4 := Lib.hid (HD3.out.below hb); have HE4 := Lib.hid (HE3.out.more hb); clear hv hb)
  go_wp2_with fail
  ((with_reducible refine (aw_div (q := -4) (r := 1) HV3b.out HV4.out (by decide) (by decide) (by decide) (by decide) (by decide)).mono ?_); rintro e w5 ⟨v, v', rfl, ⟨A5, n5, c5, rfl, hw⟩, ⟨B5, m5, d5, rfl, hw'⟩, hb⟩; have HD5 := Lib.hid (((HD4.out.below hb).fresh rfl hw 24).fresh rfl (hw'.alloc _) 24); have HE5 := Lib.hid (((HE4.out.more hb).alloc (.cells #[.bool (decide ((-4 : Int) < 0)), .slice A5 n5 c5] 24)).alloc (.cells #[.bool (decide ((1 : Int) < 0)), .slice B5 m5 d5] 24)); clear hw hw' hb)
  go_wp2_with fail
  ((with_reducible refine (i_FromInt (7) (by decide) (by decide) _).mono ?_); rintro e w6 ⟨v6, rfl, hv, hb⟩; have HV6 := Lib.hid hv; have HD6 := Lib.hid (HD5.out.below hb); have HE6 := Lib.hid (HE5.out.more hb); clear hv hb)
  go_wp2_with fail
  ((with_reducible refine (i_FromInt (-2) (by decide) (by decide) _).mono ?_); rintro e w7 ⟨v7, rfl, hv, hb⟩; have HV6b := Lib.hid (IntV.below HV6.out hb); have HV7 := Lib.hid hv; have HD7 := Lib.hid (HD6.out.below hb); have HE7 := Lib.hid (HE6.out.more hb); clear hv hb)
  go_wp2_with fail
  ((with_reducible refine (aw_div (q := -4) (r := -1) HV6b.out HV7.out (by decide) (by decide) (by decide) (by decide) (by decide)).mono ?_); rintro e w8 ⟨v, v', rfl, ⟨A8, n8, c8, rfl, hw⟩, ⟨B8, m8, d8, rfl, hw'⟩, hb⟩; have HD8 := Lib.hid (((HD7.out.below hb).fresh rfl hw 24).fresh rfl (hw'.alloc _) 24); have HE8 := Lib.hid (((HE7.out.more hb).alloc (.cells #[.bool (decide ((-4 : Int) < 0)), .slice A8 n8 c8] 24)).alloc (.cells #[.bool (decide ((-1 : Int) < 0)), .slice B8 m8 d8] 24)); clear hw hw' hb)
  go_wp2_with fail
  ((with_reducible refine (i_FromInt (99) (by decide) (by decide) _).mono ?_); rintro e w9 ⟨v9, rfl, hv, hb⟩; have HV9 := Lib.hid hv; have HD9 := Lib.hid (HD8.out.below hb); have HE9 := Lib.hid (HE8.out.more hb); clear hv hb)
  go_wp2_with fail
  ((with_reducible refine (aw_sqrt HV9.out).mono ?_); rintro e w10 ⟨v, rfl, ⟨A10, n10, c10, rfl, hw⟩, hb⟩; have HD10 := Lib.hid ((HD9.out.below hb).fresh rfl hw 24); have HE10 := Lib.hid ((HE9.out.more hb).alloc (.cells #[.bool (decide ((9 : Int) < 0)), .slice A10 n10 c10] 24)); clear hw hb)
  go_wp2_with fail
  ((with_reducible refine (i_Parse_neg0 _).mono ?_); rintro e w11 ⟨v, rfl, ⟨A11, n11, c11, rfl, hw⟩, hb⟩; have HD11 := Lib.hid ((HD10.out.below hb).fresh rfl hw 24); have HE11 := Lib.hid ((HE10.out.more hb).alloc (.cells #[.bool (decide ((0 : Int) < 0)), .slice A11 n11 c11] 24)); clear hw hb)
  go_wp2_with fail
  ((with_reducible refine (i_Parse_01 _).mono ?_); rintro e w12 ⟨v, rfl, ⟨A12, n12, c12, rfl, hw⟩, hb⟩; have HD12 := Lib.hid ((HD11.out.below hb).fresh rfl hw 24); have HE12 := Lib.hid ((HE11.out.more hb).alloc (.cells #[.bool (decide ((0 : Int) < 0)), .slice A12 n12 c12] 24)); clear hw hb)
  go_upto_region 7 with (fail)
  obtain ⟨W, hW⟩ : ∃ W, W = w12.alloc (.cells #[.bool false, .slice A12 n12 c12] 24) := ⟨_, rfl⟩
  have HDW : Dones W _ := hW ▸ HD12.out
  have HEW : Ext w W := hW ▸ HE12.out
  have hs5 : (w5.alloc (Obj.cells #[Value.bool (decide ((-4 : Int) < 0)), Value.slice A5 n5 c5] 24)).heap.size = w5.heap.size + 1 := by simp
  have hs8 : (w8.alloc (Obj.cells #[Value.bool (decide ((-4 : Int) < 0)), Value.slice A8 n8 c8] 24)).heap.size = w8.heap.size + 1 := by simp
  rw [hs5, hs8] at HDW
  have Hs5 := Lib.hid hs5
  have Hs8 := Lib.hid hs8
  clear hs5 hs8
  obtain ⟨pA, pn, pc, cp0, cp1, hip⟩ := (HDW (w2.heap.size, 4294967296) (by simp)).open false rfl
  obtain ⟨qA, qn, qc, cq0, cq1, hiq⟩ := (HDW (w5.heap.size, -4) (by simp)).open true rfl
  obtain ⟨rA, rn, rc, cr0, cr1, hir⟩ := (HDW (w5.heap.size + 1, 1) (by simp)).open false rfl
  obtain ⟨sA, sn, sc, cs0, cs1, his⟩ := (HDW (w8.heap.size, -4) (by simp)).open true rfl
  obtain ⟨tA, tn, tc, ct0, ct1, hit⟩ := (HDW (w8.heap.size + 1, -1) (by simp)).open true rfl
  obtain ⟨uA, un, uc, cu0, cu1, hiu⟩ := (HDW (w10.heap.size, 9) (by simp)).open false rfl
  rw [← hW]
  clear HDW hW
  go_wp2_with fail
  ((with_reducible refine (aw_same (hip.below (below_alloc _ _)) (intR_mk (wrd_01 _ _))).mono ?_); rintro e x1 ⟨rfl, hb⟩; have hE1 : Ext W x1 := Ext.more ((Ext.refl W).alloc _) hb; have cqa := kc' cq0 hE1; have cqb := kc' cq1 hE1)
  go_wp2_with fail
  ((with_reducible refine (aw_is (z := -4) (IntV.ext hiq hE1) (by decide) (by decide)).mono ?_); rintro e x2 ⟨rfl, hb⟩; have hE2 : Ext W x2 := Ext.more hE1 hb; have cra := kc' cr0 hE2; have crb := kc' cr1 hE2)
  go_wp2_with fail
  ((with_reducible refine (aw_is (z := 1) (IntV.ext hir hE2) (by decide) (by decide)).mono ?_); rintro e x3 ⟨rfl, hb⟩; have hE3 : Ext W x3 := Ext.more hE2 hb; have csa := kc' cs0 hE3; have csb := kc' cs1 hE3)
  go_wp2_with fail
  ((with_reducible refine (aw_is (z := -4) (IntV.ext his hE3) (by decide) (by decide)).mono ?_); rintro e x4 ⟨rfl, hb⟩; have hE4 : Ext W x4 := Ext.more hE3 hb; have cta := kc' ct0 hE4; have ctb := kc' ct1 hE4)
  go_wp2_with fail
  ((with_reducible refine (aw_is (z := -1) (IntV.ext hit hE4) (by decide) (by decide)).mono ?_); rintro e x5 ⟨rfl, hb⟩; have hE5 : Ext W x5 := Ext.more hE4 hb; have cua := kc' cu0 hE5; have cub := kc' cu1 hE5)
  go_wp2_with fail
  ((with_reducible refine (aw_is (z := 9) (IntV.ext hiu hE5) (by decide) (by decide)).mono ?_); rintro e x6 ⟨rfl, hb⟩; have hE6 : Ext W x6 := Ext.more hE5 hb)
  go_wp2_with fail
  go_ret
  exact ⟨rfl, HEW.trans hE6⟩

end Go.Proofs.YtecjnnhkbmkemaaDoor
