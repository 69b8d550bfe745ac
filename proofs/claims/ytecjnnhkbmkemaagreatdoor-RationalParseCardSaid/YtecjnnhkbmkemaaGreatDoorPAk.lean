/- Pow of the reference. Valid, Int64 and Bits of both packages. Int64 of both packages. Bits of the reference. -/
import Derived.Test.YtecjnnhkbmkemaaGreatDoorPAj
namespace Go.Proofs.YtecjnnhkbmkemaaGreatDoor
open Go.RowKit
theorem r1_MulV {va vb : Value} {a b : Int} {w : World} (ha : IntV w va a) (hb : IntV w vb b) (h1 : (digs a.natAbs).length ≤ 2147483648) (h2 : (digs b.natAbs).length ≤ 2147483648) :
    Calls Tryz.prog 59 #[va, vb] w (RetInt (a * b) w) := by
  have := r1_Mul va vb _ _ _ _ w ha hb h1 h2
  rwa [toZ_int, toZ_int] at this
theorem intV_open {w : World} {v : Value} {z : Int} {b : Bool} (h : IntV w v z) (hb : decide (z < 0) = b) : ∃ A n c, v = .agg #[.bool b, .slice A n c] ∧ Wrd w A n c (digs z.natAbs) := by
  obtain ⟨A, n, c, h1, h2⟩ := h
  exact ⟨A, n, c, by rw [h1, hb], h2⟩
theorem intV_of {w : World} {A : Option Addr} {n c : Nat} {z : Int} {b : Bool} (hb : decide (z < 0) = b) (h : Wrd w A n c (digs z.natAbs)) : IntV w (.agg #[.bool b, .slice A n c]) z := ⟨A, n, c, by rw [hb], h⟩
theorem new_box (w : World) (a0 a1 : Value) (t : TypeId) : ((w.alloc (.cells #[a0, a1] t)).cell? ⟨w.heap.size, 0, none⟩ = some a0 ∧ (w.alloc (.cells #[a0, a1] t)).cell? ⟨w.heap.size, 1, none⟩ = some a1) ∧ ((w.alloc (.cells #[a0, a1] t)).frozen? ⟨w.heap.size, 0, none⟩ = false ∧ (w.alloc (.cells #[a0, a1] t)).frozen? ⟨w.heap.size, 1, none⟩ = false) := by
  simp [go_sem]
end Go.Proofs.YtecjnnhkbmkemaaGreatDoor
namespace Go.Proofs.YtecjnnhkbmkemaaGreatDoor
open Go.RowKit
attribute [local go_sem ↓] Go.wp_at_zero Go.wp_at_succ
end Go.Proofs.YtecjnnhkbmkemaaGreatDoor
namespace Go.Proofs.YtecjnnhkbmkemaaGreatDoor
open Go.RowKit
attribute [local go_sem ↓] Go.wp_at_zero Go.wp_at_succ
def RetIB (r : Int) (b : Bool) (w : World) (e : Ending) (w' : World) : Prop := e = .returned (.tuple #[.int .i64 r, .bool b]) ∧ Below w.heap.size w w'
theorem toUint_d {A : Option Addr} {n c : Nat} {u : Nat} (h2 : n ≤ 2) (W : World) (h : Wrd W A n c (digs u)) : Calls Tryz.prog 87 #[.slice A n c] W fun e W' => e = .returned (.int .u64 (u : Int)) ∧ Below W.heap.size W W' := by
  have := i_toUint A n c (digs u) W h h2
  rwa [val_digs] at this
theorem wrap_pos {u : Int} (h : 0 ≤ u ∧ u ≤ 9223372036854775807) : IntKind.i64.wrap u = u := IntWalk.i64_in _ (by omega)
theorem wrap_neg {u : Int} (h : 0 ≤ u ∧ u ≤ 9223372036854775808) : IntKind.i64.wrap (IntKind.u64.wrap (-u)) = -u := by rw [IntKind.wrap_u64, IntKind.wrap_i64]; omega
theorem pos64 {u : Int} (h : 0 ≤ u ∧ u ≤ 9223372036854775807) : wrap64 u = u := by unfold wrap64; omega
theorem neg64' {u : Int} (h : 0 ≤ u ∧ u ≤ 9223372036854775808) : wrap64 (IntKind.u64.wrap (-u)) = -u := by rw [IntKind.wrap_u64]; unfold wrap64; omega
set_option maxRecDepth 100000 in
set_option maxHeartbeats 1600000 in
theorem iInt64_big (A : Option Addr) (n c : Nat) (na b0 : Bool) (xs : List Nat) (u n1 : Nat) (w : World) (hx : Wrd w A n c xs) (_hs : xs.length ≤ 2147483648) (hd : decide (toZ na xs < 0) = b0) (hu0 : (toZ na xs).natAbs = u) (hn1 : (digs u).length = n1) (h2 : 2 < n1) :
    Calls Tryz.prog 51 #[.agg #[.bool na, .slice A n c]] w (RetIB (0) false w) := by
  obtain ⟨W, hW⟩ : ∃ W, W = w.alloc (.cells #[.bool na, .slice A n c] 24) := ⟨_, rfl⟩
  obtain ⟨⟨ca0, ca1⟩, ⟨fa0, fa1⟩, hbW⟩ := box1 w _ _ _ W hW
  have hc := i_Norm _ na xs W (intR_mk (hx.ext hbW)) _hs
  obtain ⟨z, hz⟩ : ∃ z, toZ na xs = z := ⟨_, rfl⟩
  rw [hz] at hc hd hu0
  have Hc := Lib.hid hc
  have Hd := Lib.hid hd
  have Hu0 := Lib.hid hu0
  have Hn1 := Lib.hid hn1
  have t0 : (n1 : Int) > 2 := (by omega); skip
  skip
  clear hx hc hz hd hu0 hn1
  generalize hUU : (u : Int) = U at *
  have HUU := Lib.hid hUU
  clear hUU
  go_enter Tryz.func51, Tryz.ntmps51
  go_wp2_with fail
  rw [← hW]
  clear hW
  ((with_reducible refine Hc.out.mono ?_); rintro e w1 ⟨v1, rfl, hv1, hb1⟩; obtain ⟨A1, k1, c1, rfl, hw1⟩ := intV_open hv1 Hd.out; rw [Hu0.out] at hw1; obtain rfl : k1 = n1 := (hw1.len.symm.trans Hn1.out); have su0 := kc ca0 hb1; have su1 := kc ca1 hb1; have sf0 := kf ca0 fa0 hb1; have sf1 := kf ca1 fa1 hb1; have hE1 : Ext w w1 := hbW.more hb1; have HE1 := Lib.hid (hE1.set2 (r := w.heap.size) (Nat.le_refl _) (.bool b0) (.slice A1 k1 c1)); have HW1 := Lib.hid (hw1.set2 (r := w.heap.size) (Slot.mk su0 su1 sf0 sf1) (.bool b0) (.slice A1 k1 c1)); have HQ := Lib.hid ((Slot.mk su0 su1 sf0 sf1).cells b0 A1 k1 c1); clear hw1 hv1 hb1)
  go_wp2_with fail
  go_wp2_with fail
  go_ret2
  exact ⟨rfl, HE1.out⟩
set_option maxRecDepth 100000 in
set_option maxHeartbeats 1600000 in
theorem iInt64_posok (A : Option Addr) (n c : Nat) (na b0 : Bool) (xs : List Nat) (u n1 : Nat) (w : World) (hx : Wrd w A n c xs) (_hs : xs.length ≤ 2147483648) (hd : decide (toZ na xs < 0) = b0) (hu0 : (toZ na xs).natAbs = u) (hn1 : (digs u).length = n1) (h2 : n1 ≤ 2) (hb : b0 = false) (hu : u ≤ 9223372036854775807) :
    Calls Tryz.prog 51 #[.agg #[.bool na, .slice A n c]] w (RetIB (u) true w) := by
  obtain ⟨W, hW⟩ : ∃ W, W = w.alloc (.cells #[.bool na, .slice A n c] 24) := ⟨_, rfl⟩
  obtain ⟨⟨ca0, ca1⟩, ⟨fa0, fa1⟩, hbW⟩ := box1 w _ _ _ W hW
  have hc := i_Norm _ na xs W (intR_mk (hx.ext hbW)) _hs
  obtain ⟨z, hz⟩ : ∃ z, toZ na xs = z := ⟨_, rfl⟩
  rw [hz] at hc hd hu0
  have Hc := Lib.hid hc
  have Hd := Lib.hid hd
  have Hu0 := Lib.hid hu0
  have Hn1 := Lib.hid hn1
  have t1 : (u : Int) ≤ 9223372036854775807 := (by omega); have t0 : ¬ (n1 : Int) > 2 := (by omega); subst hb; have Hu := Lib.hid hu; clear hu
  have HU : Hid (∀ {A' : Option Addr} {c' : Nat} (W' : World), Wrd W' A' n1 c' (digs u) → _) := Lib.hid (fun W' h => toUint_d h2 W' h)
  clear hx hc hz hd hu0 hn1
  generalize hUU : (u : Int) = U at *
  have HUU := Lib.hid hUU
  clear hUU
  go_enter Tryz.func51, Tryz.ntmps51
  go_wp2_with fail
  rw [← hW]
  clear hW
  ((with_reducible refine Hc.out.mono ?_); rintro e w1 ⟨v1, rfl, hv1, hb1⟩; obtain ⟨A1, k1, c1, rfl, hw1⟩ := intV_open hv1 Hd.out; rw [Hu0.out] at hw1; obtain rfl : k1 = n1 := (hw1.len.symm.trans Hn1.out); have su0 := kc ca0 hb1; have su1 := kc ca1 hb1; have sf0 := kf ca0 fa0 hb1; have sf1 := kf ca1 fa1 hb1; have hE1 : Ext w w1 := hbW.more hb1; have HE1 := Lib.hid (hE1.set2 (r := w.heap.size) (Nat.le_refl _) (.bool false) (.slice A1 k1 c1)); have HW1 := Lib.hid (hw1.set2 (r := w.heap.size) (Slot.mk su0 su1 sf0 sf1) (.bool false) (.slice A1 k1 c1)); have HQ := Lib.hid ((Slot.mk su0 su1 sf0 sf1).cells false A1 k1 c1); clear hw1 hv1 hb1)
  go_wp2_with fail; (go_at_call 87; (with_reducible refine (HU.out _ HW1.out).mono ?_); rintro e w3 ⟨rfl, hb3⟩; obtain ⟨q0, q1⟩ := HQ.out; have p0 := kc q0 hb3; have p1 := kc q1 hb3)
  go_wp2_with fail
  go_ret2
  exact ⟨ret_v (by have hu := Hu.out; have hUU := HUU.out; first | (show Value.tuple #[.int .i64 (wrap64 U), .bool true] = _; rw [pos64 (by omega)]) | rw [wrap_pos (by omega)]), (HE1.out.more hb3)⟩
set_option maxRecDepth 100000 in
set_option maxHeartbeats 1600000 in
theorem iInt64_posbad (A : Option Addr) (n c : Nat) (na b0 : Bool) (xs : List Nat) (u n1 : Nat) (w : World) (hx : Wrd w A n c xs) (_hs : xs.length ≤ 2147483648) (hd : decide (toZ na xs < 0) = b0) (hu0 : (toZ na xs).natAbs = u) (hn1 : (digs u).length = n1) (h2 : n1 ≤ 2) (hb : b0 = false) (hu : 9223372036854775807 < u) :
    Calls Tryz.prog 51 #[.agg #[.bool na, .slice A n c]] w (RetIB (0) false w) := by
  obtain ⟨W, hW⟩ : ∃ W, W = w.alloc (.cells #[.bool na, .slice A n c] 24) := ⟨_, rfl⟩
  obtain ⟨⟨ca0, ca1⟩, ⟨fa0, fa1⟩, hbW⟩ := box1 w _ _ _ W hW
  have hc := i_Norm _ na xs W (intR_mk (hx.ext hbW)) _hs
  obtain ⟨z, hz⟩ : ∃ z, toZ na xs = z := ⟨_, rfl⟩
  rw [hz] at hc hd hu0
  have Hc := Lib.hid hc
  have Hd := Lib.hid hd
  have Hu0 := Lib.hid hu0
  have Hn1 := Lib.hid hn1
  have t1 : ¬ (u : Int) ≤ 9223372036854775807 := (by omega); have t0 : ¬ (n1 : Int) > 2 := (by omega); subst hb; have Hu := Lib.hid hu; clear hu
  have HU : Hid (∀ {A' : Option Addr} {c' : Nat} (W' : World), Wrd W' A' n1 c' (digs u) → _) := Lib.hid (fun W' h => toUint_d h2 W' h)
  clear hx hc hz hd hu0 hn1
  generalize hUU : (u : Int) = U at *
  have HUU := Lib.hid hUU
  clear hUU
  go_enter Tryz.func51, Tryz.ntmps51
  go_wp2_with fail
  rw [← hW]
  clear hW
  ((with_reducible refine Hc.out.mono ?_); rintro e w1 ⟨v1, rfl, hv1, hb1⟩; obtain ⟨A1, k1, c1, rfl, hw1⟩ := intV_open hv1 Hd.out; rw [Hu0.out] at hw1; obtain rfl : k1 = n1 := (hw1.len.symm.trans Hn1.out); have su0 := kc ca0 hb1; have su1 := kc ca1 hb1; have sf0 := kf ca0 fa0 hb1; have sf1 := kf ca1 fa1 hb1; have hE1 : Ext w w1 := hbW.more hb1; have HE1 := Lib.hid (hE1.set2 (r := w.heap.size) (Nat.le_refl _) (.bool false) (.slice A1 k1 c1)); have HW1 := Lib.hid (hw1.set2 (r := w.heap.size) (Slot.mk su0 su1 sf0 sf1) (.bool false) (.slice A1 k1 c1)); have HQ := Lib.hid ((Slot.mk su0 su1 sf0 sf1).cells false A1 k1 c1); clear hw1 hv1 hb1)
  go_wp2_with fail; (go_at_call 87; (with_reducible refine (HU.out _ HW1.out).mono ?_); rintro e w3 ⟨rfl, hb3⟩; obtain ⟨q0, q1⟩ := HQ.out; have p0 := kc q0 hb3; have p1 := kc q1 hb3)
  go_wp2_with fail
  go_ret2
  exact ⟨rfl, (HE1.out.more hb3)⟩
set_option maxRecDepth 100000 in
set_option maxHeartbeats 1600000 in
theorem iInt64_negok (A : Option Addr) (n c : Nat) (na b0 : Bool) (xs : List Nat) (u n1 : Nat) (w : World) (hx : Wrd w A n c xs) (_hs : xs.length ≤ 2147483648) (hd : decide (toZ na xs < 0) = b0) (hu0 : (toZ na xs).natAbs = u) (hn1 : (digs u).length = n1) (h2 : n1 ≤ 2) (hb : b0 = true) (hu : u ≤ 9223372036854775808) :
    Calls Tryz.prog 51 #[.agg #[.bool na, .slice A n c]] w (RetIB (-(u : Int)) true w) := by
  obtain ⟨W, hW⟩ : ∃ W, W = w.alloc (.cells #[.bool na, .slice A n c] 24) := ⟨_, rfl⟩
  obtain ⟨⟨ca0, ca1⟩, ⟨fa0, fa1⟩, hbW⟩ := box1 w _ _ _ W hW
  have hc := i_Norm _ na xs W (intR_mk (hx.ext hbW)) _hs
  obtain ⟨z, hz⟩ : ∃ z, toZ na xs = z := ⟨_, rfl⟩
  rw [hz] at hc hd hu0
  have Hc := Lib.hid hc
  have Hd := Lib.hid hd
  have Hu0 := Lib.hid hu0
  have Hn1 := Lib.hid hn1
  have t1 : (u : Int) ≤ 9223372036854775808 := (by omega); have t0 : ¬ (n1 : Int) > 2 := (by omega); subst hb; have Hu := Lib.hid hu; clear hu
  have HU : Hid (∀ {A' : Option Addr} {c' : Nat} (W' : World), Wrd W' A' n1 c' (digs u) → _) := Lib.hid (fun W' h => toUint_d h2 W' h)
  clear hx hc hz hd hu0 hn1
  generalize hUU : (u : Int) = U at *
  have HUU := Lib.hid hUU
  clear hUU
  go_enter Tryz.func51, Tryz.ntmps51
  go_wp2_with fail
  rw [← hW]
  clear hW
  ((with_reducible refine Hc.out.mono ?_); rintro e w1 ⟨v1, rfl, hv1, hb1⟩; obtain ⟨A1, k1, c1, rfl, hw1⟩ := intV_open hv1 Hd.out; rw [Hu0.out] at hw1; obtain rfl : k1 = n1 := (hw1.len.symm.trans Hn1.out); have su0 := kc ca0 hb1; have su1 := kc ca1 hb1; have sf0 := kf ca0 fa0 hb1; have sf1 := kf ca1 fa1 hb1; have hE1 : Ext w w1 := hbW.more hb1; have HE1 := Lib.hid (hE1.set2 (r := w.heap.size) (Nat.le_refl _) (.bool true) (.slice A1 k1 c1)); have HW1 := Lib.hid (hw1.set2 (r := w.heap.size) (Slot.mk su0 su1 sf0 sf1) (.bool true) (.slice A1 k1 c1)); have HQ := Lib.hid ((Slot.mk su0 su1 sf0 sf1).cells true A1 k1 c1); clear hw1 hv1 hb1)
  go_wp2_with fail; (go_at_call 87; (with_reducible refine (HU.out _ HW1.out).mono ?_); rintro e w3 ⟨rfl, hb3⟩; obtain ⟨q0, q1⟩ := HQ.out; have p0 := kc q0 hb3; have p1 := kc q1 hb3)
  go_wp2_with fail
  go_ret2
  exact ⟨ret_v (by have hu := Hu.out; have hUU := HUU.out; first | rw [wrap_neg (by omega)] | (show Value.tuple #[.int .i64 (wrap64 (IntKind.u64.wrap (-U))), .bool true] = _; rw [neg64' (by omega)])), (HE1.out.more hb3)⟩
set_option maxRecDepth 100000 in
set_option maxHeartbeats 1600000 in
theorem iInt64_negbad (A : Option Addr) (n c : Nat) (na b0 : Bool) (xs : List Nat) (u n1 : Nat) (w : World) (hx : Wrd w A n c xs) (_hs : xs.length ≤ 2147483648) (hd : decide (toZ na xs < 0) = b0) (hu0 : (toZ na xs).natAbs = u) (hn1 : (digs u).length = n1) (h2 : n1 ≤ 2) (hb : b0 = true) (hu : 9223372036854775808 < u) :
    Calls Tryz.prog 51 #[.agg #[.bool na, .slice A n c]] w (RetIB (0) false w) := by
  obtain ⟨W, hW⟩ : ∃ W, W = w.alloc (.cells #[.bool na, .slice A n c] 24) := ⟨_, rfl⟩
  obtain ⟨⟨ca0, ca1⟩, ⟨fa0, fa1⟩, hbW⟩ := box1 w _ _ _ W hW
  have hc := i_Norm _ na xs W (intR_mk (hx.ext hbW)) _hs
  obtain ⟨z, hz⟩ : ∃ z, toZ na xs = z := ⟨_, rfl⟩
  rw [hz] at hc hd hu0
  have Hc := Lib.hid hc
  have Hd := Lib.hid hd
  have Hu0 := Lib.hid hu0
  have Hn1 := Lib.hid hn1
  have t1 : ¬ (u : Int) ≤ 9223372036854775808 := (by omega); have t0 : ¬ (n1 : Int) > 2 := (by omega); subst hb; have Hu := Lib.hid hu; clear hu
  have HU : Hid (∀ {A' : Option Addr} {c' : Nat} (W' : World), Wrd W' A' n1 c' (digs u) → _) := Lib.hid (fun W' h => toUint_d h2 W' h)
  clear hx hc hz hd hu0 hn1
  generalize hUU : (u : Int) = U at *
  have HUU := Lib.hid hUU
  clear hUU
  go_enter Tryz.func51, Tryz.ntmps51
  go_wp2_with fail
  rw [← hW]
  clear hW
  ((with_reducible refine Hc.out.mono ?_); rintro e w1 ⟨v1, rfl, hv1, hb1⟩; obtain ⟨A1, k1, c1, rfl, hw1⟩ := intV_open hv1 Hd.out; rw [Hu0.out] at hw1; obtain rfl : k1 = n1 := (hw1.len.symm.trans Hn1.out); have su0 := kc ca0 hb1; have su1 := kc ca1 hb1; have sf0 := kf ca0 fa0 hb1; have sf1 := kf ca1 fa1 hb1; have hE1 : Ext w w1 := hbW.more hb1; have HE1 := Lib.hid (hE1.set2 (r := w.heap.size) (Nat.le_refl _) (.bool true) (.slice A1 k1 c1)); have HW1 := Lib.hid (hw1.set2 (r := w.heap.size) (Slot.mk su0 su1 sf0 sf1) (.bool true) (.slice A1 k1 c1)); have HQ := Lib.hid ((Slot.mk su0 su1 sf0 sf1).cells true A1 k1 c1); clear hw1 hv1 hb1)
  go_wp2_with fail; (go_at_call 87; (with_reducible refine (HU.out _ HW1.out).mono ?_); rintro e w3 ⟨rfl, hb3⟩; obtain ⟨q0, q1⟩ := HQ.out; have p0 := kc q0 hb3; have p1 := kc q1 hb3)
  go_wp2_with fail
  go_ret2
  exact ⟨rfl, (HE1.out.more hb3)⟩
def fit64 (z : Int) : Int × Bool := if -9223372036854775808 ≤ z ∧ z ≤ 9223372036854775807 then (z, true) else (0, false)
theorem iInt64 (va : Value) (na : Bool) (xs : List Nat) (w : World) (ha : IntR w va na xs) (hs : xs.length ≤ 2147483648) :
    Calls Tryz.prog 51 #[va] w (RetIB (fit64 (toZ na xs)).1 (fit64 (toZ na xs)).2 w) := by
  obtain ⟨A, n, c, rfl, hx⟩ := ha
  obtain ⟨z, hz⟩ : ∃ z, toZ na xs = z := ⟨_, rfl⟩
  have big : 2 < (digs z.natAbs).length → 18446744073709551616 ≤ z.natAbs := by
    intro h
    rcases Nat.lt_or_ge z.natAbs 18446744073709551616 with h1 | h1
    · have := digs_length_le (n := z.natAbs) (k := 2) (by omega)
      omega
    · exact h1
  by_cases h2 : 2 < (digs z.natAbs).length
  · have := big h2
    rw [hz, show fit64 z = (0, false) by unfold fit64; rw [if_neg (by omega)]]
    rw [← hz] at h2
    exact iInt64_big A n c na _ xs _ _ w hx hs rfl rfl rfl h2
  · by_cases hn : z < 0
    · by_cases hu : z.natAbs ≤ 9223372036854775808
      · rw [hz, show fit64 z = (-(z.natAbs : Int), true) by unfold fit64; rw [if_pos (by omega)]; congr 1; omega]
        rw [← hz] at h2 hu hn ⊢
        exact iInt64_negok A n c na _ xs _ _ w hx hs rfl rfl rfl (by omega) (decide_eq_true hn) hu
      · rw [hz, show fit64 z = (0, false) by unfold fit64; rw [if_neg (by omega)]]
        rw [← hz] at h2 hu hn
        exact iInt64_negbad A n c na _ xs _ _ w hx hs rfl rfl rfl (by omega) (decide_eq_true hn) (by omega)
    · by_cases hu : z.natAbs ≤ 9223372036854775807
      · rw [hz, show fit64 z = ((z.natAbs : Int), true) by unfold fit64; rw [if_pos (by omega)]; congr 1; omega]
        rw [← hz] at h2 hu hn ⊢
        exact iInt64_posok A n c na _ xs _ _ w hx hs rfl rfl rfl (by omega) (decide_eq_false hn) hu
      · rw [hz, show fit64 z = (0, false) by unfold fit64; rw [if_neg (by omega)]]
        rw [← hz] at h2 hu hn
        exact iInt64_posbad A n c na _ xs _ _ w hx hs rfl rfl rfl (by omega) (decide_eq_false hn) (by omega)
end Go.Proofs.YtecjnnhkbmkemaaGreatDoor
namespace Go.Proofs.YtecjnnhkbmkemaaGreatDoor
open Go.RowKit
theorem bitLen_half {y : Nat} (h : 0 < y) : bitLen y = bitLen (y / 2) + 1 := by
  by_cases h1 : y / 2 = 0
  · have : y = 1 := by omega
    subst this; decide
  · have := bitLen_shift y 1 h1
    simp only [Nat.pow_one] at this
    omega
set_option maxHeartbeats 800000 in
theorem r1_length (A : Option Addr) (n c v : Nat) (w : World) (hx : Wrd w A n c (digs v)) (hs : n ≤ 4294967296) :
    Calls Tryz.prog 127 #[.slice A n c] w fun e w' => e = .returned (.int .i64 (bitLen v : Int)) ∧ w = w' := by
  by_cases h0 : n = 0
  · have hv : v = 0 := by
      have := hx.len
      rw [h0] at this
      exact digs_eq_nil.1 (List.eq_nil_of_length_eq_zero this)
    have hb : bitLen v = 0 := by rw [hv]; rfl
    rw [hb]
    subst h0
    clear hx hv hb
    go_enter Tryz.func127, Tryz.ntmps127
    go_wp2
    go_ret
    exact ⟨rfl, rfl⟩
  · have h0' : ((n : Int) == 0) = false := by simp; omega
    obtain ⟨b1, o1, rfl, _, hc1⟩ := hx.at (by omega)
    have hc2 := hc1 (n - 1) (by omega)
    clear hc1
    have hx1 := hx.wd.getD (n - 1)
    obtain ⟨k, hk⟩ : ∃ k, n = k + 1 := ⟨n - 1, by omega⟩
    have hb := bits_top hx.wd (Nz_digs _) k (by rw [hx.len, hk])
    rw [val_digs] at hb
    rw [show n - 1 = k by omega] at hc2 hx1
    generalize (digs v).getD k 0 = x at hc2 hx1 hb
    have hb32 := bitLen_le32 x hx1
    have Hb := Lib.hid hb.2
    have Hk := Lib.hid hk
    have g1 : (0 : Int) ≤ (n : Int) - 1 := by omega
    have g2 : (n : Int) - 1 < n := by omega
    have hc3 : w.cell? ⟨b1, o1 + (n - 1), none⟩ = some (W32 x) := by rw [show n - 1 = k by omega]; exact hc2
    clear hx hb hk hc2
    go_enter Tryz.func127, Tryz.ntmps127
    go_wp2
    go_loop [3, 4] (fun a i => ∃ (j y : Nat), a = .int .i64 j ∧ i = .int .u32 y ∧ j + bitLen y = bitLen x ∧ y < 4294967296) (fun _ i => (intOf i).toNat)
    case atStart => exact ⟨0, x, rfl, rfl, by omega, hx1⟩
    case round =>
      obtain ⟨j, y, rfl, rfl, hjy, hy⟩ := hrel
      have hj32 : j ≤ 32 := by omega
      by_cases hy0 : 0 < y
      · have hh := bitLen_half hy0
        have t0 : (0 : Int) < y := by omega
        have Hjy := Lib.hid hjy
        have Hh := Lib.hid hh
        clear hjy hh
        go_wp2
        go_round
        case rel => exact ⟨j + 1, y / 2, by go_num, by go_num, by have := Hjy.out; have := Hh.out; omega, by omega⟩
        case measure => simp [intOf]; omega
      · have hy1 : y = 0 := by omega
        subst hy1
        have hj : j = bitLen x := by rw [show bitLen 0 = 0 from rfl] at hjy; omega
        have Hj := Lib.hid hj
        clear hjy hj
        go_wp2
        go_ret
        refine ⟨ret_i ?_, rfl⟩
        have h1 := Hj.out
        have h2 := Hb.out
        have h3 := Hk.out
        first | omega | (rw [IntWalk.i64_in _ (by omega)]; omega) | (rw [wrap64_fit (by omega)]; omega)
end Go.Proofs.YtecjnnhkbmkemaaGreatDoor
