/- Int64 of both packages. -/
import Derived.Test.YtdmijpechdaniaaValid
namespace Go.Proofs.Ytdmijpechdaniaa
open Go.RowKit
attribute [local go_sem ↓] Go.wp_at_zero Go.wp_at_succ

/-- a number, and whether it is one -/
def RetIB (r : Int) (b : Bool) (w : World) (e : Ending) (w' : World) : Prop := e = .returned (.tuple #[.int .i64 r, .bool b]) ∧ Below w.heap.size w w'
theorem toUint_d {A : Option Addr} {n c : Nat} {u : Nat} (h2 : n ≤ 2) (W : World) (h : Wrd W A n c (digs u)) : Calls Try.prog 69 #[.slice A n c] W fun e W' => e = .returned (.int .u64 (u : Int)) ∧ Below W.heap.size W W' := by
  have := i_toUint A n c (digs u) W h h2
  rwa [val_digs] at this
theorem short_d {A : Option Addr} {n c : Nat} {u : Nat} (h2 : n ≤ 2) (W : World) (h : Wrd W A n c (digs u)) : Calls Try.prog 71 #[.slice A n c] W fun e W' => e = .returned (.int .u64 (u : Int)) ∧ W = W' := by
  have := r1_short A n c (digs u) W h h2
  rwa [val_digs] at this
theorem wrap_pos {u : Int} (h : 0 ≤ u ∧ u ≤ 9223372036854775807) : IntKind.i64.wrap u = u := IntWalk.i64_in _ (by omega)
theorem wrap_neg {u : Int} (h : 0 ≤ u ∧ u ≤ 9223372036854775808) : IntKind.i64.wrap (IntKind.u64.wrap (-u)) = -u := by rw [IntKind.wrap_u64, IntKind.wrap_i64]; omega
theorem pos64 {u : Int} (h : 0 ≤ u ∧ u ≤ 9223372036854775807) : wrap64 u = u := by unfold wrap64; omega
theorem neg64 {u : Int} (h : 0 ≤ u ∧ u ≤ 9223372036854775808) : wrap64 (-wrap64 u) = -u := by unfold wrap64; omega
theorem neg64' {u : Int} (h : 0 ≤ u ∧ u ≤ 9223372036854775808) : wrap64 (IntKind.u64.wrap (-u)) = -u := by rw [IntKind.wrap_u64]; unfold wrap64; omega
theorem neg_wrap {u : Int} (h : 0 ≤ u ∧ u ≤ 9223372036854775808) : IntKind.i64.wrap (-IntKind.i64.wrap u) = -u := by rw [IntKind.wrap_i64, IntKind.wrap_i64]; omega

set_option maxRecDepth 100000 in
set_option maxHeartbeats 1600000 in
theorem iInt64_big (A : Option Addr) (n c : Nat) (na b0 : Bool) (xs : List Nat) (u n1 : Nat) (w : World) (hx : Wrd w A n c xs) (_hs : xs.length ≤ 2147483648) (hd : decide (toZ na xs < 0) = b0) (hu0 : (toZ na xs).natAbs = u) (hn1 : (digs u).length = n1) (h2 : 2 < n1) :
    Calls Try.prog 33 #[.agg #[.bool na, .slice A n c]] w (RetIB (0) false w) := by
  obtain ⟨W, hW⟩ : ∃ W, W = w.alloc (.cells #[.bool na, .slice A n c] 24) := ⟨_, rfl⟩
  obtain ⟨⟨ca0, ca1⟩, ⟨fa0, fa1⟩, hbW⟩ := box1 w _ _ _ W hW
  have hc := i_Norm _ na xs W (intR_mk (hx.ext hbW)) _hs
  obtain ⟨z, hz⟩ : ∃ z, toZ na xs = z := ⟨_, rfl⟩
  rw [hz] at hc hd hu0
  have Hc := Lib.hid hc
  have Hd := Lib.hid hd
  have Hu0 := Lib.hid hu0
  have Hn1 := Lib.hid hn1
  have t0 : (n1 : Int) > 2 := (by omega); skip
  skip
  clear hx hc hz hd hu0 hn1
  generalize hUU : (u : Int) = U at *
  have HUU := Lib.hid hUU
  clear hUU
  go_enter Try.func33, Try.ntmps33
  go_wp2_with fail
  rw [← hW]
  clear hW
  ((with_reducible refine Hc.out.mono ?_); rintro e w1 ⟨v1, rfl, hv1, hb1⟩; obtain ⟨A1, k1, c1, rfl, hw1⟩ := intV_open hv1 Hd.out; rw [Hu0.out] at hw1; obtain rfl : k1 = n1 := (hw1.len.symm.trans Hn1.out); have su0 := kc ca0 hb1; have su1 := kc ca1 hb1; have sf0 := kf ca0 fa0 hb1; have sf1 := kf ca1 fa1 hb1; have hE1 : Ext w w1 := hbW.more hb1; have HE1 := Lib.hid (hE1.set2 (r := w.heap.size) (Nat.le_refl _) (.bool b0) (.slice A1 k1 c1)); have HW1 := Lib.hid (hw1.set2 (r := w.heap.size) (Slot.mk su0 su1 sf0 sf1) (.bool b0) (.slice A1 k1 c1)); have HQ := Lib.hid ((Slot.mk su0 su1 sf0 sf1).cells b0 A1 k1 c1); clear hw1 hv1 hb1)
  go_wp2_with fail
  go_wp2_with fail
  go_ret2
  exact ⟨rfl, HE1.out⟩

set_option maxRecDepth 100000 in
set_option maxHeartbeats 1600000 in
theorem iInt64_posok (A : Option Addr) (n c : Nat) (na b0 : Bool) (xs : List Nat) (u n1 : Nat) (w : World) (hx : Wrd w A n c xs) (_hs : xs.length ≤ 2147483648) (hd : decide (toZ na xs < 0) = b0) (hu0 : (toZ na xs).natAbs = u) (hn1 : (digs u).length = n1) (h2 : n1 ≤ 2) (hb : b0 = false) (hu : u ≤ 9223372036854775807) :
    Calls Try.prog 33 #[.agg #[.bool na, .slice A n c]] w (RetIB (u) true w) := by
  obtain ⟨W, hW⟩ : ∃ W, W = w.alloc (.cells #[.bool na, .slice A n c] 24) := ⟨_, rfl⟩
  obtain ⟨⟨ca0, ca1⟩, ⟨fa0, fa1⟩, hbW⟩ := box1 w _ _ _ W hW
  have hc := i_Norm _ na xs W (intR_mk (hx.ext hbW)) _hs
  obtain ⟨z, hz⟩ : ∃ z, toZ na xs = z := ⟨_, rfl⟩
  rw [hz] at hc hd hu0
  have Hc := Lib.hid hc
  have Hd := Lib.hid hd
  have Hu0 := Lib.hid hu0
  have Hn1 := Lib.hid hn1
  have t1 : (u : Int) ≤ 9223372036854775807 := (by omega); have t0 : ¬ (n1 : Int) > 2 := (by omega); subst hb; have Hu := Lib.hid hu; clear hu
  have HU : Hid (∀ {A' : Option Addr} {c' : Nat} (W' : World), Wrd W' A' n1 c' (digs u) → _) := Lib.hid (fun W' h => toUint_d h2 W' h)
  clear hx hc hz hd hu0 hn1
  generalize hUU : (u : Int) = U at *
  have HUU := Lib.hid hUU
  clear hUU
  go_enter Try.func33, Try.ntmps33
  go_wp2_with fail
  rw [← hW]
  clear hW
  ((with_reducible refine Hc.out.mono ?_); rintro e w1 ⟨v1, rfl, hv1, hb1⟩; obtain ⟨A1, k1, c1, rfl, hw1⟩ := intV_open hv1 Hd.out; rw [Hu0.out] at hw1; obtain rfl : k1 = n1 := (hw1.len.symm.trans Hn1.out); have su0 := kc ca0 hb1; have su1 := kc ca1 hb1; have sf0 := kf ca0 fa0 hb1; have sf1 := kf ca1 fa1 hb1; have hE1 : Ext w w1 := hbW.more hb1; have HE1 := Lib.hid (hE1.set2 (r := w.heap.size) (Nat.le_refl _) (.bool false) (.slice A1 k1 c1)); have HW1 := Lib.hid (hw1.set2 (r := w.heap.size) (Slot.mk su0 su1 sf0 sf1) (.bool false) (.slice A1 k1 c1)); have HQ := Lib.hid ((Slot.mk su0 su1 sf0 sf1).cells false A1 k1 c1); clear hw1 hv1 hb1)
  go_wp2_with fail; (go_at_call 69; (with_reducible refine (HU.out _ HW1.out).mono ?_); rintro e w3 ⟨rfl, hb3⟩; obtain ⟨q0, q1⟩ := HQ.out; have p0 := kc q0 hb3; have p1 := kc q1 hb3)
  go_wp2_with fail
  go_ret2
  exact ⟨ret_v (by have hu := Hu.out; have hUU := HUU.out; first | (show Value.tuple #[.int .i64 (wrap64 U), .bool true] = _; rw [pos64 (by omega)]) | rw [wrap_pos (by omega)]), (HE1.out.more hb3)⟩

set_option maxRecDepth 100000 in
set_option maxHeartbeats 1600000 in
theorem iInt64_posbad (A : Option Addr) (n c : Nat) (na b0 : Bool) (xs : List Nat) (u n1 : Nat) (w : World) (hx : Wrd w A n c xs) (_hs : xs.length ≤ 2147483648) (hd : decide (toZ na xs < 0) = b0) (hu0 : (toZ na xs).natAbs = u) (hn1 : (digs u).length = n1) (h2 : n1 ≤ 2) (hb : b0 = false) (hu : 9223372036854775807 < u) :
    Calls Try.prog 33 #[.agg #[.bool na, .slice A n c]] w (RetIB (0) false w) := by
  obtain ⟨W, hW⟩ : ∃ W, W = w.alloc (.cells #[.bool na, .slice A n c] 24) := ⟨_, rfl⟩
  obtain ⟨⟨ca0, ca1⟩, ⟨fa0, fa1⟩, hbW⟩ := box1 w _ _ _ W hW
  have hc := i_Norm _ na xs W (intR_mk (hx.ext hbW)) _hs
  obtain ⟨z, hz⟩ : ∃ z, toZ na xs = z := ⟨_, rfl⟩
  rw [hz] at hc hd hu0
  have Hc := Lib.hid hc
  have Hd := Lib.hid hd
  have Hu0 := Lib.hid hu0
  have Hn1 := Lib.hid hn1
  have t1 : ¬ (u : Int) ≤ 9223372036854775807 := (by omega); have t0 : ¬ (n1 : Int) > 2 := (by omega); subst hb; have Hu := Lib.hid hu; clear hu
  have HU : Hid (∀ {A' : Option Addr} {c' : Nat} (W' : World), Wrd W' A' n1 c' (digs u) → _) := Lib.hid (fun W' h => toUint_d h2 W' h)
  clear hx hc hz hd hu0 hn1
  generalize hUU : (u : Int) = U at *
  have HUU := Lib.hid hUU
  clear hUU
  go_enter Try.func33, Try.ntmps33
  go_wp2_with fail
  rw [← hW]
  clear hW
  ((with_reducible refine Hc.out.mono ?_); rintro e w1 ⟨v1, rfl, hv1, hb1⟩; obtain ⟨A1, k1, c1, rfl, hw1⟩ := intV_open hv1 Hd.out; rw [Hu0.out] at hw1; obtain rfl : k1 = n1 := (hw1.len.symm.trans Hn1.out); have su0 := kc ca0 hb1; have su1 := kc ca1 hb1; have sf0 := kf ca0 fa0 hb1; have sf1 := kf ca1 fa1 hb1; have hE1 : Ext w w1 := hbW.more hb1; have HE1 := Lib.hid (hE1.set2 (r := w.heap.size) (Nat.le_refl _) (.bool false) (.slice A1 k1 c1)); have HW1 := Lib.hid (hw1.set2 (r := w.heap.size) (Slot.mk su0 su1 sf0 sf1) (.bool false) (.slice A1 k1 c1)); have HQ := Lib.hid ((Slot.mk su0 su1 sf0 sf1).cells false A1 k1 c1); clear hw1 hv1 hb1)
  go_wp2_with fail; (go_at_call 69; (with_reducible refine (HU.out _ HW1.out).mono ?_); rintro e w3 ⟨rfl, hb3⟩; obtain ⟨q0, q1⟩ := HQ.out; have p0 := kc q0 hb3; have p1 := kc q1 hb3)
  go_wp2_with fail
  go_ret2
  exact ⟨rfl, (HE1.out.more hb3)⟩

set_option maxRecDepth 100000 in
set_option maxHeartbeats 1600000 in
theorem iInt64_negok (A : Option Addr) (n c : Nat) (na b0 : Bool) (xs : List Nat) (u n1 : Nat) (w : World) (hx : Wrd w A n c xs) (_hs : xs.length ≤ 2147483648) (hd : decide (toZ na xs < 0) = b0) (hu0 : (toZ na xs).natAbs = u) (hn1 : (digs u).length = n1) (h2 : n1 ≤ 2) (hb : b0 = true) (hu : u ≤ 9223372036854775808) :
    Calls Try.prog 33 #[.agg #[.bool na, .slice A n c]] w (RetIB (-(u : Int)) true w) := by
  obtain ⟨W, hW⟩ : ∃ W, W = w.alloc (.cells #[.bool na, .slice A n c] 24) := ⟨_, rfl⟩
  obtain ⟨⟨ca0, ca1⟩, ⟨fa0, fa1⟩, hbW⟩ := box1 w _ _ _ W hW
  have hc := i_Norm _ na xs W (intR_mk (hx.ext hbW)) _hs
  obtain ⟨z, hz⟩ : ∃ z, toZ na xs = z := ⟨_, rfl⟩
  rw [hz] at hc hd hu0
  have Hc := Lib.hid hc
  have Hd := Lib.hid hd
  have Hu0 := Lib.hid hu0
  have Hn1 := Lib.hid hn1
  have t1 : (u : Int) ≤ 9223372036854775808 := (by omega); have t0 : ¬ (n1 : Int) > 2 := (by omega); subst hb; have Hu := Lib.hid hu; clear hu
  have HU : Hid (∀ {A' : Option Addr} {c' : Nat} (W' : World), Wrd W' A' n1 c' (digs u) → _) := Lib.hid (fun W' h => toUint_d h2 W' h)
  clear hx hc hz hd hu0 hn1
  generalize hUU : (u : Int) = U at *
  have HUU := Lib.hid hUU
  clear hUU
  go_enter Try.func33, Try.ntmps33
  go_wp2_with fail
  rw [← hW]
  clear hW
  ((with_reducible refine Hc.out.mono ?_); rintro e w1 ⟨v1, rfl, hv1, hb1⟩; obtain ⟨A1, k1, c1, rfl, hw1⟩ := intV_open hv1 Hd.out; rw [Hu0.out] at hw1; obtain rfl : k1 = n1 := (hw1.len.symm.trans Hn1.out); have su0 := kc ca0 hb1; have su1 := kc ca1 hb1; have sf0 := kf ca0 fa0 hb1; have sf1 := kf ca1 fa1 hb1; have hE1 : Ext w w1 := hbW.more hb1; have HE1 := Lib.hid (hE1.set2 (r := w.heap.size) (Nat.le_refl _) (.bool true) (.slice A1 k1 c1)); have HW1 := Lib.hid (hw1.set2 (r := w.heap.size) (Slot.mk su0 su1 sf0 sf1) (.bool true) (.slice A1 k1 c1)); have HQ := Lib.hid ((Slot.mk su0 su1 sf0 sf1).cells true A1 k1 c1); clear hw1 hv1 hb1)
  go_wp2_with fail; (go_at_call 69; (with_reducible refine (HU.out _ HW1.out).mono ?_); rintro e w3 ⟨rfl, hb3⟩; obtain ⟨q0, q1⟩ := HQ.out; have p0 := kc q0 hb3; have p1 := kc q1 hb3)
  go_wp2_with fail
  go_ret2
  exact ⟨ret_v (by have hu := Hu.out; have hUU := HUU.out; first | rw [wrap_neg (by omega)] | (show Value.tuple #[.int .i64 (wrap64 (IntKind.u64.wrap (-U))), .bool true] = _; rw [neg64' (by omega)])), (HE1.out.more hb3)⟩

set_option maxRecDepth 100000 in
set_option maxHeartbeats 1600000 in
theorem iInt64_negbad (A : Option Addr) (n c : Nat) (na b0 : Bool) (xs : List Nat) (u n1 : Nat) (w : World) (hx : Wrd w A n c xs) (_hs : xs.length ≤ 2147483648) (hd : decide (toZ na xs < 0) = b0) (hu0 : (toZ na xs).natAbs = u) (hn1 : (digs u).length = n1) (h2 : n1 ≤ 2) (hb : b0 = true) (hu : 9223372036854775808 < u) :
    Calls Try.prog 33 #[.agg #[.bool na, .slice A n c]] w (RetIB (0) false w) := by
  obtain ⟨W, hW⟩ : ∃ W, W = w.alloc (.cells #[.bool na, .slice A n c] 24) := ⟨_, rfl⟩
  obtain ⟨⟨ca0, ca1⟩, ⟨fa0, fa1⟩, hbW⟩ := box1 w _ _ _ W hW
  have hc := i_Norm _ na xs W (intR_mk (hx.ext hbW)) _hs
  obtain ⟨z, hz⟩ : ∃ z, toZ na xs = z := ⟨_, rfl⟩
  rw [hz] at hc hd hu0
  have Hc := Lib.hid hc
  have Hd := Lib.hid hd
  have Hu0 := Lib.hid hu0
  have Hn1 := Lib.hid hn1
  have t1 : ¬ (u : Int) ≤ 9223372036854775808 := (by omega); have t0 : ¬ (n1 : Int) > 2 := (by omega); subst hb; have Hu := Lib.hid hu; clear hu
  have HU : Hid (∀ {A' : Option Addr} {c' : Nat} (W' : World), Wrd W' A' n1 c' (digs u) → _) := Lib.hid (fun W' h => toUint_d h2 W' h)
  clear hx hc hz hd hu0 hn1
  generalize hUU : (u : Int) = U at *
  have HUU := Lib.hid hUU
  clear hUU
  go_enter Try.func33, Try.ntmps33
  go_wp2_with fail
  rw [← hW]
  clear hW
  ((with_reducible refine Hc.out.mono ?_); rintro e w1 ⟨v1, rfl, hv1, hb1⟩; obtain ⟨A1, k1, c1, rfl, hw1⟩ := intV_open hv1 Hd.out; rw [Hu0.out] at hw1; obtain rfl : k1 = n1 := (hw1.len.symm.trans Hn1.out); have su0 := kc ca0 hb1; have su1 := kc ca1 hb1; have sf0 := kf ca0 fa0 hb1; have sf1 := kf ca1 fa1 hb1; have hE1 : Ext w w1 := hbW.more hb1; have HE1 := Lib.hid (hE1.set2 (r := w.heap.size) (Nat.le_refl _) (.bool true) (.slice A1 k1 c1)); have HW1 := Lib.hid (hw1.set2 (r := w.heap.size) (Slot.mk su0 su1 sf0 sf1) (.bool true) (.slice A1 k1 c1)); have HQ := Lib.hid ((Slot.mk su0 su1 sf0 sf1).cells true A1 k1 c1); clear hw1 hv1 hb1)
  go_wp2_with fail; (go_at_call 69; (with_reducible refine (HU.out _ HW1.out).mono ?_); rintro e w3 ⟨rfl, hb3⟩; obtain ⟨q0, q1⟩ := HQ.out; have p0 := kc q0 hb3; have p1 := kc q1 hb3)
  go_wp2_with fail
  go_ret2
  exact ⟨rfl, (HE1.out.more hb3)⟩

set_option maxRecDepth 100000 in
set_option maxHeartbeats 1600000 in
theorem r1Int64_big (A : Option Addr) (n c : Nat) (na b0 : Bool) (xs : List Nat) (u n1 : Nat) (w : World) (hx : Wrd w A n c xs) (_hs : xs.length ≤ 2147483648) (hd : decide (toZ na xs < 0) = b0) (hu0 : (toZ na xs).natAbs = u) (hn1 : (digs u).length = n1) (h2 : 2 < n1) :
    Calls Try.prog 34 #[.agg #[.bool na, .slice A n c]] w (RetIB (0) false w) := by
  obtain ⟨W, hW⟩ : ∃ W, W = w.alloc (.cells #[.bool na, .slice A n c] 24) := ⟨_, rfl⟩
  obtain ⟨⟨ca0, ca1⟩, ⟨fa0, fa1⟩, hbW⟩ := box1 w _ _ _ W hW
  have hc := r1_Norm _ na xs W (intR_mk (hx.ext hbW))
  obtain ⟨z, hz⟩ : ∃ z, toZ na xs = z := ⟨_, rfl⟩
  rw [hz] at hc hd hu0
  have Hc := Lib.hid hc
  have Hd := Lib.hid hd
  have Hu0 := Lib.hid hu0
  have Hn1 := Lib.hid hn1
  have t0 : (n1 : Int) > 2 := (by omega); skip
  skip
  clear hx hc hz hd hu0 hn1
  generalize hUU : (u : Int) = U at *
  have HUU := Lib.hid hUU
  clear hUU
  go_enter Try.func34, Try.ntmps34
  go_wp2_with fail
  rw [← hW]
  clear hW
  ((with_reducible refine Hc.out.mono ?_); rintro e w1 ⟨v1, rfl, hv1, hb1⟩; obtain ⟨A1, k1, c1, rfl, hw1⟩ := intV_open hv1 Hd.out; rw [Hu0.out] at hw1; obtain rfl : k1 = n1 := (hw1.len.symm.trans Hn1.out); have su0 := kc ca0 hb1; have su1 := kc ca1 hb1; have sf0 := kf ca0 fa0 hb1; have sf1 := kf ca1 fa1 hb1; have hE1 : Ext w w1 := hbW.more hb1; have HE1 := Lib.hid (hE1.set2 (r := w.heap.size) (Nat.le_refl _) (.bool b0) (.slice A1 k1 c1)); have HW1 := Lib.hid (hw1.set2 (r := w.heap.size) (Slot.mk su0 su1 sf0 sf1) (.bool b0) (.slice A1 k1 c1)); have HQ := Lib.hid ((Slot.mk su0 su1 sf0 sf1).cells b0 A1 k1 c1); clear hw1 hv1 hb1)
  go_wp2_with fail
  go_wp2_with fail
  go_ret2
  exact ⟨rfl, HE1.out⟩

set_option maxRecDepth 100000 in
set_option maxHeartbeats 1600000 in
theorem r1Int64_posok (A : Option Addr) (n c : Nat) (na b0 : Bool) (xs : List Nat) (u n1 : Nat) (w : World) (hx : Wrd w A n c xs) (_hs : xs.length ≤ 2147483648) (hd : decide (toZ na xs < 0) = b0) (hu0 : (toZ na xs).natAbs = u) (hn1 : (digs u).length = n1) (h2 : n1 ≤ 2) (hb : b0 = false) (hu : u ≤ 9223372036854775807) :
    Calls Try.prog 34 #[.agg #[.bool na, .slice A n c]] w (RetIB (u) true w) := by
  obtain ⟨W, hW⟩ : ∃ W, W = w.alloc (.cells #[.bool na, .slice A n c] 24) := ⟨_, rfl⟩
  obtain ⟨⟨ca0, ca1⟩, ⟨fa0, fa1⟩, hbW⟩ := box1 w _ _ _ W hW
  have hc := r1_Norm _ na xs W (intR_mk (hx.ext hbW))
  obtain ⟨z, hz⟩ : ∃ z, toZ na xs = z := ⟨_, rfl⟩
  rw [hz] at hc hd hu0
  have Hc := Lib.hid hc
  have Hd := Lib.hid hd
  have Hu0 := Lib.hid hu0
  have Hn1 := Lib.hid hn1
  have t1 : (u : Int) ≤ 9223372036854775807 := (by omega); have t0 : ¬ (n1 : Int) > 2 := (by omega); subst hb; have Hu := Lib.hid hu; clear hu
  have HU : Hid (∀ {A' : Option Addr} {c' : Nat} (W' : World), Wrd W' A' n1 c' (digs u) → _) := Lib.hid (fun W' h => short_d h2 W' h)
  clear hx hc hz hd hu0 hn1
  generalize hUU : (u : Int) = U at *
  have HUU := Lib.hid hUU
  clear hUU
  go_enter Try.func34, Try.ntmps34
  go_wp2_with fail
  rw [← hW]
  clear hW
  ((with_reducible refine Hc.out.mono ?_); rintro e w1 ⟨v1, rfl, hv1, hb1⟩; obtain ⟨A1, k1, c1, rfl, hw1⟩ := intV_open hv1 Hd.out; rw [Hu0.out] at hw1; obtain rfl : k1 = n1 := (hw1.len.symm.trans Hn1.out); have su0 := kc ca0 hb1; have su1 := kc ca1 hb1; have sf0 := kf ca0 fa0 hb1; have sf1 := kf ca1 fa1 hb1; have hE1 : Ext w w1 := hbW.more hb1; have HE1 := Lib.hid (hE1.set2 (r := w.heap.size) (Nat.le_refl _) (.bool false) (.slice A1 k1 c1)); have HW1 := Lib.hid (hw1.set2 (r := w.heap.size) (Slot.mk su0 su1 sf0 sf1) (.bool false) (.slice A1 k1 c1)); have HQ := Lib.hid ((Slot.mk su0 su1 sf0 sf1).cells false A1 k1 c1); clear hw1 hv1 hb1)
  go_wp2_with fail; (go_at_call 71; (with_reducible refine (HU.out _ HW1.out).mono ?_); rintro e w' ⟨rfl, rfl⟩)
  go_wp2_with fail
  go_ret2
  exact ⟨ret_v (by have hu := Hu.out; have hUU := HUU.out; first | (show Value.tuple #[.int .i64 (wrap64 U), .bool true] = _; rw [pos64 (by omega)]) | rw [wrap_pos (by omega)]), HE1.out⟩

set_option maxRecDepth 100000 in
set_option maxHeartbeats 1600000 in
theorem r1Int64_posbad (A : Option Addr) (n c : Nat) (na b0 : Bool) (xs : List Nat) (u n1 : Nat) (w : World) (hx : Wrd w A n c xs) (_hs : xs.length ≤ 2147483648) (hd : decide (toZ na xs < 0) = b0) (hu0 : (toZ na xs).natAbs = u) (hn1 : (digs u).length = n1) (h2 : n1 ≤ 2) (hb : b0 = false) (hu : 9223372036854775807 < u) :
    Calls Try.prog 34 #[.agg #[.bool na, .slice A n c]] w (RetIB (0) false w) := by
  obtain ⟨W, hW⟩ : ∃ W, W = w.alloc (.cells #[.bool na, .slice A n c] 24) := ⟨_, rfl⟩
  obtain ⟨⟨ca0, ca1⟩, ⟨fa0, fa1⟩, hbW⟩ := box1 w _ _ _ W hW
  have hc := r1_Norm _ na xs W (intR_mk (hx.ext hbW))
  obtain ⟨z, hz⟩ : ∃ z, toZ na xs = z := ⟨_, rfl⟩
  rw [hz] at hc hd hu0
  have Hc := Lib.hid hc
  have Hd := Lib.hid hd
  have Hu0 := Lib.hid hu0
  have Hn1 := Lib.hid hn1
  have t1 : (9223372036854775808 : Int) ≤ u := (by omega); have t0 : ¬ (n1 : Int) > 2 := (by omega); subst hb; have Hu := Lib.hid hu; clear hu
  have HU : Hid (∀ {A' : Option Addr} {c' : Nat} (W' : World), Wrd W' A' n1 c' (digs u) → _) := Lib.hid (fun W' h => short_d h2 W' h)
  clear hx hc hz hd hu0 hn1
  generalize hUU : (u : Int) = U at *
  have HUU := Lib.hid hUU
  clear hUU
  go_enter Try.func34, Try.ntmps34
  go_wp2_with fail
  rw [← hW]
  clear hW
  ((with_reducible refine Hc.out.mono ?_); rintro e w1 ⟨v1, rfl, hv1, hb1⟩; obtain ⟨A1, k1, c1, rfl, hw1⟩ := intV_open hv1 Hd.out; rw [Hu0.out] at hw1; obtain rfl : k1 = n1 := (hw1.len.symm.trans Hn1.out); have su0 := kc ca0 hb1; have su1 := kc ca1 hb1; have sf0 := kf ca0 fa0 hb1; have sf1 := kf ca1 fa1 hb1; have hE1 : Ext w w1 := hbW.more hb1; have HE1 := Lib.hid (hE1.set2 (r := w.heap.size) (Nat.le_refl _) (.bool false) (.slice A1 k1 c1)); have HW1 := Lib.hid (hw1.set2 (r := w.heap.size) (Slot.mk su0 su1 sf0 sf1) (.bool false) (.slice A1 k1 c1)); have HQ := Lib.hid ((Slot.mk su0 su1 sf0 sf1).cells false A1 k1 c1); clear hw1 hv1 hb1)
  go_wp2_with fail; (go_at_call 71; (with_reducible refine (HU.out _ HW1.out).mono ?_); rintro e w' ⟨rfl, rfl⟩)
  go_wp2_with fail
  go_ret2
  exact ⟨rfl, HE1.out⟩

set_option maxRecDepth 100000 in
set_option maxHeartbeats 1600000 in
theorem r1Int64_negok (A : Option Addr) (n c : Nat) (na b0 : Bool) (xs : List Nat) (u n1 : Nat) (w : World) (hx : Wrd w A n c xs) (_hs : xs.length ≤ 2147483648) (hd : decide (toZ na xs < 0) = b0) (hu0 : (toZ na xs).natAbs = u) (hn1 : (digs u).length = n1) (h2 : n1 ≤ 2) (hb : b0 = true) (hu : u ≤ 9223372036854775808) :
    Calls Try.prog 34 #[.agg #[.bool na, .slice A n c]] w (RetIB (-(u : Int)) true w) := by
  obtain ⟨W, hW⟩ : ∃ W, W = w.alloc (.cells #[.bool na, .slice A n c] 24) := ⟨_, rfl⟩
  obtain ⟨⟨ca0, ca1⟩, ⟨fa0, fa1⟩, hbW⟩ := box1 w _ _ _ W hW
  have hc := r1_Norm _ na xs W (intR_mk (hx.ext hbW))
  obtain ⟨z, hz⟩ : ∃ z, toZ na xs = z := ⟨_, rfl⟩
  rw [hz] at hc hd hu0
  have Hc := Lib.hid hc
  have Hd := Lib.hid hd
  have Hu0 := Lib.hid hu0
  have Hn1 := Lib.hid hn1
  have t1 : (u : Int) ≤ 9223372036854775808 := (by omega); have t0 : ¬ (n1 : Int) > 2 := (by omega); subst hb; have Hu := Lib.hid hu; clear hu
  have HU : Hid (∀ {A' : Option Addr} {c' : Nat} (W' : World), Wrd W' A' n1 c' (digs u) → _) := Lib.hid (fun W' h => short_d h2 W' h)
  clear hx hc hz hd hu0 hn1
  generalize hUU : (u : Int) = U at *
  have HUU := Lib.hid hUU
  clear hUU
  go_enter Try.func34, Try.ntmps34
  go_wp2_with fail
  rw [← hW]
  clear hW
  ((with_reducible refine Hc.out.mono ?_); rintro e w1 ⟨v1, rfl, hv1, hb1⟩; obtain ⟨A1, k1, c1, rfl, hw1⟩ := intV_open hv1 Hd.out; rw [Hu0.out] at hw1; obtain rfl : k1 = n1 := (hw1.len.symm.trans Hn1.out); have su0 := kc ca0 hb1; have su1 := kc ca1 hb1; have sf0 := kf ca0 fa0 hb1; have sf1 := kf ca1 fa1 hb1; have hE1 : Ext w w1 := hbW.more hb1; have HE1 := Lib.hid (hE1.set2 (r := w.heap.size) (Nat.le_refl _) (.bool true) (.slice A1 k1 c1)); have HW1 := Lib.hid (hw1.set2 (r := w.heap.size) (Slot.mk su0 su1 sf0 sf1) (.bool true) (.slice A1 k1 c1)); have HQ := Lib.hid ((Slot.mk su0 su1 sf0 sf1).cells true A1 k1 c1); clear hw1 hv1 hb1)
  go_wp2_with fail; (go_at_call 71; (with_reducible refine (HU.out _ HW1.out).mono ?_); rintro e w' ⟨rfl, rfl⟩)
  go_wp2_with fail
  go_ret2
  exact ⟨ret_v (by have hu := Hu.out; have hUU := HUU.out; first | rw [neg_wrap (by omega)] | (show Value.tuple #[.int .i64 (wrap64 (-wrap64 U)), .bool true] = _; rw [neg64 (by omega)])), HE1.out⟩

set_option maxRecDepth 100000 in
set_option maxHeartbeats 1600000 in
theorem r1Int64_negbad (A : Option Addr) (n c : Nat) (na b0 : Bool) (xs : List Nat) (u n1 : Nat) (w : World) (hx : Wrd w A n c xs) (_hs : xs.length ≤ 2147483648) (hd : decide (toZ na xs < 0) = b0) (hu0 : (toZ na xs).natAbs = u) (hn1 : (digs u).length = n1) (h2 : n1 ≤ 2) (hb : b0 = true) (hu : 9223372036854775808 < u) :
    Calls Try.prog 34 #[.agg #[.bool na, .slice A n c]] w (RetIB (0) false w) := by
  obtain ⟨W, hW⟩ : ∃ W, W = w.alloc (.cells #[.bool na, .slice A n c] 24) := ⟨_, rfl⟩
  obtain ⟨⟨ca0, ca1⟩, ⟨fa0, fa1⟩, hbW⟩ := box1 w _ _ _ W hW
  have hc := r1_Norm _ na xs W (intR_mk (hx.ext hbW))
  obtain ⟨z, hz⟩ : ∃ z, toZ na xs = z := ⟨_, rfl⟩
  rw [hz] at hc hd hu0
  have Hc := Lib.hid hc
  have Hd := Lib.hid hd
  have Hu0 := Lib.hid hu0
  have Hn1 := Lib.hid hn1
  have t1 : ¬ (u : Int) ≤ 9223372036854775808 := (by omega); have t0 : ¬ (n1 : Int) > 2 := (by omega); subst hb; have Hu := Lib.hid hu; clear hu
  have HU : Hid (∀ {A' : Option Addr} {c' : Nat} (W' : World), Wrd W' A' n1 c' (digs u) → _) := Lib.hid (fun W' h => short_d h2 W' h)
  clear hx hc hz hd hu0 hn1
  generalize hUU : (u : Int) = U at *
  have HUU := Lib.hid hUU
  clear hUU
  go_enter Try.func34, Try.ntmps34
  go_wp2_with fail
  rw [← hW]
  clear hW
  ((with_reducible refine Hc.out.mono ?_); rintro e w1 ⟨v1, rfl, hv1, hb1⟩; obtain ⟨A1, k1, c1, rfl, hw1⟩ := intV_open hv1 Hd.out; rw [Hu0.out] at hw1; obtain rfl : k1 = n1 := (hw1.len.symm.trans Hn1.out); have su0 := kc ca0 hb1; have su1 := kc ca1 hb1; have sf0 := kf ca0 fa0 hb1; have sf1 := kf ca1 fa1 hb1; have hE1 : Ext w w1 := hbW.more hb1; have HE1 := Lib.hid (hE1.set2 (r := w.heap.size) (Nat.le_refl _) (.bool true) (.slice A1 k1 c1)); have HW1 := Lib.hid (hw1.set2 (r := w.heap.size) (Slot.mk su0 su1 sf0 sf1) (.bool true) (.slice A1 k1 c1)); have HQ := Lib.hid ((Slot.mk su0 su1 sf0 sf1).cells true A1 k1 c1); clear hw1 hv1 hb1)
  go_wp2_with fail; (go_at_call 71; (with_reducible refine (HU.out _ HW1.out).mono ?_); rintro e w' ⟨rfl, rfl⟩)
  go_wp2_with fail
  go_ret2
  exact ⟨rfl, HE1.out⟩


/-- a number that fits 64 bits, and whether it does -/
def fit64 (z : Int) : Int × Bool := if -9223372036854775808 ≤ z ∧ z ≤ 9223372036854775807 then (z, true) else (0, false)
theorem iInt64 (va : Value) (na : Bool) (xs : List Nat) (w : World) (ha : IntR w va na xs) (hs : xs.length ≤ 2147483648) :
    Calls Try.prog 33 #[va] w (RetIB (fit64 (toZ na xs)).1 (fit64 (toZ na xs)).2 w) := by
  obtain ⟨A, n, c, rfl, hx⟩ := ha
  obtain ⟨z, hz⟩ : ∃ z, toZ na xs = z := ⟨_, rfl⟩
  have big : 2 < (digs z.natAbs).length → 18446744073709551616 ≤ z.natAbs := by
    intro h
    rcases Nat.lt_or_ge z.natAbs 18446744073709551616 with h1 | h1
    · have := digs_length_le (n := z.natAbs) (k := 2) (by omega)
      omega
    · exact h1
  by_cases h2 : 2 < (digs z.natAbs).length
  · have := big h2
    rw [hz, show fit64 z = (0, false) by unfold fit64; rw [if_neg (by omega)]]
    rw [← hz] at h2
    exact iInt64_big A n c na _ xs _ _ w hx hs rfl rfl rfl h2
  · by_cases hn : z < 0
    · by_cases hu : z.natAbs ≤ 9223372036854775808
      · rw [hz, show fit64 z = (-(z.natAbs : Int), true) by unfold fit64; rw [if_pos (by omega)]; congr 1; omega]
        rw [← hz] at h2 hu hn ⊢
        exact iInt64_negok A n c na _ xs _ _ w hx hs rfl rfl rfl (by omega) (decide_eq_true hn) hu
      · rw [hz, show fit64 z = (0, false) by unfold fit64; rw [if_neg (by omega)]]
        rw [← hz] at h2 hu hn
        exact iInt64_negbad A n c na _ xs _ _ w hx hs rfl rfl rfl (by omega) (decide_eq_true hn) (by omega)
    · by_cases hu : z.natAbs ≤ 9223372036854775807
      · rw [hz, show fit64 z = ((z.natAbs : Int), true) by unfold fit64; rw [if_pos (by omega)]; congr 1; omega]
        rw [← hz] at h2 hu hn ⊢
        exact iInt64_posok A n c na _ xs _ _ w hx hs rfl rfl rfl (by omega) (decide_eq_false hn) hu
      · rw [hz, show fit64 z = (0, false) by unfold fit64; rw [if_neg (by omega)]]
        rw [← hz] at h2 hu hn
        exact iInt64_posbad A n c na _ xs _ _ w hx hs rfl rfl rfl (by omega) (decide_eq_false hn) (by omega)

theorem r1Int64 (va : Value) (na : Bool) (xs : List Nat) (w : World) (ha : IntR w va na xs) (hs : xs.length ≤ 2147483648) :
    Calls Try.prog 34 #[va] w (RetIB (fit64 (toZ na xs)).1 (fit64 (toZ na xs)).2 w) := by
  obtain ⟨A, n, c, rfl, hx⟩ := ha
  obtain ⟨z, hz⟩ : ∃ z, toZ na xs = z := ⟨_, rfl⟩
  have big : 2 < (digs z.natAbs).length → 18446744073709551616 ≤ z.natAbs := by
    intro h
    rcases Nat.lt_or_ge z.natAbs 18446744073709551616 with h1 | h1
    · have := digs_length_le (n := z.natAbs) (k := 2) (by omega)
      omega
    · exact h1
  by_cases h2 : 2 < (digs z.natAbs).length
  · have := big h2
    rw [hz, show fit64 z = (0, false) by unfold fit64; rw [if_neg (by omega)]]
    rw [← hz] at h2
    exact r1Int64_big A n c na _ xs _ _ w hx hs rfl rfl rfl h2
  · by_cases hn : z < 0
    · by_cases hu : z.natAbs ≤ 9223372036854775808
      · rw [hz, show fit64 z = (-(z.natAbs : Int), true) by unfold fit64; rw [if_pos (by omega)]; congr 1; omega]
        rw [← hz] at h2 hu hn ⊢
        exact r1Int64_negok A n c na _ xs _ _ w hx hs rfl rfl rfl (by omega) (decide_eq_true hn) hu
      · rw [hz, show fit64 z = (0, false) by unfold fit64; rw [if_neg (by omega)]]
        rw [← hz] at h2 hu hn
        exact r1Int64_negbad A n c na _ xs _ _ w hx hs rfl rfl rfl (by omega) (decide_eq_true hn) (by omega)
    · by_cases hu : z.natAbs ≤ 9223372036854775807
      · rw [hz, show fit64 z = ((z.natAbs : Int), true) by unfold fit64; rw [if_pos (by omega)]; congr 1; omega]
        rw [← hz] at h2 hu hn ⊢
        exact r1Int64_posok A n c na _ xs _ _ w hx hs rfl rfl rfl (by omega) (decide_eq_false hn) hu
      · rw [hz, show fit64 z = (0, false) by unfold fit64; rw [if_neg (by omega)]]
        rw [← hz] at h2 hu hn
        exact r1Int64_posbad A n c na _ xs _ _ w hx hs rfl rfl rfl (by omega) (decide_eq_false hn) (by omega)


end Go.Proofs.Ytdmijpechdaniaa

