/- Pow of the reference. -/
import Derived.Test.YtdmijpechdaniaaRSub
namespace Go.Proofs.Ytdmijpechdaniaa
open Go.RowKit

theorem r1_MulV {va vb : Value} {a b : Int} {w : World} (ha : IntV w va a) (hb : IntV w vb b) (h1 : (digs a.natAbs).length ≤ 2147483648) (h2 : (digs b.natAbs).length ≤ 2147483648) :
    Calls Try.prog 16 #[va, vb] w (RetInt (a * b) w) := by
  have := r1_Mul va vb _ _ _ _ w ha hb h1 h2
  rwa [toZ_int, toZ_int] at this
theorem r1_MulR {va vb : Value} {a z p : Int} {nb : Bool} {ys : List Nat} {w : World} (ha : IntV w va a) (hb : IntR w vb nb ys) (hz : toZ nb ys = z) (hp : a * z = p) (h1 : (digs a.natAbs).length ≤ 2147483648) (h2 : ys.length ≤ 2147483648) :
    Calls Try.prog 16 #[va, vb] w (RetInt p w) := by
  have := r1_Mul va vb _ _ _ _ w ha hb h1 h2
  rwa [toZ_int, hz, hp] at this
theorem intV_open {w : World} {v : Value} {z : Int} {b : Bool} (h : IntV w v z) (hb : decide (z < 0) = b) : ∃ A n c, v = .agg #[.bool b, .slice A n c] ∧ Wrd w A n c (digs z.natAbs) := by
  obtain ⟨A, n, c, h1, h2⟩ := h
  exact ⟨A, n, c, by rw [h1, hb], h2⟩
theorem intV_of {w : World} {A : Option Addr} {n c : Nat} {z : Int} {b : Bool} (hb : decide (z < 0) = b) (h : Wrd w A n c (digs z.natAbs)) : IntV w (.agg #[.bool b, .slice A n c]) z := ⟨A, n, c, by rw [hb], h⟩
/-- the cells of a box just made -/
theorem new_box (w : World) (a0 a1 : Value) (t : TypeId) : ((w.alloc (.cells #[a0, a1] t)).cell? ⟨w.heap.size, 0, none⟩ = some a0 ∧ (w.alloc (.cells #[a0, a1] t)).cell? ⟨w.heap.size, 1, none⟩ = some a1) ∧ ((w.alloc (.cells #[a0, a1] t)).frozen? ⟨w.heap.size, 0, none⟩ = false ∧ (w.alloc (.cells #[a0, a1] t)).frozen? ⟨w.heap.size, 1, none⟩ = false) := by
  simp [go_sem]

set_option maxHeartbeats 3200000 in
theorem r1_power (K : Nat) (hK : K ≤ 2147483648) (k : Nat) : ∀ (va : Value) (na : Bool) (xs : List Nat) (w : World), IntR w va na xs → k ≤ 4096 → (max 1 (val xs)) ^ k < 4294967296 ^ K → xs.length ≤ 2147483648 →
    Calls Try.prog 60 #[va, .int .i64 k] w (RetInt (toZ na xs ^ k) w) := by
  induction k using Nat.strongRecOn with
  | _ k ih =>
    intro va na xs w ha hk hb hs
    obtain ⟨A, n, c, rfl, hx⟩ := ha
    obtain ⟨W, hW⟩ : ∃ W, W = (w.alloc (.cells #[.bool na, .slice A n c] 24)).alloc (.cells #[.bool false, .slice none 0 0] 24) := ⟨_, rfl⟩
    obtain ⟨⟨ca0, ca1⟩, ⟨cr0, cr1, fr0, fr1⟩, hbW⟩ := one_box w _ _ _ _ _ W hW
    have hxW := hx.ext hbW
    obtain ⟨z, hz⟩ : ∃ z, z = toZ na xs := ⟨_, rfl⟩
    rw [← hz]
    by_cases hk0 : k = 0
    · subst hk0
      rw [Int.pow_zero]
      clear ih hb hx hz hxW
      go_enter Try.func60, Try.ntmps60
      go_wp2_with fail
      rw [← hW]
      clear hW
      go_wp2_with (go_at_call 25; (with_reducible refine (r1_FromInt 1 (by decide) (by decide) _).mono ?_); rintro e w2 ⟨v2, rfl, ⟨A2, n2, c2, rfl, hw2⟩, hb2⟩; have hE2 : Ext W w2 := hb2; have su0 := kc cr0 hE2; have su1 := kc cr1 hE2; have sf0 := kf cr0 fr0 hE2; have sf1 := kf cr1 fr1 hE2)
      exact bodyPost_ret (v := .agg #[.bool false, .slice A2 n2 c2]) (by simp [results, Try.results60, go_sem, su0, su1]) rfl (fin_intb (z := 1) rfl su0 su1 hw2 (hbW.trans hE2) (by omega))
    · have hbz : (max 1 z.natAbs) ^ k < 4294967296 ^ K := by rw [hz, natAbs_toZ]; exact hb
      have hbd := fun j hj => pow_bound z j k K hbz hj hK
      have hih := fun W' h => ih (k / 2) (by omega) (.agg #[.bool na, .slice A n c]) na xs W' h (by omega) (Nat.lt_of_le_of_lt (Nat.pow_le_pow_right (by omega) (by omega)) hb) hs
      rw [← hz] at hih
      have hcast : ((k / 2 : Nat) : Int) = (k : Int) / 2 := by omega
      rw [hcast] at hih
      obtain ⟨j, hj⟩ : ∃ j, j = k / 2 := ⟨_, rfl⟩
      rw [← hj] at hih
      have hb1 := hbd j (by omega)
      have hb2 := hbd (2 * j) (by omega)
      have hsq : z ^ j * z ^ j = z ^ (2 * j) := by rw [← Int.pow_add]; congr 1; omega
      obtain ⟨b2, hb2d⟩ : ∃ b, decide (z ^ (2 * j) < 0) = b := ⟨_, rfl⟩
      obtain ⟨b1, hb1d⟩ : ∃ b, decide (z ^ j < 0) = b := ⟨_, rfl⟩
      obtain ⟨bk, hbkd⟩ : ∃ b, decide (z ^ k < 0) = b := ⟨_, rfl⟩
      have Hih := Lib.hid hih
      have Hx := Lib.hid hxW
      have Hz := Lib.hid hz
      have Hb1 := Lib.hid hb1
      have Hb2 := Lib.hid hb2
      have Hsq := Lib.hid hsq
      have Hb1d := Lib.hid hb1d
      have Hb2d := Lib.hid hb2d
      have Hbkd := Lib.hid hbkd
      have Hj := Lib.hid hj
      clear ih hx hz hxW hih hcast hbd hb1 hb2 hsq hb1d hb2d hbkd hj hb hbz
      by_cases ho : k % 2 = 1
      · have t1 : ((k : Int) % 2 == 1) = true := by simp; omega
        have hp : z ^ (2 * j) * z = z ^ k := by rw [← Int.pow_succ]; congr 1; have := Hj.out; omega
        have Hp := Lib.hid hp
        clear hp ho
        go_enter Try.func60, Try.ntmps60
        go_wp2_with fail
        rw [← hW]
        clear hW
        ((with_reducible refine (Hih.out _ (intR_mk Hx.out)).mono ?_); rintro e w1 ⟨v1, rfl, hv1, hb1⟩; obtain ⟨A1, n1, c1, rfl, hw1⟩ := intV_open hv1 Hb1d.out; have HE1 := Lib.hid ((show Ext W w1 from hb1).alloc (.cells #[.bool b1, .slice A1 n1 c1] 24)); have HV1 := Lib.hid (IntV.below (intV_of Hb1d.out hw1) (below_alloc w1 (.cells #[.bool b1, .slice A1 n1 c1] 24))); clear hv1 hb1 hw1)
        go_wp2_with fail
        ((with_reducible refine (r1_MulV HV1.out HV1.out Hb1.out Hb1.out).mono ?_); rw [Hsq.out]; rintro e w2 ⟨v2, rfl, hv2, hb2⟩; obtain ⟨A2, n2, c2, rfl, hw2⟩ := intV_open hv2 Hb2d.out; have hws : W.heap.size ≤ w2.heap.size := (HE1.out.more hb2 : Below _ _ _).size; have HE2 := Lib.hid ((HE1.out.more hb2).alloc (.cells #[.bool b2, .slice A2 n2 c2] 24)); have HV2 := Lib.hid (IntV.below (intV_of Hb2d.out hw2) (below_alloc w2 (.cells #[.bool b2, .slice A2 n2 c2] 24))); obtain ⟨⟨q0, q1⟩, ⟨q2, q3⟩⟩ := new_box w2 (.bool b2) (.slice A2 n2 c2) 24; have a0 := kc' ca0 HE2.out; have a1 := kc' ca1 HE2.out; have r0 := kc' cr0 HE2.out; have r1 := kc' cr1 HE2.out; have r2 := kf' cr0 fr0 HE2.out; have r3 := kf' cr1 fr1 HE2.out; clear hv2 hb2 hw2)
        go_wp2_with fail
        ((with_reducible refine (r1_MulR HV2.out (intR_ext Hx.out HE2.out) Hz.out.symm Hp.out Hb2.out hs).mono ?_); rintro e w3 ⟨v3, rfl, hv3, hb3⟩; obtain ⟨A3, n3, c3, rfl, hw3⟩ := intV_open hv3 Hbkd.out; have HE3 := Lib.hid (HE2.out.more hb3); have s0 := kc q0 hb3; have s1 := kc q1 hb3; have s2 := kf q0 q2 hb3; have s3 := kf q1 q3 hb3; have u0 := kc' cr0 HE3.out; have u1 := kc' cr1 HE3.out; have u2 := kf' cr0 fr0 HE3.out; have u3 := kf' cr1 fr1 HE3.out)
        have HWs := Lib.hid (hw3.set2 (r := w2.heap.size) (Slot.mk s0 s1 s2 s3) (.bool bk) (.slice A3 n3 c3))
        have HEs := Lib.hid (HE3.out.set2 (r := w2.heap.size) hws (.bool bk) (.slice A3 n3 c3))
        have hg : w.heap.size + 1 ≠ w2.heap.size := by
          intro e
          have h1 := World.block_lt_of_cell? W _ cr0
          dsimp only at h1
          omega
        have v0 := cell_far2 (o1 := 0) (o2 := 1) (u1 := .bool bk) (u2 := .slice A3 n3 c3) (r := w2.heap.size) u0 (by dsimp only; exact hg)
        have v1 := cell_far2 (o1 := 0) (o2 := 1) (u1 := .bool bk) (u2 := .slice A3 n3 c3) (r := w2.heap.size) u1 (by dsimp only; exact hg)
        go_wp2_with fail
        have hfin := IntV.set2 (intV_of Hbkd.out HWs.out) (Slot.mk v0 v1 (by rw [World.frozen?_setCell, World.frozen?_setCell]; exact u2) (by rw [World.frozen?_setCell, World.frozen?_setCell]; exact u3)) (.bool bk) (.slice A3 n3 c3)
        exact bodyPost_ret (v := .agg #[.bool bk, .slice A3 n3 c3]) (by simp [results, Try.results60, go_sem, v0, v1]) rfl ⟨_, rfl, hfin, (hbW.trans HEs.out).set2 (by omega) _ _⟩
      · have t1 : ((k : Int) % 2 == 1) = false := by simp; omega
        have hkk : 2 * j = k := by have := Hj.out; omega
        have Hkk := Lib.hid hkk
        clear hkk ho
        go_enter Try.func60, Try.ntmps60
        go_wp2_with fail
        rw [← hW]
        clear hW
        ((with_reducible refine (Hih.out _ (intR_mk Hx.out)).mono ?_); rintro e w1 ⟨v1, rfl, hv1, hb1⟩; obtain ⟨A1, n1, c1, rfl, hw1⟩ := intV_open hv1 Hb1d.out; have HE1 := Lib.hid ((show Ext W w1 from hb1).alloc (.cells #[.bool b1, .slice A1 n1 c1] 24)); have HV1 := Lib.hid (IntV.below (intV_of Hb1d.out hw1) (below_alloc w1 (.cells #[.bool b1, .slice A1 n1 c1] 24))); clear hv1 hb1 hw1)
        go_wp2_with fail
        ((with_reducible refine (r1_MulV HV1.out HV1.out Hb1.out Hb1.out).mono ?_); rw [Hsq.out]; rintro e w2 ⟨v2, rfl, hv2, hb2⟩; obtain ⟨A2, n2, c2, rfl, hw2⟩ := intV_open hv2 Hb2d.out; have hws : W.heap.size ≤ w2.heap.size := (HE1.out.more hb2 : Below _ _ _).size; have HE2 := Lib.hid ((HE1.out.more hb2).alloc (.cells #[.bool b2, .slice A2 n2 c2] 24)); have HV2 := Lib.hid (IntV.below (intV_of Hb2d.out hw2) (below_alloc w2 (.cells #[.bool b2, .slice A2 n2 c2] 24))); obtain ⟨⟨q0, q1⟩, ⟨q2, q3⟩⟩ := new_box w2 (.bool b2) (.slice A2 n2 c2) 24; have a0 := kc' ca0 HE2.out; have a1 := kc' ca1 HE2.out; have r0 := kc' cr0 HE2.out; have r1 := kc' cr1 HE2.out; have r2 := kf' cr0 fr0 HE2.out; have r3 := kf' cr1 fr1 HE2.out; clear hv2 hb2 hw2)
        go_wp2_with fail
        have hfin := IntV.set2 HV2.out (Slot.mk r0 r1 r2 r3) (.bool b2) (.slice A2 n2 c2)
        rw [Hkk.out] at hfin
        exact bodyPost_ret (v := .agg #[.bool b2, .slice A2 n2 c2]) (by simp [results, Try.results60, go_sem, r0, r1]) rfl ⟨_, rfl, hfin, (hbW.trans HE2.out).set2 (by omega) _ _⟩

set_option maxHeartbeats 800000 in
theorem r1_Pow (va : Value) (na : Bool) (xs : List Nat) (k K : Nat) (w : World) (ha : IntR w va na xs) (hk : k ≤ 4096) (hK : K ≤ 2147483648) (hb : (max 1 (val xs)) ^ k < 4294967296 ^ K) (hs : xs.length ≤ 2147483648) :
    Calls Try.prog 22 #[va, .int .i64 k] w (RetE (toZ na xs ^ k) 0 w) := by
  obtain ⟨A, n, c, rfl, hx⟩ := ha
  obtain ⟨W, hW⟩ : ∃ W, W = (w.alloc (.cells #[.bool na, .slice A n c] 24)).alloc (.cells #[.bool false, .slice none 0 0] 24) := ⟨_, rfl⟩
  obtain ⟨⟨ca0, ca1⟩, ⟨cr0, cr1, fr0, fr1⟩, hbW⟩ := one_box w _ _ _ _ _ W hW
  have hc := r1_power K hK k _ na xs W (intR_mk (hx.ext hbW)) hk hb hs
  obtain ⟨z, hz⟩ : ∃ z, z = toZ na xs ^ k := ⟨_, rfl⟩
  rw [← hz] at hc ⊢
  have Hc := Lib.hid hc
  have hk0 : ¬ ((k : Int) < 0) := by omega
  have hk1 : ¬ ((k : Int) > 4096) := by omega
  clear hx hc hb hz
  go_enter Try.func22, Try.ntmps22
  go_wp2_with fail
  rw [← hW]
  clear hW
  go_wp2_with (go_at_call 60; (with_reducible refine Hc.out.mono ?_); rintro e w2 ⟨v2, rfl, ⟨A2, n2, c2, rfl, hw2⟩, hb2⟩; have hE2 : Ext W w2 := hb2; have su0 := kc cr0 hE2; have su1 := kc cr1 hE2; have sf0 := kf cr0 fr0 hE2; have sf1 := kf cr1 fr1 hE2)
  exact bodyPost_ret (v := .tuple #[.agg #[.bool (decide (z < 0)), .slice A2 n2 c2], .int .i64 0]) (by simp [results, Try.results22, go_sem, su0, su1]) rfl ⟨_, rfl, (intV_mk hw2).set2 (Slot.mk su0 su1 sf0 sf1) _ _, (hbW.trans hE2).set2 (by omega) _ _⟩

set_option maxHeartbeats 800000 in
theorem i_Pow_lo (va : Value) (na : Bool) (xs : List Nat) (k : Int) (w : World) (ha : IntR w va na xs) (hk : k < 0) :
    Calls Try.prog 21 #[va, .int .i64 k] w (RetE 0 1 w) := by
  obtain ⟨A, n, c, rfl, hx⟩ := ha
  obtain ⟨W, hW⟩ : ∃ W, W = (w.alloc (.cells #[.bool na, .slice A n c] 24)).alloc (.cells #[.bool false, .slice none 0 0] 24) := ⟨_, rfl⟩
  obtain ⟨⟨ca0, ca1⟩, ⟨cr0, cr1, fr0, fr1⟩, hbW⟩ := one_box w _ _ _ _ _ W hW
  have t0 : k < 0 := hk
  clear hx
  go_enter Try.func21, Try.ntmps21
  go_wp2_with fail
  rw [← hW]
  clear hW
  go_wp2_with fail
  exact bodyPost_ret (v := .tuple #[.agg #[.bool false, .slice none 0 0], .int .i64 1]) (by simp [results, Try.results21, go_sem, cr0, cr1]) rfl ⟨_, rfl, intV_zero _, by first | exact hbW | exact hbW.set2 (by omega) _ _⟩

set_option maxHeartbeats 800000 in
theorem i_Pow_hi (va : Value) (na : Bool) (xs : List Nat) (k : Int) (w : World) (ha : IntR w va na xs) (hk : 4096 < k) :
    Calls Try.prog 21 #[va, .int .i64 k] w (RetE 0 1 w) := by
  obtain ⟨A, n, c, rfl, hx⟩ := ha
  obtain ⟨W, hW⟩ : ∃ W, W = (w.alloc (.cells #[.bool na, .slice A n c] 24)).alloc (.cells #[.bool false, .slice none 0 0] 24) := ⟨_, rfl⟩
  obtain ⟨⟨ca0, ca1⟩, ⟨cr0, cr1, fr0, fr1⟩, hbW⟩ := one_box w _ _ _ _ _ W hW
  have t0 : ¬ k < 0 := (by omega); have t1 : k > 4096 := hk
  clear hx
  go_enter Try.func21, Try.ntmps21
  go_wp2_with fail
  rw [← hW]
  clear hW
  go_wp2_with fail
  exact bodyPost_ret (v := .tuple #[.agg #[.bool false, .slice none 0 0], .int .i64 1]) (by simp [results, Try.results21, go_sem, cr0, cr1]) rfl ⟨_, rfl, intV_zero _, by first | exact hbW | exact hbW.set2 (by omega) _ _⟩

set_option maxHeartbeats 800000 in
theorem r1_Pow_lo (va : Value) (na : Bool) (xs : List Nat) (k : Int) (w : World) (ha : IntR w va na xs) (hk : k < 0) :
    Calls Try.prog 22 #[va, .int .i64 k] w (RetE 0 1 w) := by
  obtain ⟨A, n, c, rfl, hx⟩ := ha
  obtain ⟨W, hW⟩ : ∃ W, W = (w.alloc (.cells #[.bool na, .slice A n c] 24)).alloc (.cells #[.bool false, .slice none 0 0] 24) := ⟨_, rfl⟩
  obtain ⟨⟨ca0, ca1⟩, ⟨cr0, cr1, fr0, fr1⟩, hbW⟩ := one_box w _ _ _ _ _ W hW
  have t0 : k < 0 := hk
  clear hx
  go_enter Try.func22, Try.ntmps22
  go_wp2_with fail
  rw [← hW]
  clear hW
  go_wp2_with fail
  exact bodyPost_ret (v := .tuple #[.agg #[.bool false, .slice none 0 0], .int .i64 1]) (by simp [results, Try.results22, go_sem, cr0, cr1]) rfl ⟨_, rfl, intV_zero _, by first | exact hbW | exact hbW.set2 (by omega) _ _⟩

set_option maxHeartbeats 800000 in
theorem r1_Pow_hi (va : Value) (na : Bool) (xs : List Nat) (k : Int) (w : World) (ha : IntR w va na xs) (hk : 4096 < k) :
    Calls Try.prog 22 #[va, .int .i64 k] w (RetE 0 1 w) := by
  obtain ⟨A, n, c, rfl, hx⟩ := ha
  obtain ⟨W, hW⟩ : ∃ W, W = (w.alloc (.cells #[.bool na, .slice A n c] 24)).alloc (.cells #[.bool false, .slice none 0 0] 24) := ⟨_, rfl⟩
  obtain ⟨⟨ca0, ca1⟩, ⟨cr0, cr1, fr0, fr1⟩, hbW⟩ := one_box w _ _ _ _ _ W hW
  have t0 : ¬ k < 0 := (by omega); have t1 : k > 4096 := hk
  clear hx
  go_enter Try.func22, Try.ntmps22
  go_wp2_with fail
  rw [← hW]
  clear hW
  go_wp2_with fail
  exact bodyPost_ret (v := .tuple #[.agg #[.bool false, .slice none 0 0], .int .i64 1]) (by simp [results, Try.results22, go_sem, cr0, cr1]) rfl ⟨_, rfl, intV_zero _, by first | exact hbW | exact hbW.set2 (by omega) _ _⟩


end Go.Proofs.Ytdmijpechdaniaa
