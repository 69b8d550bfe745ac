/- IntegerSqrt answers true. -/
import Derived.Test.YtdmijpechdaniaaLNorm
import Derived.Test.YtdmijpechdaniaaDivAll
import Derived.Test.YtdmijpechdaniaaAi
namespace Go.Proofs.Ytdmijpechdaniaa
open Go.ChangeShapes Go.WideShapes Go.ChangeAt Go.RowKit Go.Joins
attribute [local go_sem ↓] Go.wp_at_zero Go.wp_at_succ

set_option maxHeartbeats 800000 in
theorem i_Sqrt_neg (va : Value) (na : Bool) (xs : List Nat) (w : World) (ha : IntR w va na xs) (hs : sgn na xs = -1) :
    Calls Try.prog 23 #[va] w (RetE 0 7 w) := by
  obtain ⟨A, n, c, rfl, hx⟩ := ha
  obtain ⟨W, hW⟩ : ∃ W, W = (w.alloc (.cells #[.bool na, .slice A n c] 24)).alloc (.cells #[.bool false, .slice none 0 0] 24) := ⟨_, rfl⟩
  obtain ⟨⟨ca0, ca1⟩, ⟨cr0, cr1, fr0, fr1⟩, hbW⟩ := one_box w _ _ _ _ _ W hW
  have hsc := i_Sign (.agg #[.bool na, .slice A n c]) na xs W (intR_mk (hx.ext hbW))
  rw [hs] at hsc
  have Hsc := Lib.hid hsc
  clear hx hsc hs
  go_enter Try.func23, Try.ntmps23
  go_wp2_with fail
  rw [← hW]
  clear hW
  go_wp2_with (go_at_call 37; (with_reducible refine Hsc.out.mono ?_); rintro e w1 ⟨rfl, hb1⟩; have hE1 : Ext W w1 := hb1; have su0 := kc cr0 hE1; have su1 := kc cr1 hE1; have sf0 := kf cr0 fr0 hE1; have sf1 := kf cr1 fr1 hE1)
  exact bodyPost_ret (v := .tuple #[.agg #[.bool false, .slice none 0 0], .int .i64 7]) (by simp [results, Try.results23, go_sem, su0, su1]) rfl ⟨_, rfl, intV_zero _, by first | exact hbW.trans hE1 | exact (hbW.trans hE1).set2 (by omega) _ _⟩

set_option maxHeartbeats 800000 in
theorem i_Sqrt_zero (va : Value) (na : Bool) (xs : List Nat) (w : World) (ha : IntR w va na xs) (hs : sgn na xs = 0) :
    Calls Try.prog 23 #[va] w (RetE 0 0 w) := by
  obtain ⟨A, n, c, rfl, hx⟩ := ha
  obtain ⟨W, hW⟩ : ∃ W, W = (w.alloc (.cells #[.bool na, .slice A n c] 24)).alloc (.cells #[.bool false, .slice none 0 0] 24) := ⟨_, rfl⟩
  obtain ⟨⟨ca0, ca1⟩, ⟨cr0, cr1, fr0, fr1⟩, hbW⟩ := one_box w _ _ _ _ _ W hW
  have hsc := i_Sign (.agg #[.bool na, .slice A n c]) na xs W (intR_mk (hx.ext hbW))
  rw [hs] at hsc
  have Hsc := Lib.hid hsc
  clear hx hsc hs
  go_enter Try.func23, Try.ntmps23
  go_wp2_with fail
  rw [← hW]
  clear hW
  go_wp2_with (go_at_call 37; (with_reducible refine Hsc.out.mono ?_); rintro e w1 ⟨rfl, hb1⟩; have hE1 : Ext W w1 := hb1; have su0 := kc cr0 hE1; have su1 := kc cr1 hE1; have sf0 := kf cr0 fr0 hE1; have sf1 := kf cr1 fr1 hE1)
  exact bodyPost_ret (v := .tuple #[.agg #[.bool false, .slice none 0 0], .int .i64 0]) (by simp [results, Try.results23, go_sem, su0, su1]) rfl ⟨_, rfl, intV_zero _, by first | exact hbW.trans hE1 | exact (hbW.trans hE1).set2 (by omega) _ _⟩


theorem isq_exists (n : Nat) : ∃ r, r * r ≤ n ∧ n < (r + 1) * (r + 1) := by
  induction n with
  | zero => exact ⟨0, by decide, by decide⟩
  | succ n ih =>
    obtain ⟨r, h1, h2⟩ := ih
    by_cases h : n + 1 < (r + 1) * (r + 1)
    · exact ⟨r, by omega, h⟩
    · refine ⟨r + 1, by omega, ?_⟩
      have : (r + 1) * (r + 1) < (r + 1 + 1) * (r + 1 + 1) := Nat.mul_lt_mul_of_lt_of_le (by omega) (by omega) (by omega)
      omega
theorem isq_unique {n r t : Nat} (h1 : r * r ≤ n) (h2 : n < (r + 1) * (r + 1)) (h3 : t * t ≤ n) (h4 : n < (t + 1) * (t + 1)) : r = t := by
  rcases Nat.lt_trichotomy r t with h | h | h
  · exfalso
    have : (r + 1) * (r + 1) ≤ t * t := Nat.mul_le_mul h h
    omega
  · exact h
  · exfalso
    have : (t + 1) * (t + 1) ≤ r * r := Nat.mul_le_mul h h
    omega
/-- what Sqrt gives for a number that is not negative: the root rounded down -/
theorem iSqrt_pos (na : Bool) (xs : List Nat) (hs : xs.length ≤ 2147483) (h0 : 0 ≤ toZ na xs) : ∃ r : Nat, r * r ≤ val xs ∧ val xs < (r + 1) * (r + 1) ∧ toZ na xs = val xs ∧ ∀ (v : Value) (w : World), IntR w v na xs → Calls Try.prog 23 #[v] w (RetE r 0 w) := by
  obtain ⟨r, h1, h2⟩ := isq_exists (val xs)
  have hz : toZ na xs = val xs := by
    unfold toZ at *
    cases na
    · simp
    · simp only [if_true] at *; omega
  refine ⟨r, h1, h2, hz, fun v w h => ?_⟩
  rcases Nat.eq_zero_or_pos (val xs) with hv | hv
  · have hr : r = 0 := by
      rcases Nat.eq_zero_or_pos r with h3 | h3
      · exact h3
      · have := Nat.mul_le_mul h3 h3
        omega
    rw [hr]
    exact i_Sqrt_zero v na xs w h (by unfold sgn; rw [if_pos hv])
  · have hna : na = false := by
      cases na
      · rfl
      · unfold toZ at hz; simp only [if_true] at hz; omega
    subst hna
    refine (i_Sqrt v xs w h hs (fun b hb => divOk (by have := trim_length h.wd; unfold trim at this; omega) hb) hv).mono ?_
    rintro e w' ⟨t, h3, h4, h5⟩
    rw [isq_unique h1 h2 h3 h4]
    exact h5
theorem i_Sqrt_n (na : Bool) (xs : List Nat) (h0 : toZ na xs < 0) (v : Value) (w : World) (h : IntR w v na xs) : Calls Try.prog 23 #[v] w (RetE 0 7 w) :=
  i_Sqrt_neg v na xs w h (by rw [sgn_sign, Int.sign_eq_neg_one_of_neg h0])

theorem validB_int (z : Int) : validB (decide (z < 0)) (digs z.natAbs) = true := by
  unfold validB
  rw [trim_digs, decide_eq_true rfl]
  by_cases h : z < 0
  · have : 0 < (digs z.natAbs).length := by
      rcases Nat.eq_zero_or_pos (digs z.natAbs).length with h1 | h1
      · have := digs_eq_nil.1 (List.eq_nil_of_length_eq_zero h1); omega
      · exact h1
    simp [h, this]
  · simp [h]
theorem r1_ValidV {v : Value} {z : Int} {w : World} (h : IntV w v z) : Calls Try.prog 26 #[v] w (RetB true w) := by
  have := r1_Valid v _ _ w h
  rwa [validB_int] at this
theorem r1_CmpV {v va : Value} {z t o : Int} {na : Bool} {xs : List Nat} {w : World} (h : IntV w v z) (ha : IntR w va na xs) (ht : toZ na xs = t) (ho : ordI z t = o) (h1 : (digs z.natAbs).length ≤ 2147483648) (h2 : xs.length ≤ 2147483648) : Calls Try.prog 27 #[v, va] w (RetN o w) := by
  have := r1_Cmp v va _ na _ xs w h ha h1 h2
  rwa [toZ_int, ht, ho] at this
theorem ext6e {W w : World} {p1 p2 p3 p4 p5 p6 : Addr} {v1 v2 v3 v4 v5 v6 : Value} (h : w.cell? p1 = some v1 ∧ w.cell? p2 = some v2 ∧ w.cell? p3 = some v3 ∧ w.cell? p4 = some v4 ∧ w.cell? p5 = some v5 ∧ w.cell? p6 = some v6 ∧ Ext W w) : Ext W w := h.2.2.2.2.2.2
theorem sign_nat (k : Nat) : 0 ≤ (k : Int).sign := by
  rcases Nat.eq_zero_or_pos k with h | h
  · subst h; decide
  · rw [Int.sign_eq_one_of_pos (by omega)]; decide
/-- four cells that stand, the world grown -/
def Four (W : World) (p1 p2 p3 p4 : Addr) (v1 v2 v3 v4 : Value) (w : World) : Prop := w.cell? p1 = some v1 ∧ w.cell? p2 = some v2 ∧ w.cell? p3 = some v3 ∧ w.cell? p4 = some v4 ∧ Ext W w
theorem keeps_four {W : World} {p1 p2 p3 p4 : Addr} {v1 v2 v3 v4 : Value} (h1 : p1.block < W.heap.size) (h2 : p2.block < W.heap.size) (h3 : p3.block < W.heap.size) (h4 : p4.block < W.heap.size) : Keeps W.heap.size (Four W p1 p2 p3 p4 v1 v2 v3 v4) :=
  ⟨fun h hb => ⟨kc h.1 hb, kc h.2.1 hb, kc h.2.2.1 hb, kc h.2.2.2.1 hb, Ext.more h.2.2.2.2 hb⟩,
   fun h hg _ => ⟨cell_far2 h.1 (by omega), cell_far2 h.2.1 (by omega), cell_far2 h.2.2.1 (by omega), cell_far2 h.2.2.2.1 (by omega), Ext.set2 h.2.2.2.2 hg _ _⟩, fun h => (h.2.2.2.2 : Below _ _ _).size⟩
theorem digs_fit {n k : Nat} (h : n < 4294967296 ^ k) (hk : k ≤ 2147483648) : (digs (n : Int).natAbs).length ≤ 2147483648 := by
  rw [Int.natAbs_natCast]; exact Nat.le_trans (digs_length_le h) hk
theorem r1_AddV {va vb : Value} {a b z : Int} {w : World} (ha : IntV w va a) (hb : IntV w vb b) (hz : a + b = z) (h1 : (digs a.natAbs).length ≤ 2147483648) (h2 : (digs b.natAbs).length ≤ 2147483648) :
    Calls Try.prog 19 #[va, vb] w (RetInt z w) := by
  have := r1_Add va vb _ _ _ _ w ha hb h1 h2
  rwa [toZ_int, toZ_int, hz] at this

set_option maxRecDepth 100000 in
set_option maxHeartbeats 4000000 in
theorem l1_IntegerSqrt (va : Value) (na : Bool) (xs : List Nat) (w : World) (ha : IntR w va na xs) :
    Calls Try.prog 6 #[va] w (RetB true w) := by
  obtain ⟨A, n, c, rfl, hx⟩ := ha
  obtain ⟨W, hW⟩ : ∃ W, W = w.alloc (.cells #[.bool na, .slice A n c] 24) := ⟨_, rfl⟩
  obtain ⟨⟨ca0, ca1⟩, ⟨fa0, fa1⟩, hbW⟩ := box1 w _ _ _ W hW
  have hxl := hx.len
  have Hxl := Lib.hid hxl
  have Hx := Lib.hid hx
  obtain ⟨s, hs⟩ : ∃ s, decide (n ≤ 20) = s := ⟨_, rfl⟩
  have Hs := Lib.hid hs
  clear hx hxl hs
  go_enter Try.func6, Try.ntmps6
  go_wp2_with fail
  rw [← hW]
  clear hW
  ((with_reducible refine (l1_awake _).mono ?_); rintro e w1 ⟨rfl, hb1⟩; have hE1 : Ext w w1 := hbW.more hb1; have a0 := kc ca0 hb1; have a1 := kc ca1 hb1)
  go_wp2_with fail
  obtain ⟨⟨s0, s1⟩, -⟩ := new_box w1 (.bool na) (.slice A n c) 24
  have hs' := small_one Hs.out s0 s1
  ((with_reducible refine hs'.mono ?_); rintro e w2 ⟨rfl, hb2⟩; have hE2 : Ext w w2 := (hE1.alloc _).more hb2; have k2 := Below.trans (below_alloc w1 (.cells #[.bool na, .slice A n c] 24)) (hb2.mono (below_alloc w1 _).size); have d0 := kc a0 k2; have d1 := kc a1 k2)
  clear s0 s1 hs' k2 hb2 a0 a1 ca0 ca1 hb1
  cases s
  · go_wp2_with fail
    ((with_reducible refine (l1_awake _).mono ?_); rintro e w3 ⟨rfl, hb3⟩; have hE3 : Ext w w3 := hE2.more hb3)
    go_wp2_with fail
    go_ret
    exact ⟨rfl, hE3⟩
  · have hs := of_decide_eq_true Hs.out
    have l1 : xs.length ≤ 2147483648 := by rw [Hxl.out]; omega
    have l20 : xs.length ≤ 20 := by rw [Hxl.out]; omega
    clear hs
    by_cases hz : toZ na xs < 0
    · have hsq := i_Sqrt_n na xs hz
      have hsn : (toZ na xs).sign = -1 := Int.sign_eq_neg_one_of_neg hz
      have Hsq := Lib.hid hsq
      have Hsn := Lib.hid hsn
      clear hsq hsn hz
      go_wp2_with fail
      ((with_reducible refine (l1_cp _ na xs _ (intR_ext Hx.out hE2) (by omega)).mono ?_); rintro e w3 ⟨v3, rfl, hv3, hb3⟩; have hE3 := hE2.more hb3; have e30 := kc d0 hb3; have e31 := kc d1 hb3)
      go_wp2_with fail
      ((with_reducible refine (Hsq.out _ _ hv3).mono ?_); rintro e w4 ⟨v4, rfl, ⟨A4, n4, c4, rfl, hw4⟩, hb4⟩; have hE4 := hE3.more hb4; have e40 := kc e30 hb4; have e41 := kc e31 hb4; have f0 := kc' e40 ((Ext.refl w4).alloc (.cells #[.bool false, .slice A4 n4 c4] 24)); have f1 := kc' e41 ((Ext.refl w4).alloc (.cells #[.bool false, .slice A4 n4 c4] 24)); have hv4 : IntV (w4.alloc (.cells #[.bool false, .slice A4 n4 c4] 24)) (.agg #[.bool false, .slice A4 n4 c4]) 0 := ⟨_, _, _, rfl, hw4.alloc _⟩; obtain ⟨⟨q0, q1⟩, -⟩ := new_box w4 (.bool false) (.slice A4 n4 c4) 24)
      go_wp2_with fail
      ((with_reducible refine (r1_Sign _ na xs _ (intR_ext Hx.out (hE4.alloc _))).mono ?_); rw [Hsn.out]; rintro e w5 ⟨rfl, hb5⟩; have hE5 := (hE4.alloc (.cells #[.bool false, .slice A4 n4 c4] 24)).more hb5; have r0 := kc q0 hb5; have r1 := kc q1 hb5; have hv5 := IntV.below hv4 hb5)
      go_wp2_with fail
      ((with_reducible refine (sameV hv5 (intV_zero _)).mono ?_); rintro e w6 ⟨rfl, hb6⟩)
      go_wp2_with fail
      go_ret
      exact ⟨rfl, hE5.more hb6⟩
    · obtain ⟨R, hR1, hR2, hzv, hsq⟩ := iSqrt_pos na xs (by omega) (by omega)
      obtain ⟨sg, hsg⟩ : ∃ sg, (toZ na xs).sign = sg := ⟨_, rfl⟩
      have hsg0 : ¬ sg < 0 := by rw [← hsg, hzv]; have := sign_nat (val xs); omega
      have hb0 : decide ((R : Int) < 0) = false := by simp
      have hb1 : decide (((R + 1 : Nat) : Int) < 0) = false := by simp; omega
      have hvx := val_lt Hx.out.wd
      have hvx20 : val xs < 4294967296 ^ 20 := Nat.lt_of_lt_of_le hvx (Nat.pow_le_pow_right (by decide) l20)
      have hRle : R ≤ val xs := by
        rcases Nat.eq_zero_or_pos R with h | h
        · omega
        · exact Nat.le_trans (Nat.le_mul_of_pos_right R h) hR1
      have f1 : (digs (R : Int).natAbs).length ≤ 2147483648 := digs_fit (k := 20) (by omega) (by decide)
      have hp21 : (4294967296 : Nat) ^ 20 < 4294967296 ^ 21 := by decide
      have f2 : (digs ((R + 1 : Nat) : Int).natAbs).length ≤ 2147483648 := digs_fit (k := 21) (by omega) (by decide)
      have f3 : (digs (1 : Int).natAbs).length ≤ 2147483648 := by rw [show (1 : Int).natAbs = 1 from rfl, digs_small (by decide) (by decide)]; decide
      have hadd : (R : Int) + 1 = ((R + 1 : Nat) : Int) := by omega
      have f4 : (digs ((R : Int) * R).natAbs).length ≤ 2147483648 := by
        rw [← Int.natCast_mul]; exact digs_fit (k := 20) (by omega) (by decide)
      have f5 : (digs (((R + 1 : Nat) : Int) * ((R + 1 : Nat) : Int)).natAbs).length ≤ 2147483648 := by
        rw [← Int.natCast_mul]
        refine digs_fit (k := 21) ?_ (by decide)
        have e : (R + 1) * (R + 1) = R * R + 2 * R + 1 := by grind
        have : 4 * (4294967296 : Nat) ^ 20 < 4294967296 ^ 21 := by decide
        rw [e]
        omega
      have o1 : ordI ((R : Int) * R) (val xs) ≤ 0 := by
        unfold ordI
        have : ((R * R : Nat) : Int) ≤ val xs := by omega
        rw [Int.natCast_mul] at this
        split
        · decide
        · rw [if_neg (by omega)]; decide
      have o2 : ordI (((R + 1 : Nat) : Int) * ((R + 1 : Nat) : Int)) (val xs) = 1 := by
        apply ordI_gt
        rw [← Int.natCast_mul]
        omega
      have HO := Lib.hid (And.intro f4 (And.intro f5 (And.intro o1 o2)))
      clear f4 f5 o1 o2
      have Hsq := Lib.hid hsq
      have Hsg := Lib.hid hsg
      have Hb0 := Lib.hid hb0
      have Hb1 := Lib.hid hb1
      have HF := Lib.hid (And.intro f1 (And.intro f2 f3))
      have Hadd := Lib.hid hadd
      have HR := Lib.hid (And.intro hR1 (And.intro hR2 hzv))
      clear hsq hsg hb0 hb1 f1 f2 f3 hadd hR1 hR2 hzv hz hvx hvx20 hRle hp21
      obtain ⟨R1, hR1⟩ : ∃ R1 : Int, R1 = ((R + 1 : Nat) : Int) := ⟨_, rfl⟩
      rw [← hR1] at Hb1 HF Hadd HO
      have HR1 := Lib.hid hR1
      clear hR1
      go_wp2_with fail
      ((with_reducible refine (l1_cp _ na xs _ (intR_ext Hx.out hE2) (by omega)).mono ?_); rintro e w3 ⟨v3, rfl, hv3, hb3⟩; have hE3 := hE2.more hb3; have e30 := kc d0 hb3; have e31 := kc d1 hb3)
      go_wp2_with fail
      ((with_reducible refine (Hsq.out _ _ hv3).mono ?_); rintro e w4 ⟨v4, rfl, hv4, hb4⟩; obtain ⟨A4, n4, c4, rfl, hw4⟩ := intV_open hv4 Hb0.out; have hE4 := hE3.more hb4; have e40 := kc e30 hb4; have e41 := kc e31 hb4; have f0 := kc' e40 ((Ext.refl w4).alloc (.cells #[.bool false, .slice A4 n4 c4] 24)); have f1 := kc' e41 ((Ext.refl w4).alloc (.cells #[.bool false, .slice A4 n4 c4] 24)); have hv4' : IntV (w4.alloc (.cells #[.bool false, .slice A4 n4 c4] 24)) (.agg #[.bool false, .slice A4 n4 c4]) R := IntV.below hv4 (below_alloc _ _); obtain ⟨⟨q0, q1⟩, -⟩ := new_box w4 (.bool false) (.slice A4 n4 c4) 24; clear hv4)
      go_wp2_with fail
      ((with_reducible refine (r1_Sign _ na xs _ (intR_ext Hx.out (hE4.alloc _))).mono ?_); rw [Hsg.out]; rintro e w5 ⟨rfl, hb5⟩; have hE5 := (hE4.alloc (.cells #[.bool false, .slice A4 n4 c4] 24)).more hb5; have r0 := kc q0 hb5; have r1 := kc q1 hb5; have t0 := kc f0 hb5; have t1 := kc f1 hb5; have hv5 := IntV.below hv4' hb5)
      have hS0 : Four w5 ⟨w.heap.size, 0, none⟩ ⟨w.heap.size, 1, none⟩ ⟨w4.heap.size, 0, none⟩ ⟨w4.heap.size, 1, none⟩ (.bool na) (.slice A n c) (.bool false) (.slice A4 n4 c4) w5 := ⟨t0, t1, r0, r1, Ext.refl w5⟩
      have hKS : Keeps w5.heap.size (Four w5 ⟨w.heap.size, 0, none⟩ ⟨w.heap.size, 1, none⟩ ⟨w4.heap.size, 0, none⟩ ⟨w4.heap.size, 1, none⟩ (.bool na) (.slice A n c) (.bool false) (.slice A4 n4 c4)) :=
        keeps_four (World.block_lt_of_cell? w5 _ t0) (World.block_lt_of_cell? w5 _ t1) (World.block_lt_of_cell? w5 _ r0) (World.block_lt_of_cell? w5 _ r1)
      have HS0 := Lib.hid (hKS.grow hS0 (Below.drew (Below.refl _ _)))
      have HV5 := Lib.hid hv5
      clear e30 e31 e40 e41 f0 f1 q0 q1 r0 r1 t0 t1 hS0 hb3 hb4 hb5 hv3 hv4' hv5 hw4
      go_wp2_with fail
      go_cut [5] (fun v5 wx => DoneAt w5.heap.size wx v5 undef R1 ∧ Four w5 ⟨w.heap.size, 0, none⟩ ⟨w.heap.size, 1, none⟩ ⟨w4.heap.size, 0, none⟩ ⟨w4.heap.size, 1, none⟩ (.bool na) (.slice A n c) (.bool false) (.slice A4 n4 c4) wx)
      case first =>
        refine region_facts (by kernel_rfl) (by kernel_rfl) [31, 32, 33, 5] (FactF w5.heap.size [.is 31 (.agg #[.bool false, .slice A4 n4 c4]), .int 32 1, .int 33 R1, .box 5, .done 5 R1]) (fun _ w' => Four w5 ⟨w.heap.size, 0, none⟩ ⟨w.heap.size, 1, none⟩ ⟨w4.heap.size, 0, none⟩ ⟨w4.heap.size, 1, none⟩ (.bool na) (.slice A n c) (.bool false) (.slice A4 n4 c4) w') (held _) (puts_self _ _) HS0.out ⟨?s0, ?s1, ?s2, ?s3, ?s4, trivial⟩ ?fin
        case s0 =>
          intro x wr hB hd κ hκ
          have b0 := hB.2.2.1
          have b1 := hB.2.2.2.1
          refine ⟨?_⟩
          simp only [puts, Act.put, List.setIfInBounds_toArray, List.set_cons_zero, List.set_cons_succ]
          go_simp
          exact hκ _ _ (upd x 31 (.agg #[.bool false, .slice A4 n4 c4])) rfl hB (upd_same _ _ _) (fun k hk _ _ h => h.fill (ex := [0]) (Below.refl _ _) rfl (by simpa using hk))
        case s1 =>
          intro x wr hB hd κ hκ
          refine ⟨?_⟩
          simp only [puts, Act.put, List.setIfInBounds_toArray, List.set_cons_zero, List.set_cons_succ]
          go_simp
          refine (r1_FromInt 1 (by decide) (by decide) _).mono ?_
          rintro e w2 ⟨v, rfl, hv, hb⟩
          go_simp
          exact hκ _ _ (upd x 32 v) rfl (hKS.grow hB hb) (show IntV w2 (upd x 32 v 32) 1 by rw [upd_same]; exact hv) (fun k hk _ _ h => h.fill (ex := [1]) hb rfl (by simpa using hk))
        case s2 =>
          intro x wr hB hd κ hκ
          have h1 : x 31 = _ := hd 0 (by decide)
          have h2 : IntV wr (x 32) 1 := hd 1 (by decide)
          refine ⟨?_⟩
          simp only [puts, Act.put, List.setIfInBounds_toArray, List.set_cons_zero, List.set_cons_succ]
          go_simp
          refine (r1_AddV (HV5.out.ext hB.2.2.2.2) h2 Hadd.out HF.out.1 HF.out.2.2).mono ?_
          rintro e w2 ⟨v, rfl, hv, hb⟩
          go_simp
          exact hκ _ _ (upd x 33 v) (by rw [← h1]; rfl) (hKS.grow hB hb) (show IntV w2 (upd x 33 v 33) R1 by rw [upd_same]; exact hv) (fun k hk _ _ h => h.fill (ex := [2]) hb rfl (by simpa using hk))
        case s3 =>
          intro x wr hB hd κ hκ
          refine ⟨?_⟩
          simp only [puts, Act.put, List.setIfInBounds_toArray, List.set_cons_zero, List.set_cons_succ]
          go_simp
          exact hκ _ _ (upd x 5 (.pointer (some ⟨wr.heap.size, 0, none⟩))) rfl (hKS.grow hB (below_alloc _ _)) (show BoxAt _ _ (upd x 5 _ 5) undef by rw [upd_same]; exact boxAt_new (hKS.size hB)) (fun k hk _ hw h => h.fill (ex := [3, 4]) (below_alloc _ _) rfl (by simp only [List.mem_cons, List.not_mem_nil, or_false, not_or]; exact ⟨hk, by rintro rfl; exact absurd hw (by decide)⟩))
        case s4 =>
          intro x wr hB hd κ hκ
          obtain ⟨A1, n1, d1, v0, hw1⟩ : IntV wr (x 33) R1 := hd 2 (by decide)
          rw [Hb1.out] at v0
          obtain ⟨g, e0, e1, e2, e3⟩ : BoxAt _ wr (x 5) undef := hd 3 (by decide)
          have e2' := e2
          obtain ⟨u0, u1, c0, c1, f0, f1, i0, i1⟩ := e2'
          clear i0 i1
          have hR := Lib.hid (fun k (hk : FactF w5.heap.size [.is 31 (.agg #[.bool false, .slice A4 n4 c4]), .int 32 1, .int 33 R1, .box 5, .done 5 R1] k x wr) hne => FactF.store (b := false) (A := A1) (n := n1) (c := d1) (ex := [4]) hk e2 rfl hne)
          have hF := DoneAt.mk e0 e1 e2 hw1 e3
          rw [Hb1.out] at hF
          have HF := Lib.hid hF
          have hB2 := Lib.hid (hKS.store (b := false) (A := A1) (n := n1) (c := d1) hB e1 e2)
          clear hd hB hw1 e3 hF
          refine ⟨?_⟩
          simp only [puts, Act.put, List.setIfInBounds_toArray, List.set_cons_zero, List.set_cons_succ]
          go_simp
          refine hκ _ _ x ?_ hB2.out HF.out (fun k hk _ hw h => hR.out k h (by simpa using hk))
          simp only [puts, Act.put, List.setIfInBounds_toArray, List.set_cons_zero, List.set_cons_succ, e0, v0] <;> rfl
        case fin =>
          intro x wr hB hF
          have h4 : DoneAt w5.heap.size wr (x 5) undef R1 := hF 4 (by decide)
          simp only [puts, Act.put, List.setIfInBounds_toArray, List.set_cons_zero, List.set_cons_succ]
          have hT := And.intro h4 hB
          clear h4 hB hF
          go_wp2_with fail
          go_meet
          exact hT
      case rest =>
        obtain ⟨⟨g5, rfl, hg5, -, ⟨A5, n5, c5, p0, p1, hw5⟩, -⟩, hF4⟩ := hcut
        rw [Hb1.out] at p0
        have vR := HV5.out.ext hF4.2.2.2.2
        have vN : IntV wc (.agg #[.bool false, .slice A5 n5 c5]) R1 := intV_of Hb1.out hw5
        have hW0 : Ext w wc := Ext.trans hE5 hF4.2.2.2.2
        have hH := keep6 ⟨hF4.1, hF4.2.1, hF4.2.2.1, hF4.2.2.2.1, p0, p1, Ext.refl wc⟩ (Below.drew (Below.refl _ _))
        obtain ⟨sR, hsR⟩ : ∃ sR, (R : Int).sign = sR := ⟨_, rfl⟩
        have hsR0 : 0 ≤ sR := by rw [← hsR]; exact sign_nat R
        obtain ⟨o1, ho1⟩ : ∃ o1, ordI ((R : Int) * R) (val xs) = o1 := ⟨_, rfl⟩
        have ho1' : o1 ≤ 0 := by rw [← ho1]; exact HO.out.2.2.1
        have VR := Lib.hid vR
        have VN := Lib.hid vN
        have HW0 := Lib.hid hW0
        have HsR := Lib.hid hsR
        have Ho1 := Lib.hid ho1
        clear hF4 p0 p1 hw5 vR vN hW0 hsR ho1 hKS HS0 HV5
        go_wp2_with fail
        go_region_held3 (fun w' => w'.cell? ⟨w.heap.size, 0, none⟩ = some (.bool na) ∧ w'.cell? ⟨w.heap.size, 1, none⟩ = some (.slice A n c) ∧ w'.cell? ⟨w4.heap.size, 0, none⟩ = some (.bool false) ∧ w'.cell? ⟨w4.heap.size, 1, none⟩ = some (.slice A4 n4 c4) ∧ w'.cell? ⟨g5, 0, none⟩ = some (.bool false) ∧ w'.cell? ⟨g5, 1, none⟩ = some (.slice A5 n5 c5) ∧ Ext wc w')
          (with_reducible first | exact hH | assumption | exact keep6 (by assumption) (by assumption))
          (first
            | ((go_at_call 26; (with_reducible refine (r1_ValidV (VR.out.ext (ext6e (by assumption)))).mono ?_); rintro e wa ⟨rfl, hba⟩))
            | ((go_at_call 24; (with_reducible refine (r1_SignV (VR.out.ext (ext6e (by assumption)))).mono ?_); rw [HsR.out]; rintro e wa ⟨rfl, hbb⟩))
            | ((go_at_call 16; (with_reducible refine (r1_MulV (VR.out.ext (ext6e (by assumption))) (VR.out.ext (ext6e (by assumption))) HF.out.1 HF.out.1).mono ?_); rintro e wd ⟨vd, rfl, hvd, hbd⟩))
            | ((go_at_call 16; (with_reducible refine (r1_MulV (VN.out.ext (ext6e (by assumption))) (VN.out.ext (ext6e (by assumption))) HF.out.2.1 HF.out.2.1).mono ?_); rintro e wd ⟨vd2, rfl, hvd2, hbd2⟩))
            | ((go_at_call 27; (with_reducible refine (r1_CmpV hvd2 (intR_ext Hx.out (HW0.out.trans (ext6e (by assumption)))) HR.out.2.2 HO.out.2.2.2 HO.out.2.1 l1).mono ?_); rintro e wf ⟨rfl, hbf⟩; have hE8 := Ext.more (ext6e (by with_reducible assumption)) hbf))
            | ((go_at_call 27; (with_reducible refine (r1_CmpV hvd (intR_ext Hx.out (HW0.out.trans (ext6e (by assumption)))) HR.out.2.2 Ho1.out HO.out.1 l1).mono ?_); rintro e we ⟨rfl, hbe⟩)))
        go_wp2_with fail
        go_ret
        exact ⟨rfl, HW0.out.trans hE8⟩

set_option maxRecDepth 100000 in
theorem integerSqrt_lifted (os : Os) (started : os.Started) (H : Type) (enc : TypeId × Value → H) :
    ReturnsInHanded {} Try.checked os 6 .any (Rows.integerSqrtSpec.pre6 enc Try.prog Try.f6 Rows.integerSqrtRow.domain false) (Rows.integerSqrtSpec.post enc Try.prog Try.f6 false true false false) := by
  refine returnsInHanded_of_change (C := Try.checked) Try.own started (by kernel_rfl) Try.func6
    (ChangeSpec.witness6 (enc := enc) (C := Try.checked) false ⟨#[], #[.agg #[.bool false, .slice none 0 0]], []⟩ 8 (by kernel_rfl) (by kernel_rfl) (by kernel_rfl) (by kernel_rfl)) ?_
  intro W base args ds gs before hval0 hW _ _
  have hval : ∀ (j : Nat) t v, Try.f6.params[j]? = some t → args[j]? = some v → Value.okWide Try.prog W .any base t v := hval0
  have hW' := hW
  obtain ⟨p, q, hA0, hV, rfl, hfz, hnd⟩ := hW
  have hA : DataW.TrodAll enc Try.prog W 0 (fun _ => true) true Try.f6.params.toList args.toList ds p := hA0
  rw [Try.params6] at hA hval
  obtain ⟨v0, d0, rfl, rfl, h0⟩ := trodAll_one hA
  obtain ⟨na, xs, ha⟩ := open_intR (hval 0 24 v0 rfl rfl) h0
  refine (l1_IntegerSqrt v0 na xs W ha).mono fun e W' ⟨he, hB⟩ => ?_
  subst he
  exact ⟨_, rfl, law_post hW' rfl (by kernel_rfl) (by kernel_rfl) (fun ds hl => by
    match ds, hl with
    | [_], _ => rfl) hB⟩

/-- **the given statement** -/
theorem integerSqrt_holds : Rows.IntegerSqrtSaid :=
  OpenClaim.holds_of_wide 6 Try.f6 rfl rfl rfl rfl rfl rfl rfl ⟨rfl, rfl, rfl, rfl, rfl⟩ rfl rfl rfl rfl rfl (by kernel_rfl) Try.func6 (by kernel_rfl)
    (of_decide_eq_true (by kernel_rfl)) (by unfold Func.isWrapper; rw [if_neg (of_decide_eq_false (by kernel_rfl))]; exact ⟨rfl, rfl⟩)
    (fun os started H enc _ => integerSqrt_lifted os started H enc)



end Go.Proofs.Ytdmijpechdaniaa
